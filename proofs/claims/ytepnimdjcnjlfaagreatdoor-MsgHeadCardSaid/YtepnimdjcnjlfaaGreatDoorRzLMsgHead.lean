/- The statement MsgHead of this seat is proved: the function of that name hands back true at whatever input it is given, and never panics. No condition beyond those of the given statement. -/
import Derived.Test.YtepnimdjcnjlfaaGreatDoorRzPHead
import Derived.Test.YtepnimdjcnjlfaaGreatDoorRows
import Derived.Test.YtepnimdjcnjlfaaGreatDoorCards
import Derived.Test.YtepnimdjcnjlfaaGreatDoorTie
import Derived.ProofKit
import Derived.LaidMore
import Derived.OpenShut
import Derived.Stop.Joined
import Derived.SevenTiedAt
import Derived.RowKit
namespace Go.Proofs.YtepnimdjcnjlfaaGreatDoor
open Go.Ab
set_option linter.unusedSimpArgs false
set_option linter.unusedVariables false
/-- interregnum/interregnumlaw09.MsgHead -/
def MsgHead_s (b : List Int) : Bool :=
  (bif decide ((5000 : Int) < (b.length : Int)) then
    law09_answers
  else
    (law09_answers && (decide (((msg_Head b).1 : Int) = (ref05_Head b).1))) && (ref05_SameNote ((msg_Head b).2) ((ref05_Head b).2)))
set_option maxRecDepth 100000 in
set_option maxHeartbeats 4000000 in
theorem MsgHead_s_pf_g (b : List Int) (ok_b : gdL (okI .u8) b) : PG Tryz.prog 4 [] [] [.sem (SL (eI .u8) b)] (fun _ : Unit => True) (fun _ => (fun (z : Bool) => ⟨[], [], .sc (.bool z)⟩) (MsgHead_s b)) := by
  refine pg_of (N := 32) (l := [.tmp 2]) Tryz.func4 rfl rfl rfl (Nat.le_of_ble_eq_true rfl) fun w0 i0 F βs => ?_
  refine aw_seq ?_
  refine aw_region ?_
  refine al_op rfl (g_assign (p := .sc (.bool false)) rfl rfl rfl rfl) ?_
  refine al_nil ?_
  refine aw_seq ?_
  refine aw_seq ?_
  refine aw_region ?_
  refine al_op rfl (g_move (p := .sem (SL (eI .u8) b)) rfl rfl rfl rfl) ?_
  refine al_op rfl (g_len rfl rfl rfl Tryz.underlying22 (isSl_sem rfl)) ?_
  refine al_op rfl (g_bin (u1 := .int .i64 (b.length : Int)) (u2 := .int .i64 5000) (v := .bool (decide ((5000 : Int) < (b.length : Int)))) rfl rfl rfl rfl rfl (fun _ => rfl)) ?_
  refine al_nil ?_
  refine aw_cond (b := decide ((5000 : Int) < (b.length : Int))) rfl (fun k1 => ?_) (fun k1 => ?_)
  · skip
    refine aw_seq ?_
    refine aw_region ?_
    refine al_op rfl (g_call (fn := Tryz.f6) (xs := []) (args := []) (r := .sc (.bool law09_answers)) rfl rfl rfl Tryz.func6 rfl rfl rfl rfl rfl (law09_answers_pf)) ?_
    refine al_op rfl (g_assign (p := .sc (.bool law09_answers)) rfl rfl rfl rfl) ?_
    refine al_nil ?_
    refine aw_ret ?_
    exact endG_mk (F := (fun (z : Bool) => ⟨[], [], .sc (.bool z)⟩)) (z := (MsgHead_s b)) (v := law09_answers) (bT k1 rfl) rfl (.one (.tmp 2 (.sc (.bool law09_answers)) rfl) (.one (.rfl _)) rfl) trivial trivial
  · skip
    refine aw_skip ?_
    refine aw_seq ?_
    refine aw_region ?_
    refine al_op rfl (g_move (p := .sem (SL (eI .u8) b)) rfl rfl rfl rfl) ?_
    refine al_op rfl (g_call (fn := Tryz.f11) (xs := [.tmp 12]) (args := [.sem (SL (eI .u8) b)]) (r := .tup [.sc (.int .i64 ((msg_Head b).1)), .agg (api_Note.cells ((msg_Head b).2))]) rfl rfl rfl Tryz.func11 rfl rfl rfl rfl rfl (msg_Head_pf b)) ?_
    refine al_op rfl (g_move (p := .tup [.sc (.int .i64 ((msg_Head b).1)), .agg (api_Note.cells ((msg_Head b).2))]) rfl rfl rfl rfl) ?_
    refine al_op rfl (g_extract (ps := [.sc (.int .i64 ((msg_Head b).1)), .agg (api_Note.cells ((msg_Head b).2))]) (p := .sc (.int .i64 ((msg_Head b).1))) rfl rfl rfl rfl rfl) ?_
    refine al_op rfl (g_extract (ps := [.sc (.int .i64 ((msg_Head b).1)), .agg (api_Note.cells ((msg_Head b).2))]) (p := .agg (api_Note.cells ((msg_Head b).2))) rfl rfl rfl rfl rfl) ?_
    refine al_op rfl (g_alloc (s := 4) (z := zv38) (qs := zc38) rfl rfl rfl rfl z38 rfl rfl) ?_
    refine al_op rfl (g_assign (p := .sc (.int .i64 ((msg_Head b).1))) rfl rfl rfl rfl) ?_
    refine al_op rfl (g_store (s := 4) (off := 0) (ps := zc38) (p := .agg (api_Note.cells ((msg_Head b).2))) (qs := (api_Note.cells ((msg_Head b).2))) rfl rfl ty38 rfl rfl rfl rfl rfl rfl rfl) ?_
    refine al_nil ?_
    refine aw_seq ?_
    refine aw_region ?_
    refine al_op rfl (g_move (p := .sem (SL (eI .u8) b)) rfl rfl rfl rfl) ?_
    refine al_op rfl (g_call (fn := Tryz.f12) (xs := [.tmp 17]) (args := [.sem (SL (eI .u8) b)]) (r := .tup [.sc (.int .i64 ((ref05_Head b).1)), .agg (api_Note.cells ((ref05_Head b).2))]) rfl rfl rfl Tryz.func12 rfl rfl rfl rfl rfl (ref05_Head_pf b)) ?_
    refine al_op rfl (g_move (p := .tup [.sc (.int .i64 ((ref05_Head b).1)), .agg (api_Note.cells ((ref05_Head b).2))]) rfl rfl rfl rfl) ?_
    refine al_op rfl (g_extract (ps := [.sc (.int .i64 ((ref05_Head b).1)), .agg (api_Note.cells ((ref05_Head b).2))]) (p := .sc (.int .i64 ((ref05_Head b).1))) rfl rfl rfl rfl rfl) ?_
    refine al_op rfl (g_extract (ps := [.sc (.int .i64 ((ref05_Head b).1)), .agg (api_Note.cells ((ref05_Head b).2))]) (p := .agg (api_Note.cells ((ref05_Head b).2))) rfl rfl rfl rfl rfl) ?_
    refine al_op rfl (g_alloc (s := 6) (z := zv38) (qs := zc38) rfl rfl rfl rfl z38 rfl rfl) ?_
    refine al_op rfl (g_assign (p := .sc (.int .i64 ((ref05_Head b).1))) rfl rfl rfl rfl) ?_
    refine al_op rfl (g_store (s := 6) (off := 0) (ps := zc38) (p := .agg (api_Note.cells ((ref05_Head b).2))) (qs := (api_Note.cells ((ref05_Head b).2))) rfl rfl ty38 rfl rfl rfl rfl rfl rfl rfl) ?_
    refine al_nil ?_
    refine aw_seq ?_
    refine aw_region ?_
    refine al_op rfl (g_call (fn := Tryz.f6) (xs := []) (args := []) (r := .sc (.bool law09_answers)) rfl rfl rfl Tryz.func6 rfl rfl rfl rfl rfl (law09_answers_pf)) ?_
    refine al_op rfl (g_move (p := .sc (.bool law09_answers)) rfl rfl rfl rfl) ?_
    refine al_gW (C := law09_answers) (p := .sc (.int .i64 ((msg_Head b).1))) (gd_T rfl rfl rfl rfl rfl) rfl rfl (fun g2 => g_move (p := .sc (.int .i64 ((msg_Head b).1))) rfl rfl rfl rfl) ?_
    refine al_gW (C := law09_answers) (p := .sc (.int .i64 ((ref05_Head b).1))) (gd_T rfl rfl rfl rfl rfl) rfl rfl (fun g3 => g_move (p := .sc (.int .i64 ((ref05_Head b).1))) rfl rfl rfl rfl) ?_
    refine al_gW (C := law09_answers) (p := .sc (.bool (decide (((msg_Head b).1 : Int) = (ref05_Head b).1)))) (gd_T rfl rfl rfl rfl rfl) rfl rfl (fun g4 => g_bin (u1 := .int .i64 ((msg_Head b).1)) (u2 := .int .i64 ((ref05_Head b).1)) (v := .bool (decide (((msg_Head b).1 : Int) = (ref05_Head b).1))) rfl rfl rfl (gt (p := .sc (.int .i64 ((msg_Head b).1))) (q := .sc undef) g4) (gt (p := .sc (.int .i64 ((ref05_Head b).1))) (q := .sc undef) g4) (fun _ => rfl)) ?_
    refine al_op rfl (g_andU (b := law09_answers) (y := decide (((msg_Head b).1 : Int) = (ref05_Head b).1)) rfl rfl rfl rfl rfl) ?_
    refine al_op rfl (g_move (p := .sc (.bool (law09_answers && (decide (((msg_Head b).1 : Int) = (ref05_Head b).1))))) rfl rfl rfl rfl) ?_
    refine al_gW (C := law09_answers && (decide (((msg_Head b).1 : Int) = (ref05_Head b).1))) (p := .agg (api_Note.cells ((msg_Head b).2))) (gd_T rfl rfl rfl rfl rfl) rfl rfl (fun g5 => g_load (s := 4) (off := 0) (ps := (api_Note.cells ((msg_Head b).2))) (p := .agg (api_Note.cells ((msg_Head b).2))) rfl rfl rfl ty38 rfl rfl rfl rfl rfl) ?_
    refine al_gW (C := law09_answers && (decide (((msg_Head b).1 : Int) = (ref05_Head b).1))) (p := .agg (api_Note.cells ((ref05_Head b).2))) (gd_T rfl rfl rfl rfl rfl) rfl rfl (fun g6 => g_load (s := 6) (off := 0) (ps := (api_Note.cells ((ref05_Head b).2))) (p := .agg (api_Note.cells ((ref05_Head b).2))) rfl rfl rfl ty38 rfl rfl rfl rfl rfl) ?_
    refine al_gW (C := law09_answers && (decide (((msg_Head b).1 : Int) = (ref05_Head b).1))) (p := .sc (.bool (ref05_SameNote ((msg_Head b).2) ((ref05_Head b).2)))) (gd_T rfl rfl rfl rfl rfl) rfl rfl (fun g7 => g_call (fn := Tryz.f9) (xs := [.tmp 28, .tmp 29]) (args := [.agg (api_Note.cells ((msg_Head b).2)), .agg (api_Note.cells ((ref05_Head b).2))]) (r := .sc (.bool (ref05_SameNote ((msg_Head b).2) ((ref05_Head b).2)))) rfl rfl rfl Tryz.func9 rfl rfl (congrS2 (b0 := .agg (api_Note.cells ((msg_Head b).2))) (b1 := .agg (api_Note.cells ((ref05_Head b).2))) (gt (p := .agg (api_Note.cells ((msg_Head b).2))) (q := .sc undef) g7) (gt (p := .agg (api_Note.cells ((ref05_Head b).2))) (q := .sc undef) g7)) rfl rfl (ref05_SameNote_pf ((msg_Head b).2) ((ref05_Head b).2))) ?_
    refine al_op rfl (g_andU (b := law09_answers && (decide (((msg_Head b).1 : Int) = (ref05_Head b).1))) (y := (ref05_SameNote ((msg_Head b).2) ((ref05_Head b).2))) rfl rfl rfl rfl rfl) ?_
    refine al_op rfl (g_assign (p := .sc (.bool ((law09_answers && (decide (((msg_Head b).1 : Int) = (ref05_Head b).1))) && (ref05_SameNote ((msg_Head b).2) ((ref05_Head b).2))))) rfl rfl rfl rfl) ?_
    refine al_nil ?_
    refine aw_ret ?_
    exact endG_mk (F := (fun (z : Bool) => ⟨[], [], .sc (.bool z)⟩)) (z := (MsgHead_s b)) (v := (law09_answers && (decide (((msg_Head b).1 : Int) = (ref05_Head b).1))) && (ref05_SameNote ((msg_Head b).2) ((ref05_Head b).2))) (bF k1 rfl) rfl (.one (.tmp 2 (.sc (.bool ((law09_answers && (decide (((msg_Head b).1 : Int) = (ref05_Head b).1))) && (ref05_SameNote ((msg_Head b).2) ((ref05_Head b).2))))) rfl) (.one (.rfl _)) rfl) trivial trivial
theorem MsgHead_s_pf (b : List Int) (ok_b : gdL (okI .u8) b) : PF Tryz.prog 4 [.sem (SL (eI .u8) b)] (.sc (.bool (MsgHead_s b))) := pf_ofG (MsgHead_s_pf_g b ok_b) rfl
theorem MsgHead_true (b : List Int) (o0 : okL (okI .u8) b) : MsgHead_s b = true := by
  unfold MsgHead_s
  rw [law09_true, Head_eq b (okL_gd o0), SameNote_refl]
  cases decide ((5000 : Int) < (b.length : Int)) with
  | true => rfl
  | false => simp
theorem MsgHead_ok (b : List Int) (o0 : okL (okI .u8) b) : PF Tryz.prog 4 [.sem (SL (eI .u8) b)] (.sc (.bool true)) := by
  have h := MsgHead_s_pf b (okL_gd o0)
  rw [MsgHead_true b o0] at h
  exact h
end Go.Proofs.YtepnimdjcnjlfaaGreatDoor
namespace Go.Proofs.YtepnimdjcnjlfaaGreatDoor.msgHead
open Go.Ab Go.ChangeShapes Go.WideShapes Go.ChangeAt Go.RowKit
open Go.ChangeMaps (open_string shut_string)
open Go.WideMaps Go.WideElems
set_option linter.unusedVariables false
set_option linter.unusedSimpArgs false
theorem own : ownKnob Tryz.prog.godebug = none := by kernel_rfl
theorem laidOut : laidOutB Tryz.prog = true := by kernel_rfl
theorem door_met (os : Os) (args : Array Value) : laidMetH Tryz.prog (Rows.msgHeadRow.laid) ((World.doorLaid Tryz.prog 400 os).forCall (fun _ _ => 0) ⟨#[], args, []⟩).memory :=
  laidMetH_of_parts3 (fuel := 8) (laidMet_of_run' 8 (by kernel_rfl) (by kernel_rfl)) (by kernel_rfl) (by kernel_rfl)
set_option maxRecDepth 100000 in
theorem lifted (os : Os) (started : os.Started) (H : Type) (enc : TypeId × Value → H) :
    ReturnsInHanded {} Tryz.checked os 4 .any (fun w args => (Rows.msgHeadSpec.pre enc Tryz.prog Tryz.f4 Rows.msgHeadRow.domain false w args ∧ laidMetH Tryz.prog (Rows.msgHeadRow.laid) w) ∧ sizedMet enc Tryz.prog Tryz.f4 (OpenSpec.ofChange Rows.msgHeadSpec) false w args) (Rows.msgHeadSpec.post enc Tryz.prog Tryz.f4 false true false false) := by
  refine returnsInHanded_of_change_and (C := Tryz.checked) (X := fun w _ => laidMetH Tryz.prog (Rows.msgHeadRow.laid) w) (fun _ _ _ hh h => h.of_heap hh) own started (by kernel_rfl) Tryz.func4
    (ChangeSpec.witness_shaped (enc := enc) (C := Tryz.checked) (os := os) (X := fun w _ => laidMetH Tryz.prog (Rows.msgHeadRow.laid) w) false (World.doorLaid Tryz.prog 400 os) #[.slice none 0 0] 8 rfl (World.shaped_of_RefB (by kernel_rfl) (by kernel_rfl)) (by kernel_rfl) (by kernel_rfl) (by kernel_rfl) (door_met os _)) ?_
  intro W base args ds gs before hval0 hW hcnd hsz0 hL _
  have hsz : (DataW.weightsEach Tryz.prog (Tryz.f4.params.toList ++ Rows.msgHeadSpec.plain.varTypes Tryz.prog) (ds ++ gs)).all (· ≤ reachBytes) = true := hsz0
  have hval : ∀ (j : Nat) t v, Tryz.f4.params[j]? = some t → args[j]? = some v → Value.okWide Tryz.prog W .any base t v := hval0
  have hW' := hW
  obtain ⟨p, q, hA0, hV, rfl, hfz, hnd⟩ := hW
  have hA : DataW.TrodAll enc Tryz.prog W 0 (fun _ => true) true Tryz.f4.params.toList args.toList ds p := hA0
  rw [Tryz.params4] at hA hval hsz
  obtain ⟨v0, vs0, d0, ds0, p0, q0, hargs, rfl, rfl, h0, r0⟩ := trodAll_cons hA
  obtain ⟨rfl, rfl, rfl⟩ := trodAll_nil r0
  obtain rfl : args = #[v0] := by cases args; simp_all
  obtain ⟨rfl, rfl⟩ := trodVars_none hV
  have k0 := h0
  have lt0 : ∀ x ∈ p0, x.block < W.heap.size := by obtain ⟨m, hm⟩ := k0; exact DataW.trod_lt m _ _ _ hm
  obtain ⟨a0, l0, c0, rfl⟩ := okWide_slice Tryz.underlying22 (hval 0 22 v0 rfl rfl)
  obtain ⟨fuel0, e0⟩ := h0
  obtain ⟨x0, g0, o0⟩ := rd22 H enc W fuel0 _ d0 p0 e0 (by rw [List.all_eq_true] at hsz ⊢; exact fun z hz => hsz z (DataW.weights_mem_each (j := 0) rfl rfl z hz))
  clear hA0 hval0 hsz0 hsz
  refine ((MsgHead_ok x0 o0) (immOf W) W [_] (immOk_of W) ⟨_, _, rfl, (repL_one g0), rfl⟩).mono ?_
  rintro e W' ⟨v, imm', rfl, -, -, -, hv, bel⟩
  obtain rfl : v = .bool true := hv
  exact ⟨_, rfl, _, _, _, [], _, [], hW', trodAll_mk1 (shut_bool Tryz.underlying4 _), (trodAll_cons_mk (Below.trod laidOut (by kernel_rfl) (of_decide_eq_true (by kernel_rfl)) k0 bel lt0) trodAll_mk0), rfl, bel.frame _, fun h => by cases h⟩
theorem over : Rows.msgHeadRow.holds Tryz.pinned (OpenSpec.ofChange Rows.msgHeadSpec) :=
  OpenClaim.holds_of_wide 4 Tryz.f4 rfl rfl rfl rfl rfl rfl rfl ⟨rfl, rfl, rfl, rfl, rfl⟩ rfl rfl rfl rfl rfl (by kernel_rfl) Tryz.func4 (by kernel_rfl)
    (of_decide_eq_true (by kernel_rfl)) (by unfold Func.isWrapper; first | (rw [if_pos (by decide +kernel)]; kernel_rfl) | (rw [if_neg (by decide +kernel)]; exact ⟨rfl, rfl⟩))
    (fun os started H enc _ => lifted os started H enc)
theorem row_ : Rows.MsgHeadSaid := over
theorem proved : Rows.MsgHeadCardSaid :=
  Claim7.holds_tied_plain_at .later [] [.data] true (true, "fb02a53d9c51adfa4fa27bf4725228b64b41c4f9265abe4f660f29958d830eee") true
    row_ (fun _ h => by cases h) (by kernel_rfl) (fun _ h => by cases h) msgHead_row_tie rfl ⟨rfl, rfl⟩ (by kernel_rfl) rfl
    (fun f fn hf hfn => by
      obtain rfl : f = 4 := Option.some.inj ((show Tryz.prog.funcNamed "interregnum/interregnumlaw09.MsgHead" = some 4 by kernel_rfl).symm.trans hf) |>.symm
      obtain rfl : fn = Tryz.f4 := (Option.some.inj (Tryz.func4.symm.trans hfn)).symm
      exact ⟨by kernel_rfl, fun j t ht => by
        rw [Tryz.params4] at ht
        have hm : t ∈ [22] := by simpa using Array.mem_of_getElem? ht
        have hall : ([22].all fun u => !Tryz.prog.wantsStandIn u) = true := by kernel_rfl
        exact (show Tryz.prog.wantsStandIn t = false by simpa using List.all_eq_true.1 hall t hm)⟩)
    (by kernel_rfl)
#print axioms proved
end Go.Proofs.YtepnimdjcnjlfaaGreatDoor.msgHead
