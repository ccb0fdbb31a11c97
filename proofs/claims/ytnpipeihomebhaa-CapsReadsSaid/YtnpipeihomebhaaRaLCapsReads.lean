/- The statement CapsReads of this seat is proved: the function of that name hands back true at whatever input it is given, and never panics. No condition beyond those of the given statement. -/
import Derived.Test.YtnpipeihomebhaaRaPCaps
import Derived.Test.YtnpipeihomebhaaRows
import Derived.RowKit
namespace Go.Proofs.Ytnpipeihomebhaa
open Go.Ab
set_option linter.unusedSimpArgs false
set_option linter.unusedVariables false
/-- interregnum/interregnumlaw08.CapsReads -/
def CapsReads_s (a0 : List Int) : Bool :=
  (bif decide ((2000 : Int) < (a0.length : Int)) then
    law08_answers
  else
    ((law08_answers && (decide (((caps_Decode a0).2) = ((ref05_ReadCaps a0).2)))) && (decide (((caps_Decode a0).1) = ((ref05_ReadCaps a0).1)))) && ((!((caps_Decode a0).2)) || (caps_Good ((caps_Decode a0).1))))
set_option maxRecDepth 100000 in
set_option maxHeartbeats 4000000 in
theorem CapsReads_s_pf_g (a0 : List Int) (ok_a0 : gdL (okI .u8) a0) : PG Try.prog 11 [] [] [.sem (SL (eI .u8) a0)] (fun _ : Unit => True) (fun _ => (fun (z : Bool) => ⟨[], [], .sc (.bool z)⟩) (CapsReads_s a0)) := by
  refine pg_of (N := 40) (l := [.tmp 2]) Try.func11 rfl rfl rfl (Nat.le_of_ble_eq_true rfl) fun w0 i0 F βs => ?_
  refine aw_seq ?_
  refine aw_region ?_
  refine al_op rfl (g_assign (p := .sc (.bool false)) rfl rfl rfl rfl) ?_
  refine al_nil ?_
  refine aw_seq ?_
  refine aw_seq ?_
  refine aw_region ?_
  refine al_op rfl (g_move (p := .sem (SL (eI .u8) a0)) rfl rfl rfl rfl) ?_
  refine al_op rfl (g_len rfl rfl rfl Try.underlying36 (isSl_sem rfl)) ?_
  refine al_op rfl (g_bin (u1 := .int .i64 (a0.length : Int)) (u2 := .int .i64 2000) (v := .bool (decide ((2000 : Int) < (a0.length : Int)))) rfl rfl rfl rfl rfl (fun _ => rfl)) ?_
  refine al_nil ?_
  refine aw_cond (b := decide ((2000 : Int) < (a0.length : Int))) rfl (fun k1 => ?_) (fun k1 => ?_)
  · skip
    refine aw_seq ?_
    refine aw_region ?_
    refine al_op rfl (g_call (fn := Try.f32) (xs := []) (args := []) (r := .sc (.bool law08_answers)) rfl rfl rfl Try.func32 rfl rfl rfl rfl rfl (law08_answers_pf)) ?_
    refine al_op rfl (g_assign (p := .sc (.bool law08_answers)) rfl rfl rfl rfl) ?_
    refine al_nil ?_
    refine aw_ret ?_
    exact endG_mk (F := (fun (z : Bool) => ⟨[], [], .sc (.bool z)⟩)) (z := (CapsReads_s a0)) (v := law08_answers) (bT k1 rfl) rfl (.one (.tmp 2 (.sc (.bool law08_answers)) rfl) (.one (.rfl _)) rfl) trivial trivial
  · skip
    refine aw_skip ?_
    refine aw_seq ?_
    refine aw_region ?_
    refine al_op rfl (g_move (p := .sem (SL (eI .u8) a0)) rfl rfl rfl rfl) ?_
    refine al_op rfl (g_call (fn := Try.f33) (xs := [.tmp 12]) (args := [.sem (SL (eI .u8) a0)]) (r := .tup [.agg (api_Caps.cells ((caps_Decode a0).1)), .sc (.bool ((caps_Decode a0).2))]) rfl rfl rfl Try.func33 rfl rfl rfl rfl rfl (caps_Decode_pf a0 ok_a0)) ?_
    refine al_op rfl (g_move (p := .tup [.agg (api_Caps.cells ((caps_Decode a0).1)), .sc (.bool ((caps_Decode a0).2))]) rfl rfl rfl rfl) ?_
    refine al_op rfl (g_extract (ps := [.agg (api_Caps.cells ((caps_Decode a0).1)), .sc (.bool ((caps_Decode a0).2))]) (p := .agg (api_Caps.cells ((caps_Decode a0).1))) rfl rfl rfl rfl rfl) ?_
    refine al_op rfl (g_extract (ps := [.agg (api_Caps.cells ((caps_Decode a0).1)), .sc (.bool ((caps_Decode a0).2))]) (p := .sc (.bool ((caps_Decode a0).2))) rfl rfl rfl rfl rfl) ?_
    refine al_op rfl (g_alloc (s := 3) (z := zv27) (qs := zc27) rfl rfl rfl rfl z27 rfl rfl) ?_
    refine al_op rfl (g_store (s := 3) (off := 0) (ps := zc27) (p := .agg (api_Caps.cells ((caps_Decode a0).1))) (qs := (api_Caps.cells ((caps_Decode a0).1))) rfl rfl ty27 rfl rfl rfl rfl rfl rfl rfl) ?_
    refine al_op rfl (g_assign (p := .sc (.bool ((caps_Decode a0).2))) rfl rfl rfl rfl) ?_
    refine al_nil ?_
    refine aw_seq ?_
    refine aw_region ?_
    refine al_op rfl (g_move (p := .sem (SL (eI .u8) a0)) rfl rfl rfl rfl) ?_
    refine al_op rfl (g_call (fn := Try.f34) (xs := [.tmp 17]) (args := [.sem (SL (eI .u8) a0)]) (r := .tup [.agg (api_Caps.cells ((ref05_ReadCaps a0).1)), .sc (.bool ((ref05_ReadCaps a0).2))]) rfl rfl rfl Try.func34 rfl rfl rfl rfl rfl (ref05_ReadCaps_pf a0 (by first | omega | ((try simp only [z1, z2, z3, z4, z5, z6, z7, z8, z9, zA, zB, zC, zD, wrap64, wrapu8, wrapu16, wrapu32, wrapu64, tmod_ite, tdiv_ite, sub_len, region_Put_len, ref01_Four_len, ref05_cut_len] at *); omega) | ((try simp only [z1, z2, z3, z4, z5, z6, z7, z8, z9, zA, tmod_ite, tdiv_ite, sub_len, region_Put_len, ref01_Four_len, ref05_cut_len] at *); (try simp (disch := omega) only [wrap64_id]); (try simp only [z1, z2, z3, z4, z5, z6, z7, z8, z9, zA, zB, zC, zD, wrap64, wrapu8, wrapu16, wrapu32, wrapu64, tmod_ite, tdiv_ite, sub_len] at *); omega)) ok_a0)) ?_
    refine al_op rfl (g_move (p := .tup [.agg (api_Caps.cells ((ref05_ReadCaps a0).1)), .sc (.bool ((ref05_ReadCaps a0).2))]) rfl rfl rfl rfl) ?_
    refine al_op rfl (g_extract (ps := [.agg (api_Caps.cells ((ref05_ReadCaps a0).1)), .sc (.bool ((ref05_ReadCaps a0).2))]) (p := .agg (api_Caps.cells ((ref05_ReadCaps a0).1))) rfl rfl rfl rfl rfl) ?_
    refine al_op rfl (g_extract (ps := [.agg (api_Caps.cells ((ref05_ReadCaps a0).1)), .sc (.bool ((ref05_ReadCaps a0).2))]) (p := .sc (.bool ((ref05_ReadCaps a0).2))) rfl rfl rfl rfl rfl) ?_
    refine al_op rfl (g_alloc (s := 5) (z := zv27) (qs := zc27) rfl rfl rfl rfl z27 rfl rfl) ?_
    refine al_op rfl (g_store (s := 5) (off := 0) (ps := zc27) (p := .agg (api_Caps.cells ((ref05_ReadCaps a0).1))) (qs := (api_Caps.cells ((ref05_ReadCaps a0).1))) rfl rfl ty27 rfl rfl rfl rfl rfl rfl rfl) ?_
    refine al_op rfl (g_assign (p := .sc (.bool ((ref05_ReadCaps a0).2))) rfl rfl rfl rfl) ?_
    refine al_nil ?_
    refine aw_seq ?_
    refine aw_region ?_
    refine al_op rfl (g_call (fn := Try.f32) (xs := []) (args := []) (r := .sc (.bool law08_answers)) rfl rfl rfl Try.func32 rfl rfl rfl rfl rfl (law08_answers_pf)) ?_
    refine al_op rfl (g_move (p := .sc (.bool law08_answers)) rfl rfl rfl rfl) ?_
    refine al_gW (C := law08_answers) (p := .sc (.bool ((caps_Decode a0).2))) (gd_T rfl rfl rfl rfl rfl) rfl rfl (fun g2 => g_move (p := .sc (.bool ((caps_Decode a0).2))) rfl rfl rfl rfl) ?_
    refine al_gW (C := law08_answers) (p := .sc (.bool ((ref05_ReadCaps a0).2))) (gd_T rfl rfl rfl rfl rfl) rfl rfl (fun g3 => g_move (p := .sc (.bool ((ref05_ReadCaps a0).2))) rfl rfl rfl rfl) ?_
    refine al_gW (C := law08_answers) (p := .sc (.bool (decide (((caps_Decode a0).2) = ((ref05_ReadCaps a0).2))))) (gd_T rfl rfl rfl rfl rfl) rfl rfl (fun g4 => g_eqB (a := ((caps_Decode a0).2)) (b := ((ref05_ReadCaps a0).2)) rfl rfl rfl Try.underlying4 (gt (p := .sc (.bool ((caps_Decode a0).2))) (q := .sc undef) g4) (gt (p := .sc (.bool ((ref05_ReadCaps a0).2))) (q := .sc undef) g4)) ?_
    refine al_op rfl (g_andU (b := law08_answers) (y := decide (((caps_Decode a0).2) = ((ref05_ReadCaps a0).2))) rfl rfl rfl rfl rfl) ?_
    refine al_op rfl (g_move (p := .sc (.bool (law08_answers && (decide (((caps_Decode a0).2) = ((ref05_ReadCaps a0).2)))))) rfl rfl rfl rfl) ?_
    refine al_gW (C := law08_answers && (decide (((caps_Decode a0).2) = ((ref05_ReadCaps a0).2)))) (p := .agg (api_Caps.cells ((caps_Decode a0).1))) (gd_T rfl rfl rfl rfl rfl) rfl rfl (fun g5 => g_load (s := 3) (off := 0) (ps := (api_Caps.cells ((caps_Decode a0).1))) (p := .agg (api_Caps.cells ((caps_Decode a0).1))) rfl rfl rfl ty27 rfl rfl rfl rfl rfl) ?_
    refine al_gW (C := law08_answers && (decide (((caps_Decode a0).2) = ((ref05_ReadCaps a0).2)))) (p := .agg (api_Caps.cells ((ref05_ReadCaps a0).1))) (gd_T rfl rfl rfl rfl rfl) rfl rfl (fun g6 => g_load (s := 5) (off := 0) (ps := (api_Caps.cells ((ref05_ReadCaps a0).1))) (p := .agg (api_Caps.cells ((ref05_ReadCaps a0).1))) rfl rfl rfl ty27 rfl rfl rfl rfl rfl) ?_
    refine al_gW (C := law08_answers && (decide (((caps_Decode a0).2) = ((ref05_ReadCaps a0).2)))) (p := .sc (.bool (decide (((caps_Decode a0).1) = ((ref05_ReadCaps a0).1))))) (gd_T rfl rfl rfl rfl rfl) rfl rfl (fun g7 => g_eqA (us := (((caps_Decode a0).1) : api_Caps).vals) (vs := (((ref05_ReadCaps a0).1) : api_Caps).vals) rfl rfl rfl (gt (p := .agg (api_Caps.cells ((caps_Decode a0).1))) (q := .sc undef) g7) (gt (p := .agg (api_Caps.cells ((ref05_ReadCaps a0).1))) (q := .sc undef) g7) eqg27 (eqv27 9998 ((caps_Decode a0).1) ((ref05_ReadCaps a0).1))) ?_
    refine al_op rfl (g_andU (b := law08_answers && (decide (((caps_Decode a0).2) = ((ref05_ReadCaps a0).2)))) (y := decide (((caps_Decode a0).1) = ((ref05_ReadCaps a0).1))) rfl rfl rfl rfl rfl) ?_
    refine al_op rfl (g_move (p := .sc (.bool ((law08_answers && (decide (((caps_Decode a0).2) = ((ref05_ReadCaps a0).2)))) && (decide (((caps_Decode a0).1) = ((ref05_ReadCaps a0).1)))))) rfl rfl rfl rfl) ?_
    refine al_gW (C := (law08_answers && (decide (((caps_Decode a0).2) = ((ref05_ReadCaps a0).2)))) && (decide (((caps_Decode a0).1) = ((ref05_ReadCaps a0).1)))) (p := .sc (.bool ((caps_Decode a0).2))) (gd_T rfl rfl rfl rfl rfl) rfl rfl (fun g8 => g_move (p := .sc (.bool ((caps_Decode a0).2))) rfl rfl rfl rfl) ?_
    refine al_gW (C := (law08_answers && (decide (((caps_Decode a0).2) = ((ref05_ReadCaps a0).2)))) && (decide (((caps_Decode a0).1) = ((ref05_ReadCaps a0).1)))) (p := .sc (.bool (!((caps_Decode a0).2)))) (gd_T rfl rfl rfl rfl rfl) rfl rfl (fun g9 => g_un (u := .bool ((caps_Decode a0).2)) (v := .bool (!((caps_Decode a0).2))) rfl rfl rfl (gt (p := .sc (.bool ((caps_Decode a0).2))) (q := .sc undef) g9) (fun _ => rfl)) ?_
    refine al_gW (C := (law08_answers && (decide (((caps_Decode a0).2) = ((ref05_ReadCaps a0).2)))) && (decide (((caps_Decode a0).1) = ((ref05_ReadCaps a0).1)))) (p := .sc (.bool (!((caps_Decode a0).2)))) (gd_T rfl rfl rfl rfl rfl) rfl rfl (fun g10 => g_move (p := .sc (.bool (!((caps_Decode a0).2)))) rfl rfl rfl (gt (p := .sc (.bool (!((caps_Decode a0).2)))) (q := .sc undef) g10)) ?_
    refine al_gW (C := ((law08_answers && (decide (((caps_Decode a0).2) = ((ref05_ReadCaps a0).2)))) && (decide (((caps_Decode a0).1) = ((ref05_ReadCaps a0).1)))) && ((caps_Decode a0).2)) (p := .agg (api_Caps.cells ((caps_Decode a0).1))) (gd_FN (E := (law08_answers && (decide (((caps_Decode a0).2) = ((ref05_ReadCaps a0).2)))) && (decide (((caps_Decode a0).1) = ((ref05_ReadCaps a0).1)))) (y := !((caps_Decode a0).2)) (c := (caps_Decode a0).2) rfl rfl rfl rfl rfl (Bool.not_not _)) rfl rfl (fun g11 => g_load (s := 3) (off := 0) (ps := (api_Caps.cells ((caps_Decode a0).1))) (p := .agg (api_Caps.cells ((caps_Decode a0).1))) rfl rfl rfl ty27 rfl rfl rfl rfl rfl) ?_
    refine al_gW (C := ((law08_answers && (decide (((caps_Decode a0).2) = ((ref05_ReadCaps a0).2)))) && (decide (((caps_Decode a0).1) = ((ref05_ReadCaps a0).1)))) && ((caps_Decode a0).2)) (p := .sc (.bool (caps_Good ((caps_Decode a0).1)))) (gd_FN (E := (law08_answers && (decide (((caps_Decode a0).2) = ((ref05_ReadCaps a0).2)))) && (decide (((caps_Decode a0).1) = ((ref05_ReadCaps a0).1)))) (y := !((caps_Decode a0).2)) (c := (caps_Decode a0).2) rfl rfl rfl rfl rfl (Bool.not_not _)) rfl rfl (fun g12 => g_call (fn := Try.f28) (xs := [.tmp 36]) (args := [.agg (api_Caps.cells ((caps_Decode a0).1))]) (r := .sc (.bool (caps_Good ((caps_Decode a0).1)))) rfl rfl rfl Try.func28 rfl rfl (congrS1 (b0 := .agg (api_Caps.cells ((caps_Decode a0).1))) (gt (p := .agg (api_Caps.cells ((caps_Decode a0).1))) (q := .sc undef) g12)) rfl rfl (caps_Good_pf ((caps_Decode a0).1))) ?_
    refine al_gW (C := (law08_answers && (decide (((caps_Decode a0).2) = ((ref05_ReadCaps a0).2)))) && (decide (((caps_Decode a0).1) = ((ref05_ReadCaps a0).1)))) (p := .sc (.bool ((!((caps_Decode a0).2)) || (caps_Good ((caps_Decode a0).1))))) (gd_T rfl rfl rfl rfl rfl) rfl rfl (fun g13 => g_orU (b := !((caps_Decode a0).2)) (y := (caps_Good ((caps_Decode a0).1))) rfl rfl rfl (gt (p := .sc (.bool (!((caps_Decode a0).2)))) (q := .sc undef) g13) (gA (p := .sc (.bool (caps_Good ((caps_Decode a0).1)))) (q := .sc undef) g13) (Bool.not_not _)) ?_
    refine al_op rfl (g_andU (b := (law08_answers && (decide (((caps_Decode a0).2) = ((ref05_ReadCaps a0).2)))) && (decide (((caps_Decode a0).1) = ((ref05_ReadCaps a0).1)))) (y := (!((caps_Decode a0).2)) || (caps_Good ((caps_Decode a0).1))) rfl rfl rfl rfl rfl) ?_
    refine al_op rfl (g_assign (p := .sc (.bool (((law08_answers && (decide (((caps_Decode a0).2) = ((ref05_ReadCaps a0).2)))) && (decide (((caps_Decode a0).1) = ((ref05_ReadCaps a0).1)))) && ((!((caps_Decode a0).2)) || (caps_Good ((caps_Decode a0).1)))))) rfl rfl rfl rfl) ?_
    refine al_nil ?_
    refine aw_ret ?_
    exact endG_mk (F := (fun (z : Bool) => ⟨[], [], .sc (.bool z)⟩)) (z := (CapsReads_s a0)) (v := ((law08_answers && (decide (((caps_Decode a0).2) = ((ref05_ReadCaps a0).2)))) && (decide (((caps_Decode a0).1) = ((ref05_ReadCaps a0).1)))) && ((!((caps_Decode a0).2)) || (caps_Good ((caps_Decode a0).1)))) (bF k1 rfl) rfl (.one (.tmp 2 (.sc (.bool (((law08_answers && (decide (((caps_Decode a0).2) = ((ref05_ReadCaps a0).2)))) && (decide (((caps_Decode a0).1) = ((ref05_ReadCaps a0).1)))) && ((!((caps_Decode a0).2)) || (caps_Good ((caps_Decode a0).1)))))) rfl) (.one (.rfl _)) rfl) trivial trivial
theorem CapsReads_s_pf (a0 : List Int) (ok_a0 : gdL (okI .u8) a0) : PF Try.prog 11 [.sem (SL (eI .u8) a0)] (.sc (.bool (CapsReads_s a0))) := pf_ofG (CapsReads_s_pf_g a0 ok_a0) rfl
theorem CapsReads_true (a0 : List Int) (o0 : okL (okI .u8) a0) : CapsReads_s a0 = true := by
  unfold CapsReads_s
  by_cases h : (2000 : Int) < (a0.length : Int)
  · rw [decide_eq_true h]; exact answers08
  · rw [decide_eq_false h]
    have hs : a0.length ≤ 1000000000000 := by omega
    rw [ReadCaps_Decode a0 (okL_gd o0) hs, answers08]
    have := Decode_pair a0 (okL_gd o0) hs
    simp only [cond_false, decide_true, Bool.and_self, Bool.true_and]
    exact this
theorem CapsReads_ok (a0 : List Int) (o0 : okL (okI .u8) a0) : PF Try.prog 11 [.sem (SL (eI .u8) a0)] (.sc (.bool true)) := by
  have h := CapsReads_s_pf a0 (okL_gd o0)
  rw [CapsReads_true a0 o0] at h
  exact h
end Go.Proofs.Ytnpipeihomebhaa
namespace Go.Proofs.Ytnpipeihomebhaa.capsReads
open Go.Ab Go.ChangeShapes Go.WideShapes Go.ChangeAt Go.RowKit
open Go.ChangeMaps (open_string shut_string)
set_option linter.unusedVariables false
set_option linter.unusedSimpArgs false
theorem own : ownKnob Try.prog.godebug = none := by kernel_rfl
theorem laidOut : laidOutB Try.prog = true := by kernel_rfl
set_option maxRecDepth 100000 in
theorem lifted (os : Os) (started : os.Started) (H : Type) (enc : TypeId × Value → H) :
    ReturnsInHanded {} Try.checked os 11 .any (Rows.capsReadsSpec.pre6 enc Try.prog Try.f11 Rows.capsReadsRow.domain false) (Rows.capsReadsSpec.post enc Try.prog Try.f11 false true false false) := by
  refine returnsInHanded_of_change_sized (C := Try.checked) own started (by kernel_rfl) Try.func11
    (ChangeSpec.witness6 (enc := enc) (C := Try.checked) false ⟨#[], #[.slice none 0 0], []⟩ 8 (by kernel_rfl) (by kernel_rfl) (by kernel_rfl) (by kernel_rfl)) ?_
  intro W base args ds gs before hval0 hW hcnd hsz0 _
  have hsz : (DataW.weightsEach Try.prog (Try.f11.params.toList ++ Rows.capsReadsSpec.plain.varTypes Try.prog) (ds ++ gs)).all (· ≤ reachBytes) = true := hsz0
  have hval : ∀ (j : Nat) t v, Try.f11.params[j]? = some t → args[j]? = some v → Value.okWide Try.prog W .any base t v := hval0
  have hW' := hW
  obtain ⟨p, q, hA0, hV, rfl, hfz, hnd⟩ := hW
  have hA : DataW.TrodAll enc Try.prog W 0 (fun _ => true) true Try.f11.params.toList args.toList ds p := hA0
  rw [Try.params11] at hA hval hsz
  obtain ⟨v0, vs0, d0, ds0, p0, q0, hargs, rfl, rfl, h0, r0⟩ := trodAll_cons hA
  obtain ⟨rfl, rfl, rfl⟩ := trodAll_nil r0
  obtain rfl : args = #[v0] := by cases args; simp_all
  obtain ⟨rfl, rfl⟩ := trodVars_none hV
  have k0 := h0
  have lt0 : ∀ x ∈ p0, x.block < W.heap.size := by obtain ⟨m, hm⟩ := k0; exact DataW.trod_lt m _ _ _ hm
  obtain ⟨a0, l0, c0, rfl⟩ := okWide_slice Try.underlying36 (hval 0 36 v0 rfl rfl)
  obtain ⟨fuel0, e0⟩ := h0
  obtain ⟨x0, g0, o0⟩ := rd36 H enc W fuel0 _ d0 p0 e0 (by rw [List.all_eq_true] at hsz ⊢; exact fun z hz => hsz z (DataW.weights_mem_each (j := 0) rfl rfl z hz))
  clear hA0 hval0 hsz0 hsz
  refine ((CapsReads_ok x0 o0) (immOf W) W [_] (immOk_of W) ⟨_, _, rfl, (repL_one g0), rfl⟩).mono ?_
  rintro e W' ⟨v, imm', rfl, -, -, -, hv, bel⟩
  obtain rfl : v = .bool true := hv
  exact ⟨_, rfl, _, _, _, [], _, [], hW', trodAll_mk1 (shut_bool Try.underlying4 _), (trodAll_cons_mk (Below.trod laidOut (by kernel_rfl) (of_decide_eq_true (by kernel_rfl)) k0 bel lt0) trodAll_mk0), rfl, bel.frame _, fun h => by cases h⟩
theorem over : Rows.capsReadsRow.holds Try.pinned (OpenSpec.ofChange Rows.capsReadsSpec) :=
  OpenClaim.holds_of_wide 11 Try.f11 rfl rfl rfl rfl rfl rfl rfl ⟨rfl, rfl, rfl, rfl, rfl⟩ rfl rfl rfl rfl rfl (by kernel_rfl) Try.func11 (by kernel_rfl)
    (of_decide_eq_true (by kernel_rfl)) (by unfold Func.isWrapper; first | (rw [if_pos (by decide +kernel)]; kernel_rfl) | (rw [if_neg (by decide +kernel)]; exact ⟨rfl, rfl⟩))
    (fun os started H enc _ => lifted os started H enc)
theorem proved : Rows.CapsReadsSaid := over
#print axioms proved
end Go.Proofs.Ytnpipeihomebhaa.capsReads
