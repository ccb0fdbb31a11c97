import Derived.Test.YtepnimdjcnjlfaaGreatDoorRzFacts
namespace Go.Proofs.YtepnimdjcnjlfaaGreatDoor
open Go.Ab
set_option linter.unusedSimpArgs false
set_option linter.unusedVariables false
/-- interregnum/msg.get2 -/
def msg_get2 (b : List Int) : Int :=
  (ior .i64 (IntKind.wrap .i64 ((IntKind.wrap .i64 (ix b 0)) * 2 ^ 8)) (IntKind.wrap .i64 (ix b 1)))
set_option maxRecDepth 100000 in
set_option maxHeartbeats 4000000 in
theorem msg_get2_pf_g (b : List Int) (h : 2 ≤ b.length) : PG Tryz.prog 27 [] [] [.sem (SL (eI .u8) b)] (fun _ : Unit => True) (fun _ => (fun (z : Int) => ⟨[], [], .sc (.int .i64 z)⟩) (msg_get2 b)) := by
  refine pg_of (N := 13) (l := [.tmp 2]) Tryz.func27 rfl rfl rfl (Nat.le_of_ble_eq_true rfl) fun w0 i0 F βs => ?_
  refine aw_seq ?_
  refine aw_region ?_
  refine al_op rfl (g_assign (p := .sc (.int .i64 0)) rfl rfl rfl rfl) ?_
  refine al_nil ?_
  refine aw_seq ?_
  refine aw_plan { ds := [some 3, some 4, some 5, some 6, some 7, some 8, some 9, some 10, some 11, some 12, some 2], p := fun i => [.sem (SL (eI .u8) b), .sem (PT [.sc (.int .u8 (ix b 0))]), .sc (.int .u8 (ix b 0)), .sc (.int .i64 (IntKind.wrap .i64 (ix b 0))), .sc (.int .i64 (IntKind.wrap .i64 ((IntKind.wrap .i64 (ix b 0)) * 2 ^ 8))), .sem (SL (eI .u8) b), .sem (PT [.sc (.int .u8 (ix b 1))]), .sc (.int .u8 (ix b 1)), .sc (.int .i64 (IntKind.wrap .i64 (ix b 1))), .sc (.int .i64 (ior .i64 (IntKind.wrap .i64 ((IntKind.wrap .i64 (ix b 0)) * 2 ^ 8)) (IntKind.wrap .i64 (ix b 1)))), .sc (.int .i64 (ior .i64 (IntKind.wrap .i64 ((IntKind.wrap .i64 (ix b 0)) * 2 ^ 8)) (IntKind.wrap .i64 (ix b 1))))].getD i .any, al := [], st := [] } rfl (by kernel_rfl) rfl rfl ?_ (fun bD hb => ?_)
  · refine ⟨fun bD hc hi hd => ?_, fun bD hc hi hd => ?_, fun bD hc hi hd => ?_, fun bD hc hi hd => ?_, fun bD hc hi hd => ?_, fun bD hc hi hd => ?_, fun bD hc hi hd => ?_, fun bD hc hi hd => ?_, fun bD hc hi hd => ?_, fun bD hc hi hd => ?_, fun bD hc hi hd => ?_, trivial⟩
    · exact Plan.putStep (i := 0) (q := .sem (SL (eI .u8) b)) rfl rfl rfl (gs_plain rfl (g_move (p := .sem (SL (eI .u8) b)) rfl rfl rfl rfl))
    · exact Plan.putStep (i := 1) (q := .sem (PT [.sc (.int .u8 (ix b 0))])) rfl rfl rfl (gs_plain rfl (g_ix (E := (eI .u8)) (l := b) (n := 0) (ps := [.sc (.int .u8 (ix b 0))]) rfl rfl rfl Tryz.underlying22 ty5 (by exact (isSl_sem (by exact (gt (p := .sem (SL (eI .u8) b)) (q := .any) (hd 0 (by decide)))))) rfl (by first | omega | ((try simp only [z1, z2, z3, z4, z5, z6, z7, z8, z9, zA, zB, zC, zD, wrap64, wrapu8, wrapu16, wrapu32, wrapu64, tmod_ite, tdiv_ite, sub_len] at *); omega) | ((try simp only [z1, z2, z3, z4, z5, z6, z7, z8, z9, zA, tmod_ite, tdiv_ite, sub_len] at *); (try simp (disch := omega) only [wrap64_id]); (try simp only [z1, z2, z3, z4, z5, z6, z7, z8, z9, zA, zB, zC, zD, wrap64, wrapu8, wrapu16, wrapu32, wrapu64, tmod_ite, tdiv_ite, sub_len] at *); omega)) rfl))
    · exact Plan.putStep (i := 2) (q := .sc (.int .u8 (ix b 0))) rfl rfl rfl (gs_plain rfl (g_loadPT (ps := [.sc (.int .u8 (ix b 0))]) (p := .sc (.int .u8 (ix b 0))) rfl rfl rfl ty5 (gt (p := .sem (PT [.sc (.int .u8 (ix b 0))])) (q := .any) (hd 1 (by decide))) rfl rfl rfl rfl))
    · exact Plan.putStep (i := 3) (q := .sc (.int .i64 (IntKind.wrap .i64 (ix b 0)))) rfl rfl rfl (gs_plain rfl (g_conv (m := (IntKind.wrap .i64 (ix b 0))) rfl rfl rfl Tryz.underlying5 Tryz.underlying3 (gt (p := .sc (.int .u8 (ix b 0))) (q := .any) (hd 2 (by decide))) rfl))
    · exact Plan.putStep (i := 4) (q := .sc (.int .i64 (IntKind.wrap .i64 ((IntKind.wrap .i64 (ix b 0)) * 2 ^ 8)))) rfl rfl rfl (gs_plain rfl (g_bin (u1 := .int .i64 (IntKind.wrap .i64 (ix b 0))) (u2 := .int .u64 8) (v := .int .i64 (IntKind.wrap .i64 ((IntKind.wrap .i64 (ix b 0)) * 2 ^ 8))) rfl rfl rfl (gt (p := .sc (.int .i64 (IntKind.wrap .i64 (ix b 0)))) (q := .any) (hd 3 (by decide))) rfl (fun _ => rfl)))
    · exact Plan.putStep (i := 5) (q := .sem (SL (eI .u8) b)) rfl rfl rfl (gs_plain rfl (g_move (p := .sem (SL (eI .u8) b)) rfl rfl rfl rfl))
    · exact Plan.putStep (i := 6) (q := .sem (PT [.sc (.int .u8 (ix b 1))])) rfl rfl rfl (gs_plain rfl (g_ix (E := (eI .u8)) (l := b) (n := 1) (ps := [.sc (.int .u8 (ix b 1))]) rfl rfl rfl Tryz.underlying22 ty5 (by exact (isSl_sem (by exact (gt (p := .sem (SL (eI .u8) b)) (q := .any) (hd 5 (by decide)))))) rfl (by first | omega | ((try simp only [z1, z2, z3, z4, z5, z6, z7, z8, z9, zA, zB, zC, zD, wrap64, wrapu8, wrapu16, wrapu32, wrapu64, tmod_ite, tdiv_ite, sub_len] at *); omega) | ((try simp only [z1, z2, z3, z4, z5, z6, z7, z8, z9, zA, tmod_ite, tdiv_ite, sub_len] at *); (try simp (disch := omega) only [wrap64_id]); (try simp only [z1, z2, z3, z4, z5, z6, z7, z8, z9, zA, zB, zC, zD, wrap64, wrapu8, wrapu16, wrapu32, wrapu64, tmod_ite, tdiv_ite, sub_len] at *); omega)) rfl))
    · exact Plan.putStep (i := 7) (q := .sc (.int .u8 (ix b 1))) rfl rfl rfl (gs_plain rfl (g_loadPT (ps := [.sc (.int .u8 (ix b 1))]) (p := .sc (.int .u8 (ix b 1))) rfl rfl rfl ty5 (gt (p := .sem (PT [.sc (.int .u8 (ix b 1))])) (q := .any) (hd 6 (by decide))) rfl rfl rfl rfl))
    · exact Plan.putStep (i := 8) (q := .sc (.int .i64 (IntKind.wrap .i64 (ix b 1)))) rfl rfl rfl (gs_plain rfl (g_conv (m := (IntKind.wrap .i64 (ix b 1))) rfl rfl rfl Tryz.underlying5 Tryz.underlying3 (gt (p := .sc (.int .u8 (ix b 1))) (q := .any) (hd 7 (by decide))) rfl))
    · exact Plan.putStep (i := 9) (q := .sc (.int .i64 (ior .i64 (IntKind.wrap .i64 ((IntKind.wrap .i64 (ix b 0)) * 2 ^ 8)) (IntKind.wrap .i64 (ix b 1))))) rfl rfl rfl (gs_plain rfl (g_bin (u1 := .int .i64 (IntKind.wrap .i64 ((IntKind.wrap .i64 (ix b 0)) * 2 ^ 8))) (u2 := .int .i64 (IntKind.wrap .i64 (ix b 1))) (v := .int .i64 (ior .i64 (IntKind.wrap .i64 ((IntKind.wrap .i64 (ix b 0)) * 2 ^ 8)) (IntKind.wrap .i64 (ix b 1)))) rfl rfl rfl (gt (p := .sc (.int .i64 (IntKind.wrap .i64 ((IntKind.wrap .i64 (ix b 0)) * 2 ^ 8)))) (q := .any) (hd 4 (by decide))) (gt (p := .sc (.int .i64 (IntKind.wrap .i64 (ix b 1)))) (q := .any) (hd 8 (by decide))) (fun _ => rfl)))
    · exact Plan.putStep (i := 10) (q := .sc (.int .i64 (ior .i64 (IntKind.wrap .i64 ((IntKind.wrap .i64 (ix b 0)) * 2 ^ 8)) (IntKind.wrap .i64 (ix b 1))))) rfl rfl rfl (gs_plain rfl (g_assign (p := .sc (.int .i64 (ior .i64 (IntKind.wrap .i64 ((IntKind.wrap .i64 (ix b 0)) * 2 ^ 8)) (IntKind.wrap .i64 (ix b 1))))) rfl rfl rfl (gt (p := .sc (.int .i64 (ior .i64 (IntKind.wrap .i64 ((IntKind.wrap .i64 (ix b 0)) * 2 ^ 8)) (IntKind.wrap .i64 (ix b 1))))) (q := .any) (hd 9 (by decide)))))
  obtain rfl : bD = fun _ => true := funext hb
  refine aw_ret ?_
  exact endG_mk (F := (fun (z : Int) => ⟨[], [], .sc (.int .i64 z)⟩)) (z := (msg_get2 b)) (v := (ior .i64 (IntKind.wrap .i64 ((IntKind.wrap .i64 (ix b 0)) * 2 ^ 8)) (IntKind.wrap .i64 (ix b 1)))) rfl rfl (.one (.tmp 2 (.sc (.int .i64 (ior .i64 (IntKind.wrap .i64 ((IntKind.wrap .i64 (ix b 0)) * 2 ^ 8)) (IntKind.wrap .i64 (ix b 1))))) rfl) (.one (.rfl _)) rfl) trivial trivial
theorem msg_get2_pf (b : List Int) (h : 2 ≤ b.length) : PF Tryz.prog 27 [.sem (SL (eI .u8) b)] (.sc (.int .i64 (msg_get2 b))) := pf_ofG (msg_get2_pf_g b h) rfl

/-- interregnum/msg.wrong -/
def msg_wrong (code : Int) (sub : Int) (data : List Int) : api_Note :=
  (⟨code, sub, data⟩ : api_Note)
set_option maxRecDepth 100000 in
set_option maxHeartbeats 4000000 in
theorem msg_wrong_pf_g (code : Int) (sub : Int) (data : List Int) : PG Tryz.prog 16 [] [] [.sc (.int .i64 code), .sc (.int .i64 sub), .sem (SL (eI .u8) data)] (fun _ : Unit => True) (fun _ => (fun (z : api_Note) => ⟨[], [], .agg (api_Note.cells z)⟩) (msg_wrong code sub data)) := by
  refine pg_of (N := 11) (l := [.cell 6 38]) Tryz.func16 rfl rfl rfl (Nat.le_of_ble_eq_true rfl) fun w0 i0 F βs => ?_
  refine aw_seq ?_
  refine aw_region ?_
  refine al_op rfl (g_alloc (s := 6) (z := zv38) (qs := zc38) rfl rfl rfl rfl z38 rfl rfl) ?_
  refine al_nil ?_
  refine aw_seq ?_
  refine aw_region ?_
  refine al_op rfl (g_move (p := .sc (.int .i64 code)) rfl rfl rfl rfl) ?_
  refine al_op rfl (g_move (p := .sc (.int .i64 sub)) rfl rfl rfl rfl) ?_
  refine al_op rfl (g_move (p := .sem (SL (eI .u8) data)) rfl rfl rfl rfl) ?_
  refine al_op rfl (g_build (parts := [(0, .tmp 7), (1, .tmp 8), (2, .tmp 9)]) (pps := [(0, .sc (.int .i64 code)), (1, .sc (.int .i64 sub)), (2, .sem (SL (eI .u8) data))]) (qs := [.sc (.int .i64 code), .sc (.int .i64 sub), .sem (SL (eI .u8) data)]) rfl rfl rfl bld38 rfl rfl (by kernel_rfl)) ?_
  refine al_op rfl (g_store (s := 6) (off := 0) (ps := zc38) (p := .agg [.sc (.int .i64 code), .sc (.int .i64 sub), .sem (SL (eI .u8) data)]) (qs := [.sc (.int .i64 code), .sc (.int .i64 sub), .sem (SL (eI .u8) data)]) rfl rfl ty38 rfl rfl rfl rfl rfl rfl rfl) ?_
  refine al_nil ?_
  refine aw_ret ?_
  exact endG_mk (F := (fun (z : api_Note) => ⟨[], [], .agg (api_Note.cells z)⟩)) (z := (msg_wrong code sub data)) (v := (⟨code, sub, data⟩ : api_Note)) rfl rfl (.one (.cell 6 38 6 3 true [.sc (.int .i64 code), .sc (.int .i64 sub), .sem (SL (eI .u8) data)] (.agg [.sc (.int .i64 code), .sc (.int .i64 sub), .sem (SL (eI .u8) data)]) rfl rfl ty38 rfl rfl rfl) (.one (.rfl _)) rfl) trivial trivial
theorem msg_wrong_pf (code : Int) (sub : Int) (data : List Int) : PF Tryz.prog 16 [.sc (.int .i64 code), .sc (.int .i64 sub), .sem (SL (eI .u8) data)] (.agg (api_Note.cells (msg_wrong code sub data))) := pf_ofG (msg_wrong_pf_g code sub data) rfl

/-- interregnum/msg.short -/
def msg_short (kind : Int) (size : Int) : Bool :=
  (bif decide ((kind : Int) = 1) then
    decide ((size : Int) < 29)
  else
    (bif decide ((kind : Int) = 2) then
      decide ((size : Int) < 23)
    else
      (bif decide ((kind : Int) = 3) then
        decide ((size : Int) < 21)
      else
        !(decide ((size : Int) = 19)))))
set_option maxRecDepth 100000 in
set_option maxHeartbeats 4000000 in
theorem msg_short_pf_g (kind : Int) (size : Int) : PG Tryz.prog 29 [] [] [.sc (.int .i64 kind), .sc (.int .i64 size)] (fun _ : Unit => True) (fun _ => (fun (z : Bool) => ⟨[], [], .sc (.bool z)⟩) (msg_short kind size)) := by
  refine pg_of (N := 20) (l := [.tmp 4]) Tryz.func29 rfl rfl rfl (Nat.le_of_ble_eq_true rfl) fun w0 i0 F βs => ?_
  refine aw_seq ?_
  refine aw_region ?_
  refine al_op rfl (g_assign (p := .sc (.bool false)) rfl rfl rfl rfl) ?_
  refine al_nil ?_
  refine aw_seq ?_
  refine aw_seq ?_
  refine aw_region ?_
  refine al_op rfl (g_move (p := .sc (.int .i64 kind)) rfl rfl rfl rfl) ?_
  refine al_nil ?_
  refine aw_block ?_
  refine aw_seq ?_
  refine aw_region ?_
  refine al_op rfl (g_bin (u1 := .int .i64 kind) (u2 := .int .i64 1) (v := .bool (decide ((kind : Int) = 1))) rfl rfl rfl rfl rfl (fun _ => rfl)) ?_
  refine al_op rfl (g_assign (p := .sc (.bool (decide ((kind : Int) = 1)))) rfl rfl rfl rfl) ?_
  refine al_nil ?_
  refine aw_cond (b := decide ((kind : Int) = 1)) rfl (fun k1 => ?_) (fun k1 => ?_)
  · skip
    refine aw_seq ?_
    refine aw_region ?_
    refine al_op rfl (g_move (p := .sc (.int .i64 size)) rfl rfl rfl rfl) ?_
    refine al_op rfl (g_bin (u1 := .int .i64 size) (u2 := .int .i64 29) (v := .bool (decide ((size : Int) < 29))) rfl rfl rfl rfl rfl (fun _ => rfl)) ?_
    refine al_op rfl (g_assign (p := .sc (.bool (decide ((size : Int) < 29)))) rfl rfl rfl rfl) ?_
    refine al_nil ?_
    refine aw_ret ?_
    exact endG_mk (F := (fun (z : Bool) => ⟨[], [], .sc (.bool z)⟩)) (z := (msg_short kind size)) (v := decide ((size : Int) < 29)) (bT k1 rfl) rfl (.one (.tmp 4 (.sc (.bool (decide ((size : Int) < 29)))) rfl) (.one (.rfl _)) rfl) trivial trivial
  · skip
    refine aw_seq ?_
    refine aw_region ?_
    refine al_op rfl (g_bin (u1 := .int .i64 kind) (u2 := .int .i64 2) (v := .bool (decide ((kind : Int) = 2))) rfl rfl rfl rfl rfl (fun _ => rfl)) ?_
    refine al_op rfl (g_assign (p := .sc (.bool (decide ((kind : Int) = 2)))) rfl rfl rfl rfl) ?_
    refine al_nil ?_
    refine aw_cond (b := decide ((kind : Int) = 2)) rfl (fun k2 => ?_) (fun k2 => ?_)
    · skip
      refine aw_seq ?_
      refine aw_region ?_
      refine al_op rfl (g_move (p := .sc (.int .i64 size)) rfl rfl rfl rfl) ?_
      refine al_op rfl (g_bin (u1 := .int .i64 size) (u2 := .int .i64 23) (v := .bool (decide ((size : Int) < 23))) rfl rfl rfl rfl rfl (fun _ => rfl)) ?_
      refine al_op rfl (g_assign (p := .sc (.bool (decide ((size : Int) < 23)))) rfl rfl rfl rfl) ?_
      refine al_nil ?_
      refine aw_ret ?_
      exact endG_mk (F := (fun (z : Bool) => ⟨[], [], .sc (.bool z)⟩)) (z := (msg_short kind size)) (v := decide ((size : Int) < 23)) (bF k1 (bT k2 rfl)) rfl (.one (.tmp 4 (.sc (.bool (decide ((size : Int) < 23)))) rfl) (.one (.rfl _)) rfl) trivial trivial
    · skip
      refine aw_seq ?_
      refine aw_region ?_
      refine al_op rfl (g_bin (u1 := .int .i64 kind) (u2 := .int .i64 3) (v := .bool (decide ((kind : Int) = 3))) rfl rfl rfl rfl rfl (fun _ => rfl)) ?_
      refine al_op rfl (g_assign (p := .sc (.bool (decide ((kind : Int) = 3)))) rfl rfl rfl rfl) ?_
      refine al_nil ?_
      refine aw_cond (b := decide ((kind : Int) = 3)) rfl (fun k3 => ?_) (fun k3 => ?_)
      · skip
        refine aw_seq ?_
        refine aw_region ?_
        refine al_op rfl (g_move (p := .sc (.int .i64 size)) rfl rfl rfl rfl) ?_
        refine al_op rfl (g_bin (u1 := .int .i64 size) (u2 := .int .i64 21) (v := .bool (decide ((size : Int) < 21))) rfl rfl rfl rfl rfl (fun _ => rfl)) ?_
        refine al_op rfl (g_assign (p := .sc (.bool (decide ((size : Int) < 21)))) rfl rfl rfl rfl) ?_
        refine al_nil ?_
        refine aw_ret ?_
        exact endG_mk (F := (fun (z : Bool) => ⟨[], [], .sc (.bool z)⟩)) (z := (msg_short kind size)) (v := decide ((size : Int) < 21)) (bF k1 (bF k2 (bT k3 rfl))) rfl (.one (.tmp 4 (.sc (.bool (decide ((size : Int) < 21)))) rfl) (.one (.rfl _)) rfl) trivial trivial
      · skip
        refine aw_skip ?_
        refine aw_seq ?_
        refine aw_region ?_
        refine al_op rfl (g_move (p := .sc (.int .i64 size)) rfl rfl rfl rfl) ?_
        refine al_op rfl (g_bin (u1 := .int .i64 size) (u2 := .int .i64 19) (v := .bool (!(decide ((size : Int) = 19)))) rfl rfl rfl rfl rfl (fun _ => rfl)) ?_
        refine al_op rfl (g_assign (p := .sc (.bool (!(decide ((size : Int) = 19))))) rfl rfl rfl rfl) ?_
        refine al_nil ?_
        refine aw_ret ?_
        exact endG_mk (F := (fun (z : Bool) => ⟨[], [], .sc (.bool z)⟩)) (z := (msg_short kind size)) (v := !(decide ((size : Int) = 19))) (bF k1 (bF k2 (bF k3 rfl))) rfl (.one (.tmp 4 (.sc (.bool (!(decide ((size : Int) = 19))))) rfl) (.one (.rfl _)) rfl) trivial trivial
theorem msg_short_pf (kind : Int) (size : Int) : PF Tryz.prog 29 [.sc (.int .i64 kind), .sc (.int .i64 size)] (.sc (.bool (msg_short kind size))) := pf_ofG (msg_short_pf_g kind size) rfl

/-- bytes.Count -/
def bytes_Count1 (s : List Int) (c : Int) : Int :=
  (cntB s c : Int)
set_option maxRecDepth 100000 in
set_option maxHeartbeats 4000000 in
theorem bytes_Count1_pf_g (s : List Int) (c : Int) : PG Tryz.prog 28 [] [] [.sem (SL (eI .u8) s), .sem (SL (eI .u8) [c])] (fun _ : Unit => True) (fun _ => (fun (z : Int) => ⟨[], [], .sc (.int .i64 z)⟩) (bytes_Count1 s c)) := by
  refine pg_of (N := 35) (l := [.tmp 4]) Tryz.func28 rfl rfl rfl (Nat.le_of_ble_eq_true rfl) fun w0 i0 F βs => ?_
  refine aw_len 0 rfl (fun hl1 => ?_)
  refine aw_len 1 rfl (fun hl2 => ?_)
  refine aw_seq ?_
  refine aw_region ?_
  refine al_op rfl (g_assign (p := .sc (.int .i64 0)) rfl rfl rfl rfl) ?_
  refine al_nil ?_
  refine aw_seq ?_
  refine aw_seq ?_
  refine aw_region ?_
  refine al_op rfl (g_move (p := .sem (SL (eI .u8) [c])) rfl rfl rfl rfl) ?_
  refine al_op rfl (g_len (l := [c]) rfl rfl rfl Tryz.underlying22 (isSl_sem rfl)) ?_
  refine al_op rfl (g_bin (u1 := .int .i64 1) (u2 := .int .i64 0) (v := .bool false) rfl rfl rfl rfl rfl (fun _ => rfl)) ?_
  refine al_nil ?_
  refine aw_cond (b := false) rfl (fun h => by cases h) (fun _ => ?_)
  refine aw_skip ?_
  refine aw_seq ?_
  refine aw_seq ?_
  refine aw_region ?_
  refine al_op rfl (g_move (p := .sem (SL (eI .u8) [c])) rfl rfl rfl rfl) ?_
  refine al_op rfl (g_len (l := [c]) rfl rfl rfl Tryz.underlying22 (isSl_sem rfl)) ?_
  refine al_op rfl (g_bin (u1 := .int .i64 1) (u2 := .int .i64 1) (v := .bool true) rfl rfl rfl rfl rfl (fun _ => rfl)) ?_
  refine al_nil ?_
  refine aw_cond (b := true) rfl (fun _ => ?_) (fun h => by cases h)
  refine aw_seq ?_
  refine aw_region ?_
  refine al_op rfl (g_move (p := .sem (SL (eI .u8) s)) rfl rfl rfl rfl) ?_
  refine al_op rfl (g_move (p := .sem (SL (eI .u8) [c])) rfl rfl rfl rfl) ?_
  refine al_op rfl (g_indexAddr (E := (eI .u8)) (l := [c]) (y := c) (n := 0) rfl rfl rfl Tryz.underlying22 ty5 (isSl_sem rfl) rfl (by decide) rfl) ?_
  refine al_op rfl (g_loadPT (ps := [.sc (.int .u8 c)]) (p := .sc (.int .u8 c)) rfl rfl rfl ty5 rfl rfl rfl rfl rfl) ?_
  refine al_op rfl (g_count (fn := Tryz.f47) (l := s) (c := c) rfl rfl rfl Tryz.func47 rfl rfl (by kernel_rfl) (by kernel_rfl) (isSl_sem rfl) rfl) ?_
  refine al_op rfl (g_assign (p := .sc (.int .i64 (cntB s c : Int))) rfl rfl rfl rfl) ?_
  refine al_nil ?_
  refine aw_ret ?_
  exact endG_mk (F := (fun (z : Int) => ⟨[], [], .sc (.int .i64 z)⟩)) (z := (bytes_Count1 s c)) (v := (cntB s c : Int)) rfl rfl (.one (.tmp 4 (.sc (.int .i64 (cntB s c : Int))) rfl) (.one (.rfl _)) rfl) trivial trivial
theorem bytes_Count1_pf (s : List Int) (c : Int) : PF Tryz.prog 28 [.sem (SL (eI .u8) s), .sem (SL (eI .u8) [c])] (.sc (.int .i64 (bytes_Count1 s c))) := pf_ofG (bytes_Count1_pf_g s c) rfl

/-- interregnum/msg.Head -/
def msg_Head (b : List Int) : Int × api_Note :=
  (bif decide (((b.length : Int) : Int) < 19) then
    (0, (⟨0, 0, []⟩ : api_Note))
  else
    (bif !(decide (((bytes_Count1 (sub b 0 16) 255) : Int) = 16)) then
      (0, (msg_wrong 1 1 []))
    else
      (bif (decide (((msg_get2 (sub b 16 (b.length : Int))) : Int) < 19)) || (decide ((4096 : Int) < (msg_get2 (sub b 16 (b.length : Int))))) then
        (0, (msg_wrong 1 2 [(ix b 16), (ix b 17)]))
      else
        (bif (decide (((IntKind.wrap .i64 (ix b 18)) : Int) < 1)) || (decide ((4 : Int) < (IntKind.wrap .i64 (ix b 18)))) then
          (0, (msg_wrong 1 3 [(ix b 18)]))
        else
          (bif (msg_short (IntKind.wrap .i64 (ix b 18)) (msg_get2 (sub b 16 (b.length : Int)))) then
            (0, (msg_wrong 1 2 [(ix b 16), (ix b 17)]))
          else
            ((msg_get2 (sub b 16 (b.length : Int))), (⟨0, 0, []⟩ : api_Note)))))))
set_option maxRecDepth 100000 in
set_option maxHeartbeats 4000000 in
theorem msg_Head_pf_g (b : List Int) : PG Tryz.prog 11 [] [] [.sem (SL (eI .u8) b)] (fun _ : Unit => True) (fun _ => (fun (z : Int × api_Note) => ⟨[], [], .tup [.sc (.int .i64 z.1), .agg (api_Note.cells z.2)]⟩) (msg_Head b)) := by
  refine pg_of (N := 60) (l := [.tmp 2, .cell 3 38]) Tryz.func11 rfl rfl rfl (Nat.le_of_ble_eq_true rfl) fun w0 i0 F βs => ?_
  refine aw_seq ?_
  refine aw_region ?_
  refine al_op rfl (g_assign (p := .sc (.int .i64 0)) rfl rfl rfl rfl) ?_
  refine al_op rfl (g_alloc (s := 3) (z := zv38) (qs := zc38) rfl rfl rfl rfl z38 rfl rfl) ?_
  refine al_nil ?_
  refine aw_seq ?_
  refine aw_seq ?_
  refine aw_region ?_
  refine al_op rfl (g_move (p := .sem (SL (eI .u8) b)) rfl rfl rfl rfl) ?_
  refine al_op rfl (g_len rfl rfl rfl Tryz.underlying22 (isSl_sem rfl)) ?_
  refine al_op rfl (g_bin (u1 := .int .i64 (b.length : Int)) (u2 := .int .i64 19) (v := .bool (decide (((b.length : Int) : Int) < 19))) rfl rfl rfl rfl rfl (fun _ => rfl)) ?_
  refine al_nil ?_
  refine aw_cond (b := decide (((b.length : Int) : Int) < 19)) rfl (fun k1 => ?_) (fun k1 => ?_)
  · skip
    refine aw_seq ?_
    refine aw_region ?_
    refine al_op rfl (g_build (parts := []) (pps := []) (qs := zc38) rfl rfl rfl bld38 rfl rfl (by kernel_rfl)) ?_
    refine al_op rfl (g_assign (p := .sc (.int .i64 0)) rfl rfl rfl rfl) ?_
    refine al_op rfl (g_store (s := 3) (off := 0) (ps := zc38) (p := .agg zc38) (qs := zc38) rfl rfl ty38 rfl rfl rfl rfl rfl rfl rfl) ?_
    refine al_nil ?_
    refine aw_ret ?_
    exact endG_mk (F := (fun (z : Int × api_Note) => ⟨[], [], .tup [.sc (.int .i64 z.1), .agg (api_Note.cells z.2)]⟩)) (z := (msg_Head b)) (v := (0, (⟨0, 0, []⟩ : api_Note))) (bT k1 rfl) rfl (.two (.tmp 2 (.sc (.int .i64 0)) rfl) (.one (.rfl _)) rfl (.cell 3 38 3 3 true zc38 (.agg zc38) rfl rfl ty38 rfl rfl rfl) (.agg (.cons (.rfl _) (.cons (.rfl _) (.cons (.nil _) .nil)))) rfl) trivial trivial
  · skip
    refine aw_skip ?_
    refine aw_seq ?_
    refine aw_plan { ds := [some 11, some 12, some 13, some 14, some 15, some 16, some 17, some 4, some 5], p := fun i => [.sem (SL (eI .u8) b), .sem (SL (eI .u8) (sub b 16 (b.length : Int))), .sc (.int .i64 (msg_get2 (sub b 16 (b.length : Int)))), .sem (SL (eI .u8) b), .sem (PT [.sc (.int .u8 (ix b 18))]), .sc (.int .u8 (ix b 18)), .sc (.int .i64 (IntKind.wrap .i64 (ix b 18))), .sc (.int .i64 (msg_get2 (sub b 16 (b.length : Int)))), .sc (.int .i64 (IntKind.wrap .i64 (ix b 18)))].getD i .any, al := [], st := [] } rfl (by kernel_rfl) rfl rfl ?_ (fun bD hb => ?_)
    · refine ⟨fun bD hc hi hd => ?_, fun bD hc hi hd => ?_, fun bD hc hi hd => ?_, fun bD hc hi hd => ?_, fun bD hc hi hd => ?_, fun bD hc hi hd => ?_, fun bD hc hi hd => ?_, fun bD hc hi hd => ?_, fun bD hc hi hd => ?_, trivial⟩
      · exact Plan.putStep (i := 0) (q := .sem (SL (eI .u8) b)) rfl rfl rfl (gs_plain rfl (g_move (p := .sem (SL (eI .u8) b)) rfl rfl rfl rfl))
      · exact Plan.putStep (i := 1) (q := .sem (SL (eI .u8) (sub b 16 (b.length : Int)))) rfl rfl rfl (gs_plain rfl (step_slice (E := (eI .u8)) (l := b) (i := 16) (j := (b.length : Int)) rfl rfl rfl Tryz.underlying22 ty5 (by exact (isSl_sem (by exact (gt (p := .sem (SL (eI .u8) b)) (q := .any) (hd 0 (by decide)))))) (isB_some rfl) (isB_none rfl) (show 0 ≤ 16 ∧ 16 ≤ (b.length : Int) ∧ (b.length : Int) ≤ (b.length : Int) from (by first | omega | ((try simp only [z1, z2, z3, z4, z5, z6, z7, z8, z9, zA, zB, zC, zD, wrap64, wrapu8, wrapu16, wrapu32, wrapu64, tmod_ite, tdiv_ite, sub_len] at *); omega) | ((try simp only [z1, z2, z3, z4, z5, z6, z7, z8, z9, zA, tmod_ite, tdiv_ite, sub_len] at *); (try simp (disch := omega) only [wrap64_id]); (try simp only [z1, z2, z3, z4, z5, z6, z7, z8, z9, zA, zB, zC, zD, wrap64, wrapu8, wrapu16, wrapu32, wrapu64, tmod_ite, tdiv_ite, sub_len] at *); omega)))))
      · exact Plan.putStep (i := 2) (q := .sc (.int .i64 (msg_get2 (sub b 16 (b.length : Int))))) rfl rfl rfl (gs_plain rfl (g_call (fn := Tryz.f27) (xs := [.tmp 12]) (args := [.sem (SL (eI .u8) (sub b 16 (b.length : Int)))]) (r := .sc (.int .i64 (msg_get2 (sub b 16 (b.length : Int))))) rfl rfl rfl Tryz.func27 rfl rfl (congrS1 (b0 := .sem (SL (eI .u8) (sub b 16 (b.length : Int)))) (gt (p := .sem (SL (eI .u8) (sub b 16 (b.length : Int)))) (q := .any) (hd 1 (by decide)))) rfl rfl (msg_get2_pf (sub b 16 (b.length : Int)) (by first | omega | ((try simp only [z1, z2, z3, z4, z5, z6, z7, z8, z9, zA, zB, zC, zD, wrap64, wrapu8, wrapu16, wrapu32, wrapu64, tmod_ite, tdiv_ite, sub_len] at *); omega) | ((try simp only [z1, z2, z3, z4, z5, z6, z7, z8, z9, zA, tmod_ite, tdiv_ite, sub_len] at *); (try simp (disch := omega) only [wrap64_id]); (try simp only [z1, z2, z3, z4, z5, z6, z7, z8, z9, zA, zB, zC, zD, wrap64, wrapu8, wrapu16, wrapu32, wrapu64, tmod_ite, tdiv_ite, sub_len] at *); omega)))))
      · exact Plan.putStep (i := 3) (q := .sem (SL (eI .u8) b)) rfl rfl rfl (gs_plain rfl (g_move (p := .sem (SL (eI .u8) b)) rfl rfl rfl rfl))
      · exact Plan.putStep (i := 4) (q := .sem (PT [.sc (.int .u8 (ix b 18))])) rfl rfl rfl (gs_plain rfl (g_ix (E := (eI .u8)) (l := b) (n := 18) (ps := [.sc (.int .u8 (ix b 18))]) rfl rfl rfl Tryz.underlying22 ty5 (by exact (isSl_sem (by exact (gt (p := .sem (SL (eI .u8) b)) (q := .any) (hd 3 (by decide)))))) rfl (by first | omega | ((try simp only [z1, z2, z3, z4, z5, z6, z7, z8, z9, zA, zB, zC, zD, wrap64, wrapu8, wrapu16, wrapu32, wrapu64, tmod_ite, tdiv_ite, sub_len] at *); omega) | ((try simp only [z1, z2, z3, z4, z5, z6, z7, z8, z9, zA, tmod_ite, tdiv_ite, sub_len] at *); (try simp (disch := omega) only [wrap64_id]); (try simp only [z1, z2, z3, z4, z5, z6, z7, z8, z9, zA, zB, zC, zD, wrap64, wrapu8, wrapu16, wrapu32, wrapu64, tmod_ite, tdiv_ite, sub_len] at *); omega)) rfl))
      · exact Plan.putStep (i := 5) (q := .sc (.int .u8 (ix b 18))) rfl rfl rfl (gs_plain rfl (g_loadPT (ps := [.sc (.int .u8 (ix b 18))]) (p := .sc (.int .u8 (ix b 18))) rfl rfl rfl ty5 (gt (p := .sem (PT [.sc (.int .u8 (ix b 18))])) (q := .any) (hd 4 (by decide))) rfl rfl rfl rfl))
      · exact Plan.putStep (i := 6) (q := .sc (.int .i64 (IntKind.wrap .i64 (ix b 18)))) rfl rfl rfl (gs_plain rfl (g_conv (m := (IntKind.wrap .i64 (ix b 18))) rfl rfl rfl Tryz.underlying5 Tryz.underlying3 (gt (p := .sc (.int .u8 (ix b 18))) (q := .any) (hd 5 (by decide))) rfl))
      · exact Plan.putStep (i := 7) (q := .sc (.int .i64 (msg_get2 (sub b 16 (b.length : Int))))) rfl rfl rfl (gs_plain rfl (g_assign (p := .sc (.int .i64 (msg_get2 (sub b 16 (b.length : Int))))) rfl rfl rfl (gt (p := .sc (.int .i64 (msg_get2 (sub b 16 (b.length : Int))))) (q := .any) (hd 2 (by decide)))))
      · exact Plan.putStep (i := 8) (q := .sc (.int .i64 (IntKind.wrap .i64 (ix b 18)))) rfl rfl rfl (gs_plain rfl (g_assign (p := .sc (.int .i64 (IntKind.wrap .i64 (ix b 18)))) rfl rfl rfl (gt (p := .sc (.int .i64 (IntKind.wrap .i64 (ix b 18)))) (q := .any) (hd 6 (by decide)))))
    obtain rfl : bD = fun _ => true := funext hb
    refine aw_seq ?_
    refine aw_plan { ds := [some 18, some 19, some 20, some 21, some 22, some 23, some 24, some 25, some 6, none], p := fun i => [.sem (SL (eI .u8) b), .sem (PT [.sc (.int .u8 (ix b 16))]), .sc (.int .u8 (ix b 16)), .sem (SL (eI .u8) b), .sem (PT [.sc (.int .u8 (ix b 17))]), .sc (.int .u8 (ix b 17)), .sem (SL (eI .u8) [(ix b 16), (ix b 17)]), .agg (api_Note.cells (msg_wrong 1 2 [(ix b 16), (ix b 17)])), .loc 6 0, .any].getD i .any, al := [(8, 6, zc38)], st := [(9, 6, 0, (api_Note.cells (msg_wrong 1 2 [(ix b 16), (ix b 17)])))] } rfl (by kernel_rfl) rfl rfl ?_ (fun bD hb => ?_)
    · refine ⟨fun bD hc hi hd => ?_, fun bD hc hi hd => ?_, fun bD hc hi hd => ?_, fun bD hc hi hd => ?_, fun bD hc hi hd => ?_, fun bD hc hi hd => ?_, fun bD hc hi hd => ?_, fun bD hc hi hd => ?_, fun bD hc hi hd => ?_, fun bD hc hi hd => ?_, trivial⟩
      · exact Plan.putStep (i := 0) (q := .sem (SL (eI .u8) b)) rfl rfl rfl (gs_plain rfl (g_move (p := .sem (SL (eI .u8) b)) rfl rfl rfl rfl))
      · exact Plan.putStep (i := 1) (q := .sem (PT [.sc (.int .u8 (ix b 16))])) rfl rfl rfl (gs_plain rfl (g_ix (E := (eI .u8)) (l := b) (n := 16) (ps := [.sc (.int .u8 (ix b 16))]) rfl rfl rfl Tryz.underlying22 ty5 (by exact (isSl_sem (by exact (gt (p := .sem (SL (eI .u8) b)) (q := .any) (hd 0 (by decide)))))) rfl (by first | omega | ((try simp only [z1, z2, z3, z4, z5, z6, z7, z8, z9, zA, zB, zC, zD, wrap64, wrapu8, wrapu16, wrapu32, wrapu64, tmod_ite, tdiv_ite, sub_len] at *); omega) | ((try simp only [z1, z2, z3, z4, z5, z6, z7, z8, z9, zA, tmod_ite, tdiv_ite, sub_len] at *); (try simp (disch := omega) only [wrap64_id]); (try simp only [z1, z2, z3, z4, z5, z6, z7, z8, z9, zA, zB, zC, zD, wrap64, wrapu8, wrapu16, wrapu32, wrapu64, tmod_ite, tdiv_ite, sub_len] at *); omega)) rfl))
      · exact Plan.putStep (i := 2) (q := .sc (.int .u8 (ix b 16))) rfl rfl rfl (gs_plain rfl (g_loadPT (ps := [.sc (.int .u8 (ix b 16))]) (p := .sc (.int .u8 (ix b 16))) rfl rfl rfl ty5 (gt (p := .sem (PT [.sc (.int .u8 (ix b 16))])) (q := .any) (hd 1 (by decide))) rfl rfl rfl rfl))
      · exact Plan.putStep (i := 3) (q := .sem (SL (eI .u8) b)) rfl rfl rfl (gs_plain rfl (g_move (p := .sem (SL (eI .u8) b)) rfl rfl rfl rfl))
      · exact Plan.putStep (i := 4) (q := .sem (PT [.sc (.int .u8 (ix b 17))])) rfl rfl rfl (gs_plain rfl (g_ix (E := (eI .u8)) (l := b) (n := 17) (ps := [.sc (.int .u8 (ix b 17))]) rfl rfl rfl Tryz.underlying22 ty5 (by exact (isSl_sem (by exact (gt (p := .sem (SL (eI .u8) b)) (q := .any) (hd 3 (by decide)))))) rfl (by first | omega | ((try simp only [z1, z2, z3, z4, z5, z6, z7, z8, z9, zA, zB, zC, zD, wrap64, wrapu8, wrapu16, wrapu32, wrapu64, tmod_ite, tdiv_ite, sub_len] at *); omega) | ((try simp only [z1, z2, z3, z4, z5, z6, z7, z8, z9, zA, tmod_ite, tdiv_ite, sub_len] at *); (try simp (disch := omega) only [wrap64_id]); (try simp only [z1, z2, z3, z4, z5, z6, z7, z8, z9, zA, zB, zC, zD, wrap64, wrapu8, wrapu16, wrapu32, wrapu64, tmod_ite, tdiv_ite, sub_len] at *); omega)) rfl))
      · exact Plan.putStep (i := 5) (q := .sc (.int .u8 (ix b 17))) rfl rfl rfl (gs_plain rfl (g_loadPT (ps := [.sc (.int .u8 (ix b 17))]) (p := .sc (.int .u8 (ix b 17))) rfl rfl rfl ty5 (gt (p := .sem (PT [.sc (.int .u8 (ix b 17))])) (q := .any) (hd 4 (by decide))) rfl rfl rfl rfl))
      · exact Plan.putStep (i := 6) (q := .sem (SL (eI .u8) [(ix b 16), (ix b 17)])) rfl rfl rfl (gs_plain rfl (g_litSlP (E := (eI .u8)) (l := [(ix b 16), (ix b 17)]) (parts := [(0, .tmp 20), (1, .tmp 23)]) (pps := [(0, .sc (.int .u8 (ix b 16))), (1, .sc (.int .u8 (ix b 17)))]) (qs := [.sc (.int .u8 (ix b 16)), .sc (.int .u8 (ix b 17))]) rfl rfl rfl el22 rfl rfl (congr2 (b0 := .sc (.int .u8 (ix b 16))) (b1 := .sc (.int .u8 (ix b 17))) (gt (p := .sc (.int .u8 (ix b 16))) (q := .any) (hd 2 (by decide))) (gt (p := .sc (.int .u8 (ix b 17))) (q := .any) (hd 5 (by decide)))) rfl rfl))
      · exact Plan.putStep (i := 7) (q := .agg (api_Note.cells (msg_wrong 1 2 [(ix b 16), (ix b 17)]))) rfl rfl rfl (gs_plain rfl (g_call (fn := Tryz.f16) (xs := [.const (.int .i64 1), .const (.int .i64 2), .tmp 24]) (args := [.sc (.int .i64 1), .sc (.int .i64 2), .sem (SL (eI .u8) [(ix b 16), (ix b 17)])]) (r := .agg (api_Note.cells (msg_wrong 1 2 [(ix b 16), (ix b 17)]))) rfl rfl rfl Tryz.func16 rfl rfl (congrS3 (b0 := .sc (.int .i64 1)) (b1 := .sc (.int .i64 2)) (b2 := .sem (SL (eI .u8) [(ix b 16), (ix b 17)])) rfl rfl (gt (p := .sem (SL (eI .u8) [(ix b 16), (ix b 17)])) (q := .any) (hd 6 (by decide)))) rfl rfl (msg_wrong_pf 1 2 [(ix b 16), (ix b 17)])))
      · exact pl_alloc (i := 8) (d := 6) (s := 6) (z := zv38) (ps := zc38) rfl hc hi rfl rfl rfl rfl rfl z38 rfl rfl (base_N _ _) rfl rfl rfl rfl rfl (by kernel_rfl) (by kernel_rfl) (by kernel_rfl) (by kernel_rfl) rfl
      · exact pl_store (i := 9) (s := 6) (off := 0) (ps0 := zc38) (ps := zc38) (qs := (api_Note.cells (msg_wrong 1 2 [(ix b 16), (ix b 17)]))) (p := .agg (api_Note.cells (msg_wrong 1 2 [(ix b 16), (ix b 17)]))) 0 hc hd rfl rfl rfl ty38 (gt (p := .loc 6 0) (q := .any) (hd 8 (by decide))) (gt (p := .agg (api_Note.cells (msg_wrong 1 2 [(ix b 16), (ix b 17)]))) (q := .any) (hd 7 (by decide))) (by exact planL0_new (ps := zc38) rfl (hd 8 (by decide))) rfl rfl rfl rfl rfl rfl rfl hi rfl rfl (by kernel_rfl) (by kernel_rfl)
    obtain rfl : bD = fun _ => true := funext hb
    refine aw_seq ?_
    refine aw_block ?_
    refine aw_seq ?_
    refine aw_region ?_
    refine al_op rfl (g_move (p := .sem (SL (eI .u8) b)) rfl rfl rfl rfl) ?_
    refine al_op rfl (step_slice (E := (eI .u8)) (l := b) (i := 0) (j := 16) rfl rfl rfl Tryz.underlying22 ty5 (isSl_sem rfl) (isB_none rfl) (isB_some rfl) (show 0 ≤ 0 ∧ 0 ≤ 16 ∧ 16 ≤ (b.length : Int) from (by first | omega | ((try simp only [z1, z2, z3, z4, z5, z6, z7, z8, z9, zA, zB, zC, zD, wrap64, wrapu8, wrapu16, wrapu32, wrapu64, tmod_ite, tdiv_ite, sub_len] at *); omega) | ((try simp only [z1, z2, z3, z4, z5, z6, z7, z8, z9, zA, tmod_ite, tdiv_ite, sub_len] at *); (try simp (disch := omega) only [wrap64_id]); (try simp only [z1, z2, z3, z4, z5, z6, z7, z8, z9, zA, zB, zC, zD, wrap64, wrapu8, wrapu16, wrapu32, wrapu64, tmod_ite, tdiv_ite, sub_len] at *); omega)))) ?_
    refine al_op rfl (g_buildSlice (E := (eI .u8)) (l := [255]) (tp := 29) (parts := [(0, .const (.int .u8 255))]) (qs := [.sc (.int .u8 255)]) rfl rfl rfl el22 rfl rfl rfl rfl) ?_
    refine al_op rfl (g_call (fn := Tryz.f28) (xs := [.tmp 28, .tmp 29]) (args := [.sem (SL (eI .u8) (sub b 0 16)), .sem (SL (eI .u8) [255])]) (r := .sc (.int .i64 (bytes_Count1 (sub b 0 16) 255))) rfl rfl rfl Tryz.func28 rfl rfl rfl rfl rfl (bytes_Count1_pf (sub b 0 16) 255)) ?_
    refine al_op rfl (g_bin (u1 := .int .i64 (bytes_Count1 (sub b 0 16) 255)) (u2 := .int .i64 16) (v := .bool (!(decide (((bytes_Count1 (sub b 0 16) 255) : Int) = 16)))) rfl rfl rfl rfl rfl (fun _ => rfl)) ?_
    refine al_op rfl (g_assign (p := .sc (.bool (!(decide (((bytes_Count1 (sub b 0 16) 255) : Int) = 16))))) rfl rfl rfl rfl) ?_
    refine al_nil ?_
    refine aw_cond (b := !(decide (((bytes_Count1 (sub b 0 16) 255) : Int) = 16))) rfl (fun k2 => ?_) (fun k2 => ?_)
    · skip
      refine aw_seq ?_
      refine aw_region ?_
      refine al_op rfl (g_call (fn := Tryz.f16) (xs := [.const (.int .i64 1), .const (.int .i64 1), .const (.slice none 0 0)]) (args := [.sc (.int .i64 1), .sc (.int .i64 1), .sc (.slice none 0 0)]) (r := .agg (api_Note.cells (msg_wrong 1 1 []))) rfl rfl rfl Tryz.func16 rfl rfl rfl rfl rfl (pf_weak (msg_wrong_pf 1 1 []) (.cons (.one (.rfl _)) (.cons (.one (.rfl _)) (.cons (.one (.nil _)) .nil))))) ?_
      refine al_op rfl (g_assign (p := .sc (.int .i64 0)) rfl rfl rfl rfl) ?_
      refine al_op rfl (g_store (s := 3) (off := 0) (ps := zc38) (p := .agg (api_Note.cells (msg_wrong 1 1 []))) (qs := (api_Note.cells (msg_wrong 1 1 []))) rfl rfl ty38 rfl rfl rfl rfl rfl rfl rfl) ?_
      refine al_nil ?_
      refine aw_ret ?_
      exact endG_mk (F := (fun (z : Int × api_Note) => ⟨[], [], .tup [.sc (.int .i64 z.1), .agg (api_Note.cells z.2)]⟩)) (z := (msg_Head b)) (v := (0, (msg_wrong 1 1 []))) (bF k1 (bT k2 rfl)) rfl (.two (.tmp 2 (.sc (.int .i64 0)) rfl) (.one (.rfl _)) rfl (.cell 3 38 3 3 true (api_Note.cells (msg_wrong 1 1 [])) (.agg (api_Note.cells (msg_wrong 1 1 []))) rfl rfl ty38 rfl rfl rfl) (.one (.rfl _)) rfl) trivial trivial
    · skip
      refine aw_seq ?_
      refine aw_region ?_
      refine al_op rfl (g_move (p := .sc (.int .i64 (msg_get2 (sub b 16 (b.length : Int))))) rfl rfl rfl rfl) ?_
      refine al_op rfl (g_bin (u1 := .int .i64 (msg_get2 (sub b 16 (b.length : Int)))) (u2 := .int .i64 19) (v := .bool (decide (((msg_get2 (sub b 16 (b.length : Int))) : Int) < 19))) rfl rfl rfl rfl rfl (fun _ => rfl)) ?_
      refine al_op rfl (g_move (p := .sc (.bool (decide (((msg_get2 (sub b 16 (b.length : Int))) : Int) < 19)))) rfl rfl rfl rfl) ?_
      refine al_gW (C := !(decide (((msg_get2 (sub b 16 (b.length : Int))) : Int) < 19))) (p := .sc (.int .i64 (msg_get2 (sub b 16 (b.length : Int))))) (gd_F (b := decide (((msg_get2 (sub b 16 (b.length : Int))) : Int) < 19)) (c := !(decide (((msg_get2 (sub b 16 (b.length : Int))) : Int) < 19))) rfl rfl rfl rfl rfl rfl) rfl rfl (fun g3 => g_move (p := .sc (.int .i64 (msg_get2 (sub b 16 (b.length : Int))))) rfl rfl rfl rfl) ?_
      refine al_gW (C := !(decide (((msg_get2 (sub b 16 (b.length : Int))) : Int) < 19))) (p := .sc (.bool (decide ((4096 : Int) < (msg_get2 (sub b 16 (b.length : Int))))))) (gd_F (b := decide (((msg_get2 (sub b 16 (b.length : Int))) : Int) < 19)) (c := !(decide (((msg_get2 (sub b 16 (b.length : Int))) : Int) < 19))) rfl rfl rfl rfl rfl rfl) rfl rfl (fun g4 => g_bin (u1 := .int .i64 (msg_get2 (sub b 16 (b.length : Int)))) (u2 := .int .i64 4096) (v := .bool (decide ((4096 : Int) < (msg_get2 (sub b 16 (b.length : Int)))))) rfl rfl rfl (gt (p := .sc (.int .i64 (msg_get2 (sub b 16 (b.length : Int))))) (q := .sc undef) g4) rfl (fun _ => rfl)) ?_
      refine al_op rfl (g_orU (b := decide (((msg_get2 (sub b 16 (b.length : Int))) : Int) < 19)) (y := decide ((4096 : Int) < (msg_get2 (sub b 16 (b.length : Int))))) rfl rfl rfl rfl rfl rfl) ?_
      refine al_op rfl (g_assign (p := .sc (.bool ((decide (((msg_get2 (sub b 16 (b.length : Int))) : Int) < 19)) || (decide ((4096 : Int) < (msg_get2 (sub b 16 (b.length : Int)))))))) rfl rfl rfl rfl) ?_
      refine al_nil ?_
      refine aw_cond (b := (decide (((msg_get2 (sub b 16 (b.length : Int))) : Int) < 19)) || (decide ((4096 : Int) < (msg_get2 (sub b 16 (b.length : Int)))))) rfl (fun k5 => ?_) (fun k5 => ?_)
      · skip
        refine aw_seq ?_
        refine aw_plan { ds := [some 40, some 2, none], p := fun i => [.agg (api_Note.cells (msg_wrong 1 2 [(ix b 16), (ix b 17)])), .sc (.int .i64 0), .any].getD i .any, al := [], st := [(2, 3, 0, (api_Note.cells (msg_wrong 1 2 [(ix b 16), (ix b 17)])))] } rfl (by kernel_rfl) rfl rfl ?_ (fun bD hb => ?_)
        · refine ⟨fun bD hc hi hd => ?_, fun bD hc hi hd => ?_, fun bD hc hi hd => ?_, trivial⟩
          · exact Plan.putStep (i := 0) (q := .agg (api_Note.cells (msg_wrong 1 2 [(ix b 16), (ix b 17)]))) rfl rfl rfl (gs_plain rfl (g_load (s := 6) (off := 0) (ps := (api_Note.cells (msg_wrong 1 2 [(ix b 16), (ix b 17)]))) (p := .agg (api_Note.cells (msg_wrong 1 2 [(ix b 16), (ix b 17)]))) rfl rfl rfl ty38 rfl rfl rfl rfl rfl))
          · exact Plan.putStep (i := 1) (q := .sc (.int .i64 0)) rfl rfl rfl (gs_plain rfl (g_assign (p := .sc (.int .i64 0)) rfl rfl rfl rfl))
          · exact pl_store (i := 2) (s := 3) (off := 0) (ps0 := zc38) (ps := zc38) (qs := (api_Note.cells (msg_wrong 1 2 [(ix b 16), (ix b 17)]))) (p := .agg (api_Note.cells (msg_wrong 1 2 [(ix b 16), (ix b 17)]))) 0 hc hd rfl rfl rfl ty38 rfl (gt (p := .agg (api_Note.cells (msg_wrong 1 2 [(ix b 16), (ix b 17)]))) (q := .any) (hd 0 (by decide))) (by exact planL0_old (ps := zc38) rfl rfl) rfl rfl rfl rfl rfl rfl rfl hi rfl rfl (by kernel_rfl) (by kernel_rfl)
        obtain rfl : bD = fun _ => true := funext hb
        refine aw_ret ?_
        exact endG_mk (F := (fun (z : Int × api_Note) => ⟨[], [], .tup [.sc (.int .i64 z.1), .agg (api_Note.cells z.2)]⟩)) (z := (msg_Head b)) (v := (0, (msg_wrong 1 2 [(ix b 16), (ix b 17)]))) (bF k1 (bF k2 (bT k5 rfl))) rfl (.two (.tmp 2 (.sc (.int .i64 0)) rfl) (.one (.rfl _)) rfl (.cell 3 38 3 3 true (api_Note.cells (msg_wrong 1 2 [(ix b 16), (ix b 17)])) (.agg (api_Note.cells (msg_wrong 1 2 [(ix b 16), (ix b 17)]))) rfl rfl ty38 rfl rfl rfl) (.one (.rfl _)) rfl) trivial trivial
      · skip
        refine aw_seq ?_
        refine aw_region ?_
        refine al_op rfl (g_move (p := .sc (.int .i64 (IntKind.wrap .i64 (ix b 18)))) rfl rfl rfl rfl) ?_
        refine al_op rfl (g_bin (u1 := .int .i64 (IntKind.wrap .i64 (ix b 18))) (u2 := .int .i64 1) (v := .bool (decide (((IntKind.wrap .i64 (ix b 18)) : Int) < 1))) rfl rfl rfl rfl rfl (fun _ => rfl)) ?_
        refine al_op rfl (g_move (p := .sc (.bool (decide (((IntKind.wrap .i64 (ix b 18)) : Int) < 1)))) rfl rfl rfl rfl) ?_
        refine al_gW (C := !(decide (((IntKind.wrap .i64 (ix b 18)) : Int) < 1))) (p := .sc (.int .i64 (IntKind.wrap .i64 (ix b 18)))) (gd_F (b := decide (((IntKind.wrap .i64 (ix b 18)) : Int) < 1)) (c := !(decide (((IntKind.wrap .i64 (ix b 18)) : Int) < 1))) rfl rfl rfl rfl rfl rfl) rfl rfl (fun g6 => g_move (p := .sc (.int .i64 (IntKind.wrap .i64 (ix b 18)))) rfl rfl rfl rfl) ?_
        refine al_gW (C := !(decide (((IntKind.wrap .i64 (ix b 18)) : Int) < 1))) (p := .sc (.bool (decide ((4 : Int) < (IntKind.wrap .i64 (ix b 18)))))) (gd_F (b := decide (((IntKind.wrap .i64 (ix b 18)) : Int) < 1)) (c := !(decide (((IntKind.wrap .i64 (ix b 18)) : Int) < 1))) rfl rfl rfl rfl rfl rfl) rfl rfl (fun g7 => g_bin (u1 := .int .i64 (IntKind.wrap .i64 (ix b 18))) (u2 := .int .i64 4) (v := .bool (decide ((4 : Int) < (IntKind.wrap .i64 (ix b 18))))) rfl rfl rfl (gt (p := .sc (.int .i64 (IntKind.wrap .i64 (ix b 18)))) (q := .sc undef) g7) rfl (fun _ => rfl)) ?_
        refine al_op rfl (g_orU (b := decide (((IntKind.wrap .i64 (ix b 18)) : Int) < 1)) (y := decide ((4 : Int) < (IntKind.wrap .i64 (ix b 18)))) rfl rfl rfl rfl rfl rfl) ?_
        refine al_op rfl (g_assign (p := .sc (.bool ((decide (((IntKind.wrap .i64 (ix b 18)) : Int) < 1)) || (decide ((4 : Int) < (IntKind.wrap .i64 (ix b 18))))))) rfl rfl rfl rfl) ?_
        refine al_nil ?_
        refine aw_cond (b := (decide (((IntKind.wrap .i64 (ix b 18)) : Int) < 1)) || (decide ((4 : Int) < (IntKind.wrap .i64 (ix b 18))))) rfl (fun k8 => ?_) (fun k8 => ?_)
        · skip
          refine aw_seq ?_
          refine aw_region ?_
          refine al_op rfl (g_move (p := .sem (SL (eI .u8) b)) rfl rfl rfl rfl) ?_
          refine al_op rfl (g_ix (E := (eI .u8)) (l := b) (n := 18) (ps := [.sc (.int .u8 (ix b 18))]) rfl rfl rfl Tryz.underlying22 ty5 (isSl_sem rfl) rfl (by first | omega | ((try simp only [z1, z2, z3, z4, z5, z6, z7, z8, z9, zA, zB, zC, zD, wrap64, wrapu8, wrapu16, wrapu32, wrapu64, tmod_ite, tdiv_ite, sub_len] at *); omega) | ((try simp only [z1, z2, z3, z4, z5, z6, z7, z8, z9, zA, tmod_ite, tdiv_ite, sub_len] at *); (try simp (disch := omega) only [wrap64_id]); (try simp only [z1, z2, z3, z4, z5, z6, z7, z8, z9, zA, zB, zC, zD, wrap64, wrapu8, wrapu16, wrapu32, wrapu64, tmod_ite, tdiv_ite, sub_len] at *); omega)) rfl) ?_
          refine al_op rfl (g_loadPT (ps := [.sc (.int .u8 (ix b 18))]) (p := .sc (.int .u8 (ix b 18))) rfl rfl rfl ty5 rfl rfl rfl rfl rfl) ?_
          refine al_op rfl (g_buildSlice (E := (eI .u8)) (l := [(ix b 18)]) (tp := 51) (parts := [(0, .tmp 50)]) (qs := [.sc (.int .u8 (ix b 18))]) rfl rfl rfl el22 rfl rfl rfl rfl) ?_
          refine al_op rfl (g_call (fn := Tryz.f16) (xs := [.const (.int .i64 1), .const (.int .i64 3), .tmp 51]) (args := [.sc (.int .i64 1), .sc (.int .i64 3), .sem (SL (eI .u8) [(ix b 18)])]) (r := .agg (api_Note.cells (msg_wrong 1 3 [(ix b 18)]))) rfl rfl rfl Tryz.func16 rfl rfl rfl rfl rfl (msg_wrong_pf 1 3 [(ix b 18)])) ?_
          refine al_op rfl (g_assign (p := .sc (.int .i64 0)) rfl rfl rfl rfl) ?_
          refine al_op rfl (g_store (s := 3) (off := 0) (ps := zc38) (p := .agg (api_Note.cells (msg_wrong 1 3 [(ix b 18)]))) (qs := (api_Note.cells (msg_wrong 1 3 [(ix b 18)]))) rfl rfl ty38 rfl rfl rfl rfl rfl rfl rfl) ?_
          refine al_nil ?_
          refine aw_ret ?_
          exact endG_mk (F := (fun (z : Int × api_Note) => ⟨[], [], .tup [.sc (.int .i64 z.1), .agg (api_Note.cells z.2)]⟩)) (z := (msg_Head b)) (v := (0, (msg_wrong 1 3 [(ix b 18)]))) (bF k1 (bF k2 (bF k5 (bT k8 rfl)))) rfl (.two (.tmp 2 (.sc (.int .i64 0)) rfl) (.one (.rfl _)) rfl (.cell 3 38 3 3 true (api_Note.cells (msg_wrong 1 3 [(ix b 18)])) (.agg (api_Note.cells (msg_wrong 1 3 [(ix b 18)]))) rfl rfl ty38 rfl rfl rfl) (.one (.rfl _)) rfl) trivial trivial
        · skip
          refine aw_seq ?_
          refine aw_region ?_
          refine al_op rfl (g_move (p := .sc (.int .i64 (IntKind.wrap .i64 (ix b 18)))) rfl rfl rfl rfl) ?_
          refine al_op rfl (g_move (p := .sc (.int .i64 (msg_get2 (sub b 16 (b.length : Int))))) rfl rfl rfl rfl) ?_
          refine al_op rfl (g_call (fn := Tryz.f29) (xs := [.tmp 54, .tmp 55]) (args := [.sc (.int .i64 (IntKind.wrap .i64 (ix b 18))), .sc (.int .i64 (msg_get2 (sub b 16 (b.length : Int))))]) (r := .sc (.bool (msg_short (IntKind.wrap .i64 (ix b 18)) (msg_get2 (sub b 16 (b.length : Int)))))) rfl rfl rfl Tryz.func29 rfl rfl rfl rfl rfl (msg_short_pf (IntKind.wrap .i64 (ix b 18)) (msg_get2 (sub b 16 (b.length : Int))))) ?_
          refine al_op rfl (g_assign (p := .sc (.bool (msg_short (IntKind.wrap .i64 (ix b 18)) (msg_get2 (sub b 16 (b.length : Int)))))) rfl rfl rfl rfl) ?_
          refine al_nil ?_
          refine aw_cond (b := (msg_short (IntKind.wrap .i64 (ix b 18)) (msg_get2 (sub b 16 (b.length : Int))))) rfl (fun k9 => ?_) (fun k9 => ?_)
          · skip
            refine aw_seq ?_
            refine aw_plan { ds := [some 57, some 2, none], p := fun i => [.agg (api_Note.cells (msg_wrong 1 2 [(ix b 16), (ix b 17)])), .sc (.int .i64 0), .any].getD i .any, al := [], st := [(2, 3, 0, (api_Note.cells (msg_wrong 1 2 [(ix b 16), (ix b 17)])))] } rfl (by kernel_rfl) rfl rfl ?_ (fun bD hb => ?_)
            · refine ⟨fun bD hc hi hd => ?_, fun bD hc hi hd => ?_, fun bD hc hi hd => ?_, trivial⟩
              · exact Plan.putStep (i := 0) (q := .agg (api_Note.cells (msg_wrong 1 2 [(ix b 16), (ix b 17)]))) rfl rfl rfl (gs_plain rfl (g_load (s := 6) (off := 0) (ps := (api_Note.cells (msg_wrong 1 2 [(ix b 16), (ix b 17)]))) (p := .agg (api_Note.cells (msg_wrong 1 2 [(ix b 16), (ix b 17)]))) rfl rfl rfl ty38 rfl rfl rfl rfl rfl))
              · exact Plan.putStep (i := 1) (q := .sc (.int .i64 0)) rfl rfl rfl (gs_plain rfl (g_assign (p := .sc (.int .i64 0)) rfl rfl rfl rfl))
              · exact pl_store (i := 2) (s := 3) (off := 0) (ps0 := zc38) (ps := zc38) (qs := (api_Note.cells (msg_wrong 1 2 [(ix b 16), (ix b 17)]))) (p := .agg (api_Note.cells (msg_wrong 1 2 [(ix b 16), (ix b 17)]))) 0 hc hd rfl rfl rfl ty38 rfl (gt (p := .agg (api_Note.cells (msg_wrong 1 2 [(ix b 16), (ix b 17)]))) (q := .any) (hd 0 (by decide))) (by exact planL0_old (ps := zc38) rfl rfl) rfl rfl rfl rfl rfl rfl rfl hi rfl rfl (by kernel_rfl) (by kernel_rfl)
            obtain rfl : bD = fun _ => true := funext hb
            refine aw_ret ?_
            exact endG_mk (F := (fun (z : Int × api_Note) => ⟨[], [], .tup [.sc (.int .i64 z.1), .agg (api_Note.cells z.2)]⟩)) (z := (msg_Head b)) (v := (0, (msg_wrong 1 2 [(ix b 16), (ix b 17)]))) (bF k1 (bF k2 (bF k5 (bF k8 (bT k9 rfl))))) rfl (.two (.tmp 2 (.sc (.int .i64 0)) rfl) (.one (.rfl _)) rfl (.cell 3 38 3 3 true (api_Note.cells (msg_wrong 1 2 [(ix b 16), (ix b 17)])) (.agg (api_Note.cells (msg_wrong 1 2 [(ix b 16), (ix b 17)]))) rfl rfl ty38 rfl rfl rfl) (.one (.rfl _)) rfl) trivial trivial
          · skip
            refine aw_skip ?_
            refine aw_seq ?_
            refine aw_region ?_
            refine al_op rfl (g_move (p := .sc (.int .i64 (msg_get2 (sub b 16 (b.length : Int))))) rfl rfl rfl rfl) ?_
            refine al_op rfl (g_build (parts := []) (pps := []) (qs := zc38) rfl rfl rfl bld38 rfl rfl (by kernel_rfl)) ?_
            refine al_op rfl (g_assign (p := .sc (.int .i64 (msg_get2 (sub b 16 (b.length : Int))))) rfl rfl rfl rfl) ?_
            refine al_op rfl (g_store (s := 3) (off := 0) (ps := zc38) (p := .agg zc38) (qs := zc38) rfl rfl ty38 rfl rfl rfl rfl rfl rfl rfl) ?_
            refine al_nil ?_
            refine aw_ret ?_
            exact endG_mk (F := (fun (z : Int × api_Note) => ⟨[], [], .tup [.sc (.int .i64 z.1), .agg (api_Note.cells z.2)]⟩)) (z := (msg_Head b)) (v := ((msg_get2 (sub b 16 (b.length : Int))), (⟨0, 0, []⟩ : api_Note))) (bF k1 (bF k2 (bF k5 (bF k8 (bF k9 rfl))))) rfl (.two (.tmp 2 (.sc (.int .i64 (msg_get2 (sub b 16 (b.length : Int))))) rfl) (.one (.rfl _)) rfl (.cell 3 38 3 3 true zc38 (.agg zc38) rfl rfl ty38 rfl rfl rfl) (.agg (.cons (.rfl _) (.cons (.rfl _) (.cons (.nil _) .nil)))) rfl) trivial trivial
theorem msg_Head_pf (b : List Int) : PF Tryz.prog 11 [.sem (SL (eI .u8) b)] (.tup [.sc (.int .i64 ((msg_Head b).1)), .agg (api_Note.cells ((msg_Head b).2))]) := pf_ofG (msg_Head_pf_g b) rfl

/-- interregnum/msg.two -/
def msg_two (b : List Int) (v : Int) : List Int :=
  (b ++ [(IntKind.wrap .u8 (Int.fdiv v (2 ^ 8))), (IntKind.wrap .u8 v)])
set_option maxRecDepth 100000 in
set_option maxHeartbeats 4000000 in
theorem msg_two_pf (b : List Int) (v : Int) (hl0 : b.length ≤ 70368744177664) : PG Tryz.prog 33 [] [(1000, (1, b.length))] [.own 1000 b.length (SL (eI .u8) b), .sc (.int .i64 v)] (fun _ : Unit => True) (fun _ => (fun (z : List Int) => ⟨[], [(1000, (1, z.length))], .own 1000 z.length (SL (eI .u8) z)⟩) (msg_two b v)) := by
  refine pg_of (N := 13) (l := [.tmp 4]) Tryz.func33 rfl rfl rfl (Nat.le_of_ble_eq_true rfl) fun w0 i0 F βs => ?_
  refine aw_seq ?_
  refine aw_region ?_
  refine al_op rfl (g_assign (p := .sc (.slice none 0 0)) rfl rfl rfl rfl) ?_
  refine al_nil ?_
  refine aw_seq ?_
  refine aw_region ?_
  refine al_op rfl (g_move (p := .own 1000 b.length (SL (eI .u8) b)) rfl rfl rfl rfl) ?_
  refine al_op rfl (g_move (p := .sc (.int .i64 v)) rfl rfl rfl rfl) ?_
  refine al_op rfl (g_bin (u1 := .int .i64 v) (u2 := .int .u64 8) (v := .int .i64 (Int.fdiv v (2 ^ 8))) rfl rfl rfl rfl rfl (fun _ => rfl)) ?_
  refine al_op rfl (g_conv (m := (IntKind.wrap .u8 (Int.fdiv v (2 ^ 8)))) rfl rfl rfl Tryz.underlying3 Tryz.underlying5 rfl rfl) ?_
  refine al_op rfl (g_move (p := .sc (.int .i64 v)) rfl rfl rfl rfl) ?_
  refine al_op rfl (g_conv (m := (IntKind.wrap .u8 v)) rfl rfl rfl Tryz.underlying3 Tryz.underlying5 rfl rfl) ?_
  refine al_op rfl (g_buildSlice (E := (eI .u8)) (l := [(IntKind.wrap .u8 (Int.fdiv v (2 ^ 8))), (IntKind.wrap .u8 v)]) (tp := 11) (parts := [(0, .tmp 8), (1, .tmp 10)]) (qs := [.sc (.int .u8 (IntKind.wrap .u8 (Int.fdiv v (2 ^ 8)))), .sc (.int .u8 (IntKind.wrap .u8 v))]) rfl rfl rfl el22 rfl rfl rfl rfl) ?_
  refine al_op rfl (g_append (E := (eI .u8)) (l := b) (ext := [(IntKind.wrap .u8 (Int.fdiv v (2 ^ 8))), (IntKind.wrap .u8 v)]) (tp := 1000) rfl rfl rfl el22 rfl rfl (isSl_own rfl) (by first | ((try simp only [zB, zC, zD, sub_len]); omega) | ((try simp only [z1, z2, z3, z4, z5, z6, z7, z8, z9, zA, zB, zC, zD, wrap64, wrapu8, wrapu16, wrapu32, wrapu64, tmod_ite, tdiv_ite, sub_len] at *); omega))) ?_
  refine al_op rfl (g_assign (p := .own 1000 (List.length (α := Int) (b ++ [(IntKind.wrap .u8 (Int.fdiv v (2 ^ 8))), (IntKind.wrap .u8 v)])) (SL (eI .u8) (b ++ [(IntKind.wrap .u8 (Int.fdiv v (2 ^ 8))), (IntKind.wrap .u8 v)]))) rfl rfl rfl rfl) ?_
  refine al_nil ?_
  refine aw_ret ?_
  exact endG_mk (F := (fun (z : List Int) => ⟨[], [(1000, (1, z.length))], .own 1000 z.length (SL (eI .u8) z)⟩)) (z := (msg_two b v)) (v := (b ++ [(IntKind.wrap .u8 (Int.fdiv v (2 ^ 8))), (IntKind.wrap .u8 v)])) rfl rfl (.one (.tmp 4 (.own 1000 (List.length (α := Int) (b ++ [(IntKind.wrap .u8 (Int.fdiv v (2 ^ 8))), (IntKind.wrap .u8 v)])) (SL (eI .u8) (b ++ [(IntKind.wrap .u8 (Int.fdiv v (2 ^ 8))), (IntKind.wrap .u8 v)]))) rfl) (.one (.rfl _)) rfl) trivial ⟨rfl, trivial⟩
theorem msg_two_len (b : List Int) (v : Int) : (msg_two b v).length = b.length + 2 := by simp [msg_two]

def ref01_Same_l0 (a : List Int) (b : List Int) : Nat → Int → (Bool) ⊕ (Int)
  | 0, _ => Sum.inr default
  | n0 + 1, i_0 =>
    (bif decide ((i_0 : Int) < (a.length : Int)) then
      (bif !(decide (((ix a i_0) : Int) = (ix b i_0))) then
        Sum.inl false
      else
        ref01_Same_l0 a b n0 (IntKind.wrap .i64 (i_0 + 1)))
    else
      Sum.inr i_0)
/-- interregnum/interregnumref01.Same -/
def ref01_Same (a : List Int) (b : List Int) : Bool :=
  (bif !(decide (((a.length : Int) : Int) = (b.length : Int))) then
    false
  else
    (Sum.elim (fun z => z) (fun (x_0 : Int) =>
      true) (ref01_Same_l0 a b (((a.length : Int) - 0).toNat + 1) 0)))
set_option maxRecDepth 100000 in
set_option maxHeartbeats 4000000 in
theorem ref01_Same_pf_g (a : List Int) (b : List Int) : PG Tryz.prog 14 [] [] [.sem (SL (eI .u8) a), .sem (SL (eI .u8) b)] (fun _ : Unit => True) (fun _ => (fun (z : Bool) => ⟨[], [], .sc (.bool z)⟩) (ref01_Same a b)) := by
  refine pg_of (N := 26) (l := [.tmp 4]) Tryz.func14 rfl rfl rfl (Nat.le_of_ble_eq_true rfl) fun w0 i0 F βs => ?_
  refine aw_len 0 rfl (fun hl1 => ?_)
  refine aw_len 1 rfl (fun hl2 => ?_)
  refine aw_seq ?_
  refine aw_region ?_
  refine al_op rfl (g_assign (p := .sc (.bool false)) rfl rfl rfl rfl) ?_
  refine al_nil ?_
  refine aw_seq ?_
  refine aw_seq ?_
  refine aw_region ?_
  refine al_op rfl (g_move (p := .sem (SL (eI .u8) a)) rfl rfl rfl rfl) ?_
  refine al_op rfl (g_len rfl rfl rfl Tryz.underlying22 (isSl_sem rfl)) ?_
  refine al_op rfl (g_move (p := .sem (SL (eI .u8) b)) rfl rfl rfl rfl) ?_
  refine al_op rfl (g_len rfl rfl rfl Tryz.underlying22 (isSl_sem rfl)) ?_
  refine al_op rfl (g_bin (u1 := .int .i64 (a.length : Int)) (u2 := .int .i64 (b.length : Int)) (v := .bool (!(decide (((a.length : Int) : Int) = (b.length : Int))))) rfl rfl rfl rfl rfl (fun _ => rfl)) ?_
  refine al_nil ?_
  refine aw_cond (b := !(decide (((a.length : Int) : Int) = (b.length : Int)))) rfl (fun k3 => ?_) (fun k3 => ?_)
  · skip
    refine aw_seq ?_
    refine aw_region ?_
    refine al_op rfl (g_assign (p := .sc (.bool false)) rfl rfl rfl rfl) ?_
    refine al_nil ?_
    refine aw_ret ?_
    exact endG_mk (F := (fun (z : Bool) => ⟨[], [], .sc (.bool z)⟩)) (z := (ref01_Same a b)) (v := false) (bT k3 rfl) rfl (.one (.tmp 4 (.sc (.bool false)) rfl) (.one (.rfl _)) rfl) trivial trivial
  · skip
    refine aw_skip ?_
    refine aw_seq ?_
    refine aw_seq ?_
    refine aw_region ?_
    refine al_op rfl (g_assign (p := .sc (.int .i64 0)) rfl rfl rfl rfl) ?_
    refine al_nil ?_
    refine aw_tailV (ι := Int) (p := fun x_0 => (ref01_Same_l0 a b (((a.length : Int) - 0).toNat + 1) 0) = .inr x_0) (S := fun x_0 => St.of 26 [(0, .sem (SL (eI .u8) a)), (1, .sem (SL (eI .u8) b)), (4, .sc (.bool false)), (5, .sc (.int .i64 x_0))] [] []) (by first | exact closedAW | exact closedV | exact closedS | exact closedJ) ?_ (fun x_0 e4 => ?_)
    · skip
      refine aw_block ?_
      refine aw_loopS (ι := Nat × Int) (S := fun i => St.of 26 [(0, .sem (SL (eI .u8) a)), (1, .sem (SL (eI .u8) b)), (4, .sc (.bool false)), (5, .sc (.int .i64 i.2))] [] []) (J := fun i => ref01_Same_l0 a b i.1 i.2 = (ref01_Same_l0 a b (((a.length : Int) - 0).toNat + 1) 0) ∧ (((a.length : Int) - i.2).toNat < i.1) ∧ (0 ≤ i.2)) (μ := fun i => i.1) (i₀ := ((((a.length : Int) - 0).toNat + 1), 0)) (sub_of rfl ⟨⟨rfl, (.one (.rfl _))⟩, ⟨⟨rfl, (.one (.rfl _))⟩, ⟨⟨rfl, (.one (.rfl _))⟩, ⟨⟨rfl, (.one (.rfl _))⟩, trivial⟩⟩⟩⟩ trivial trivial) ⟨rfl, (by first | omega | ((try simp only [z1, z2, z3, z4, z5, z6, z7, z8, z9, zA, zB, zC, zD, wrap64, wrapu8, wrapu16, wrapu32, wrapu64, tmod_ite, tdiv_ite, sub_len, msg_two_len] at *); omega) | ((try simp only [z1, z2, z3, z4, z5, z6, z7, z8, z9, zA, tmod_ite, tdiv_ite, sub_len, msg_two_len] at *); (try simp (disch := omega) only [wrap64_id]); (try simp only [z1, z2, z3, z4, z5, z6, z7, z8, z9, zA, zB, zC, zD, wrap64, wrapu8, wrapu16, wrapu32, wrapu64, tmod_ite, tdiv_ite, sub_len] at *); omega)), (by first | omega | ((try simp only [z1, z2, z3, z4, z5, z6, z7, z8, z9, zA, zB, zC, zD, wrap64, wrapu8, wrapu16, wrapu32, wrapu64, tmod_ite, tdiv_ite, sub_len, msg_two_len] at *); omega) | ((try simp only [z1, z2, z3, z4, z5, z6, z7, z8, z9, zA, tmod_ite, tdiv_ite, sub_len, msg_two_len] at *); (try simp (disch := omega) only [wrap64_id]); (try simp only [z1, z2, z3, z4, z5, z6, z7, z8, z9, zA, zB, zC, zD, wrap64, wrapu8, wrapu16, wrapu32, wrapu64, tmod_ite, tdiv_ite, sub_len] at *); omega))⟩ ?_
      rintro ⟨n0, i_0⟩ ⟨hJ0, hm0_0, hm0_1⟩
      obtain ⟨n0, rfl⟩ : ∃ m, n0 = m + 1 := ⟨n0 - 1, by have : 0 < n0 := Nat.lt_of_le_of_lt (Nat.zero_le _) hm0_0; omega⟩
      replace hJ0 : ref01_Same_l0 a b (n0 + 1) i_0 = (ref01_Same_l0 a b (((a.length : Int) - 0).toNat + 1) 0) := hJ0
      replace hm0_0 : ((a.length : Int) - i_0).toNat < n0 + 1 := hm0_0
      replace hm0_1 : 0 ≤ i_0 := hm0_1
      refine aw_len 0 rfl (fun hl5 => ?_)
      refine aw_len 1 rfl (fun hl6 => ?_)
      refine aw_seq ?_
      refine aw_seq ?_
      refine aw_region ?_
      refine al_op rfl (g_move (p := .sc (.int .i64 i_0)) rfl rfl rfl rfl) ?_
      refine al_op rfl (g_move (p := .sem (SL (eI .u8) a)) rfl rfl rfl rfl) ?_
      refine al_op rfl (g_len rfl rfl rfl Tryz.underlying22 (isSl_sem rfl)) ?_
      refine al_op rfl (g_bin (u1 := .int .i64 i_0) (u2 := .int .i64 (a.length : Int)) (v := .bool (decide ((i_0 : Int) < (a.length : Int)))) rfl rfl rfl rfl rfl (fun _ => rfl)) ?_
      refine al_nil ?_
      refine aw_cond (b := decide ((i_0 : Int) < (a.length : Int))) rfl (fun k7 => ?_) (fun k7 => ?_)
      · skip
        refine aw_skip ?_
        refine aw_seq ?_
        refine aw_block ?_
        refine aw_seq ?_
        refine aw_plan { ds := [some 17, some 18, some 19, some 20, some 21, some 22, some 23, some 24, some 25], p := fun i => [.sem (SL (eI .u8) a), .sc (.int .i64 i_0), .sem (PT [.sc (.int .u8 (ix a i_0))]), .sc (.int .u8 (ix a i_0)), .sem (SL (eI .u8) b), .sc (.int .i64 i_0), .sem (PT [.sc (.int .u8 (ix b i_0))]), .sc (.int .u8 (ix b i_0)), .sc (.bool (!(decide (((ix a i_0) : Int) = (ix b i_0)))))].getD i .any, al := [], st := [] } rfl (by kernel_rfl) rfl rfl ?_ (fun bD hb => ?_)
        · refine ⟨fun bD hc hi hd => ?_, fun bD hc hi hd => ?_, fun bD hc hi hd => ?_, fun bD hc hi hd => ?_, fun bD hc hi hd => ?_, fun bD hc hi hd => ?_, fun bD hc hi hd => ?_, fun bD hc hi hd => ?_, fun bD hc hi hd => ?_, trivial⟩
          · exact Plan.putStep (i := 0) (q := .sem (SL (eI .u8) a)) rfl rfl rfl (gs_plain rfl (g_move (p := .sem (SL (eI .u8) a)) rfl rfl rfl rfl))
          · exact Plan.putStep (i := 1) (q := .sc (.int .i64 i_0)) rfl rfl rfl (gs_plain rfl (g_move (p := .sc (.int .i64 i_0)) rfl rfl rfl rfl))
          · exact Plan.putStep (i := 2) (q := .sem (PT [.sc (.int .u8 (ix a i_0))])) rfl rfl rfl (gs_plain rfl (g_ix (E := (eI .u8)) (l := a) (n := i_0) (ps := [.sc (.int .u8 (ix a i_0))]) rfl rfl rfl Tryz.underlying22 ty5 (by exact (isSl_sem (by exact (gt (p := .sem (SL (eI .u8) a)) (q := .any) (hd 0 (by decide)))))) (gt (p := .sc (.int .i64 i_0)) (q := .any) (hd 1 (by decide))) (by first | omega | ((try simp only [z1, z2, z3, z4, z5, z6, z7, z8, z9, zA, zB, zC, zD, wrap64, wrapu8, wrapu16, wrapu32, wrapu64, tmod_ite, tdiv_ite, sub_len, msg_two_len] at *); omega) | ((try simp only [z1, z2, z3, z4, z5, z6, z7, z8, z9, zA, tmod_ite, tdiv_ite, sub_len, msg_two_len] at *); (try simp (disch := omega) only [wrap64_id]); (try simp only [z1, z2, z3, z4, z5, z6, z7, z8, z9, zA, zB, zC, zD, wrap64, wrapu8, wrapu16, wrapu32, wrapu64, tmod_ite, tdiv_ite, sub_len] at *); omega)) rfl))
          · exact Plan.putStep (i := 3) (q := .sc (.int .u8 (ix a i_0))) rfl rfl rfl (gs_plain rfl (g_loadPT (ps := [.sc (.int .u8 (ix a i_0))]) (p := .sc (.int .u8 (ix a i_0))) rfl rfl rfl ty5 (gt (p := .sem (PT [.sc (.int .u8 (ix a i_0))])) (q := .any) (hd 2 (by decide))) rfl rfl rfl rfl))
          · exact Plan.putStep (i := 4) (q := .sem (SL (eI .u8) b)) rfl rfl rfl (gs_plain rfl (g_move (p := .sem (SL (eI .u8) b)) rfl rfl rfl rfl))
          · exact Plan.putStep (i := 5) (q := .sc (.int .i64 i_0)) rfl rfl rfl (gs_plain rfl (g_move (p := .sc (.int .i64 i_0)) rfl rfl rfl rfl))
          · exact Plan.putStep (i := 6) (q := .sem (PT [.sc (.int .u8 (ix b i_0))])) rfl rfl rfl (gs_plain rfl (g_ix (E := (eI .u8)) (l := b) (n := i_0) (ps := [.sc (.int .u8 (ix b i_0))]) rfl rfl rfl Tryz.underlying22 ty5 (by exact (isSl_sem (by exact (gt (p := .sem (SL (eI .u8) b)) (q := .any) (hd 4 (by decide)))))) (gt (p := .sc (.int .i64 i_0)) (q := .any) (hd 5 (by decide))) (by first | omega | ((try simp only [z1, z2, z3, z4, z5, z6, z7, z8, z9, zA, zB, zC, zD, wrap64, wrapu8, wrapu16, wrapu32, wrapu64, tmod_ite, tdiv_ite, sub_len, msg_two_len] at *); omega) | ((try simp only [z1, z2, z3, z4, z5, z6, z7, z8, z9, zA, tmod_ite, tdiv_ite, sub_len, msg_two_len] at *); (try simp (disch := omega) only [wrap64_id]); (try simp only [z1, z2, z3, z4, z5, z6, z7, z8, z9, zA, zB, zC, zD, wrap64, wrapu8, wrapu16, wrapu32, wrapu64, tmod_ite, tdiv_ite, sub_len] at *); omega)) rfl))
          · exact Plan.putStep (i := 7) (q := .sc (.int .u8 (ix b i_0))) rfl rfl rfl (gs_plain rfl (g_loadPT (ps := [.sc (.int .u8 (ix b i_0))]) (p := .sc (.int .u8 (ix b i_0))) rfl rfl rfl ty5 (gt (p := .sem (PT [.sc (.int .u8 (ix b i_0))])) (q := .any) (hd 6 (by decide))) rfl rfl rfl rfl))
          · exact Plan.putStep (i := 8) (q := .sc (.bool (!(decide (((ix a i_0) : Int) = (ix b i_0)))))) rfl rfl rfl (gs_plain rfl (g_bin (u1 := .int .u8 (ix a i_0)) (u2 := .int .u8 (ix b i_0)) (v := .bool (!(decide (((ix a i_0) : Int) = (ix b i_0))))) rfl rfl rfl (gt (p := .sc (.int .u8 (ix a i_0))) (q := .any) (hd 3 (by decide))) (gt (p := .sc (.int .u8 (ix b i_0))) (q := .any) (hd 7 (by decide))) (fun _ => rfl)))
        obtain rfl : bD = fun _ => true := funext hb
        refine aw_cond (b := !(decide (((ix a i_0) : Int) = (ix b i_0)))) rfl (fun k8 => ?_) (fun k8 => ?_)
        · skip
          refine aw_seq ?_
          refine aw_region ?_
          refine al_op rfl (g_assign (p := .sc (.bool false)) rfl rfl rfl rfl) ?_
          refine al_nil ?_
          refine aw_ret ?_
          exact endG_mk (F := (fun (z : Bool) => ⟨[], [], .sc (.bool z)⟩)) (z := (ref01_Same a b)) (v := false) (bF k3 (mL (hJ0.symm.trans (bT k7 (bT k8 rfl))) rfl)) rfl (.one (.tmp 4 (.sc (.bool false)) rfl) (.one (.rfl _)) rfl) trivial trivial
        · skip
          refine aw_skip ?_
          refine aw_region ?_
          refine al_op rfl (g_move (p := .sc (.int .i64 i_0)) rfl rfl rfl rfl) ?_
          refine al_op rfl (g_bin (u1 := .int .i64 i_0) (u2 := .int .i64 1) (v := .int .i64 (IntKind.wrap .i64 (i_0 + 1))) rfl rfl rfl rfl rfl (fun _ => rfl)) ?_
          refine al_op rfl (g_assign (p := .sc (.int .i64 (IntKind.wrap .i64 (i_0 + 1)))) rfl rfl rfl rfl) ?_
          refine al_nil ?_
          exact ⟨(n0, (IntKind.wrap .i64 (i_0 + 1))), (sub_of rfl ⟨⟨rfl, (.one (.rfl _))⟩, ⟨⟨rfl, (.one (.rfl _))⟩, ⟨⟨rfl, (.one (.rfl _))⟩, ⟨⟨rfl, (.one (.rfl _))⟩, trivial⟩⟩⟩⟩ trivial trivial), ⟨Eq.trans (Eq.symm (bT k7 (bF k8 rfl))) hJ0, (by first | omega | ((try simp only [z1, z2, z3, z4, z5, z6, z7, z8, z9, zA, zB, zC, zD, wrap64, wrapu8, wrapu16, wrapu32, wrapu64, tmod_ite, tdiv_ite, sub_len, msg_two_len] at *); omega) | ((try simp only [z1, z2, z3, z4, z5, z6, z7, z8, z9, zA, tmod_ite, tdiv_ite, sub_len, msg_two_len] at *); (try simp (disch := omega) only [wrap64_id]); (try simp only [z1, z2, z3, z4, z5, z6, z7, z8, z9, zA, zB, zC, zD, wrap64, wrapu8, wrapu16, wrapu32, wrapu64, tmod_ite, tdiv_ite, sub_len] at *); omega)), (by first | omega | ((try simp only [z1, z2, z3, z4, z5, z6, z7, z8, z9, zA, zB, zC, zD, wrap64, wrapu8, wrapu16, wrapu32, wrapu64, tmod_ite, tdiv_ite, sub_len, msg_two_len] at *); omega) | ((try simp only [z1, z2, z3, z4, z5, z6, z7, z8, z9, zA, tmod_ite, tdiv_ite, sub_len, msg_two_len] at *); (try simp (disch := omega) only [wrap64_id]); (try simp only [z1, z2, z3, z4, z5, z6, z7, z8, z9, zA, zB, zC, zD, wrap64, wrapu8, wrapu16, wrapu32, wrapu64, tmod_ite, tdiv_ite, sub_len] at *); omega))⟩, Nat.lt_succ_self _⟩
      · skip
        refine aw_exit ?_
        exact ⟨i_0, hJ0.symm.trans (bF k7 rfl), (sub_of rfl ⟨⟨rfl, (.one (.rfl _))⟩, ⟨⟨rfl, (.one (.rfl _))⟩, ⟨⟨rfl, (.one (.rfl _))⟩, ⟨⟨rfl, (.one (.rfl _))⟩, trivial⟩⟩⟩⟩ trivial trivial)⟩
    · skip
      refine aw_len 0 rfl (fun hl9 => ?_)
      refine aw_len 1 rfl (fun hl10 => ?_)
      refine aw_seq ?_
      refine aw_region ?_
      refine al_op rfl (g_assign (p := .sc (.bool true)) rfl rfl rfl rfl) ?_
      refine al_nil ?_
      refine aw_ret ?_
      exact endG_mk (F := (fun (z : Bool) => ⟨[], [], .sc (.bool z)⟩)) (z := (ref01_Same a b)) (v := true) (bF k3 (mR e4 rfl)) rfl (.one (.tmp 4 (.sc (.bool true)) rfl) (.one (.rfl _)) rfl) trivial trivial
theorem ref01_Same_pf (a : List Int) (b : List Int) : PF Tryz.prog 14 [.sem (SL (eI .u8) a), .sem (SL (eI .u8) b)] (.sc (.bool (ref01_Same a b))) := pf_ofG (ref01_Same_pf_g a b) rfl

/-- interregnum/interregnumref05.SameNote -/
def ref05_SameNote (a0 : api_Note) (a1 : api_Note) : Bool :=
  ((decide ((a0.fCode : Int) = a1.fCode)) && (decide ((a0.fSub : Int) = a1.fSub))) && (ref01_Same a0.fData a1.fData)
set_option maxRecDepth 100000 in
set_option maxHeartbeats 4000000 in
theorem ref05_SameNote_pf_g (a0 : api_Note) (a1 : api_Note) : PG Tryz.prog 9 [] [] [.agg (api_Note.cells a0), .agg (api_Note.cells a1)] (fun _ : Unit => True) (fun _ => (fun (z : Bool) => ⟨[], [], .sc (.bool z)⟩) (ref05_SameNote a0 a1)) := by
  refine pg_of (N := 24) (l := [.tmp 4]) Tryz.func9 rfl rfl rfl (Nat.le_of_ble_eq_true rfl) fun w0 i0 F βs => ?_
  refine aw_seq ?_
  refine aw_region ?_
  refine al_op rfl (g_box (s := 2) (p := .agg (api_Note.cells a0)) (qs := (api_Note.cells a0)) rfl rfl rfl rfl rfl rfl rfl) ?_
  refine al_op rfl (g_box (s := 3) (p := .agg (api_Note.cells a1)) (qs := (api_Note.cells a1)) rfl rfl rfl rfl rfl rfl rfl) ?_
  refine al_op rfl (g_assign (p := .sc (.bool false)) rfl rfl rfl rfl) ?_
  refine al_nil ?_
  refine aw_seq ?_
  refine aw_region ?_
  refine al_op rfl (g_fieldAddr (b := 2) (k := 0) (m := 0) rfl rfl rfl fld38_0 rfl rfl) ?_
  refine al_op rfl (g_load (s := 2) (off := 0) (ps := (api_Note.cells a0)) (p := .sc (.int .i64 a0.fCode)) rfl rfl rfl ty3 rfl rfl rfl rfl rfl) ?_
  refine al_op rfl (g_fieldAddr (b := 3) (k := 0) (m := 0) rfl rfl rfl fld38_0 rfl rfl) ?_
  refine al_op rfl (g_load (s := 3) (off := 0) (ps := (api_Note.cells a1)) (p := .sc (.int .i64 a1.fCode)) rfl rfl rfl ty3 rfl rfl rfl rfl rfl) ?_
  refine al_op rfl (g_bin (u1 := .int .i64 a0.fCode) (u2 := .int .i64 a1.fCode) (v := .bool (decide ((a0.fCode : Int) = a1.fCode))) rfl rfl rfl rfl rfl (fun _ => rfl)) ?_
  refine al_op rfl (g_move (p := .sc (.bool (decide ((a0.fCode : Int) = a1.fCode)))) rfl rfl rfl rfl) ?_
  refine al_gW (C := decide ((a0.fCode : Int) = a1.fCode)) (p := .loc 2 1) (gd_T rfl rfl rfl rfl rfl) rfl rfl (fun g1 => g_fieldAddr (b := 2) (k := 0) (m := 1) rfl rfl rfl fld38_1 rfl rfl) ?_
  refine al_gW (C := decide ((a0.fCode : Int) = a1.fCode)) (p := .sc (.int .i64 a0.fSub)) (gd_T rfl rfl rfl rfl rfl) rfl rfl (fun g2 => g_load (s := 2) (off := 1) (ps := (api_Note.cells a0)) (p := .sc (.int .i64 a0.fSub)) rfl rfl rfl ty3 (gt (p := .loc 2 1) (q := .sc undef) g2) rfl rfl rfl rfl) ?_
  refine al_gW (C := decide ((a0.fCode : Int) = a1.fCode)) (p := .loc 3 1) (gd_T rfl rfl rfl rfl rfl) rfl rfl (fun g3 => g_fieldAddr (b := 3) (k := 0) (m := 1) rfl rfl rfl fld38_1 rfl rfl) ?_
  refine al_gW (C := decide ((a0.fCode : Int) = a1.fCode)) (p := .sc (.int .i64 a1.fSub)) (gd_T rfl rfl rfl rfl rfl) rfl rfl (fun g4 => g_load (s := 3) (off := 1) (ps := (api_Note.cells a1)) (p := .sc (.int .i64 a1.fSub)) rfl rfl rfl ty3 (gt (p := .loc 3 1) (q := .sc undef) g4) rfl rfl rfl rfl) ?_
  refine al_gW (C := decide ((a0.fCode : Int) = a1.fCode)) (p := .sc (.bool (decide ((a0.fSub : Int) = a1.fSub)))) (gd_T rfl rfl rfl rfl rfl) rfl rfl (fun g5 => g_bin (u1 := .int .i64 a0.fSub) (u2 := .int .i64 a1.fSub) (v := .bool (decide ((a0.fSub : Int) = a1.fSub))) rfl rfl rfl (gt (p := .sc (.int .i64 a0.fSub)) (q := .sc undef) g5) (gt (p := .sc (.int .i64 a1.fSub)) (q := .sc undef) g5) (fun _ => rfl)) ?_
  refine al_op rfl (g_andU (b := decide ((a0.fCode : Int) = a1.fCode)) (y := decide ((a0.fSub : Int) = a1.fSub)) rfl rfl rfl rfl rfl) ?_
  refine al_op rfl (g_move (p := .sc (.bool ((decide ((a0.fCode : Int) = a1.fCode)) && (decide ((a0.fSub : Int) = a1.fSub))))) rfl rfl rfl rfl) ?_
  refine al_gW (C := (decide ((a0.fCode : Int) = a1.fCode)) && (decide ((a0.fSub : Int) = a1.fSub))) (p := .loc 2 2) (gd_T rfl rfl rfl rfl rfl) rfl rfl (fun g6 => g_fieldAddr (b := 2) (k := 0) (m := 2) rfl rfl rfl fld38_2 rfl rfl) ?_
  refine al_gW (C := (decide ((a0.fCode : Int) = a1.fCode)) && (decide ((a0.fSub : Int) = a1.fSub))) (p := .sem (SL (eI .u8) a0.fData)) (gd_T rfl rfl rfl rfl rfl) rfl rfl (fun g7 => g_load (s := 2) (off := 2) (ps := (api_Note.cells a0)) (p := .sem (SL (eI .u8) a0.fData)) rfl rfl rfl ty22 (gt (p := .loc 2 2) (q := .sc undef) g7) rfl rfl rfl rfl) ?_
  refine al_gW (C := (decide ((a0.fCode : Int) = a1.fCode)) && (decide ((a0.fSub : Int) = a1.fSub))) (p := .loc 3 2) (gd_T rfl rfl rfl rfl rfl) rfl rfl (fun g8 => g_fieldAddr (b := 3) (k := 0) (m := 2) rfl rfl rfl fld38_2 rfl rfl) ?_
  refine al_gW (C := (decide ((a0.fCode : Int) = a1.fCode)) && (decide ((a0.fSub : Int) = a1.fSub))) (p := .sem (SL (eI .u8) a1.fData)) (gd_T rfl rfl rfl rfl rfl) rfl rfl (fun g9 => g_load (s := 3) (off := 2) (ps := (api_Note.cells a1)) (p := .sem (SL (eI .u8) a1.fData)) rfl rfl rfl ty22 (gt (p := .loc 3 2) (q := .sc undef) g9) rfl rfl rfl rfl) ?_
  refine al_gW (C := (decide ((a0.fCode : Int) = a1.fCode)) && (decide ((a0.fSub : Int) = a1.fSub))) (p := .sc (.bool (ref01_Same a0.fData a1.fData))) (gd_T rfl rfl rfl rfl rfl) rfl rfl (fun g10 => g_call (fn := Tryz.f14) (xs := [.tmp 19, .tmp 21]) (args := [.sem (SL (eI .u8) a0.fData), .sem (SL (eI .u8) a1.fData)]) (r := .sc (.bool (ref01_Same a0.fData a1.fData))) rfl rfl rfl Tryz.func14 rfl rfl (congrS2 (b0 := .sem (SL (eI .u8) a0.fData)) (b1 := .sem (SL (eI .u8) a1.fData)) (gt (p := .sem (SL (eI .u8) a0.fData)) (q := .sc undef) g10) (gt (p := .sem (SL (eI .u8) a1.fData)) (q := .sc undef) g10)) rfl rfl (ref01_Same_pf a0.fData a1.fData)) ?_
  refine al_op rfl (g_andU (b := (decide ((a0.fCode : Int) = a1.fCode)) && (decide ((a0.fSub : Int) = a1.fSub))) (y := (ref01_Same a0.fData a1.fData)) rfl rfl rfl rfl rfl) ?_
  refine al_op rfl (g_assign (p := .sc (.bool (((decide ((a0.fCode : Int) = a1.fCode)) && (decide ((a0.fSub : Int) = a1.fSub))) && (ref01_Same a0.fData a1.fData)))) rfl rfl rfl rfl) ?_
  refine al_nil ?_
  refine aw_ret ?_
  exact endG_mk (F := (fun (z : Bool) => ⟨[], [], .sc (.bool z)⟩)) (z := (ref05_SameNote a0 a1)) (v := ((decide ((a0.fCode : Int) = a1.fCode)) && (decide ((a0.fSub : Int) = a1.fSub))) && (ref01_Same a0.fData a1.fData)) rfl rfl (.one (.tmp 4 (.sc (.bool (((decide ((a0.fCode : Int) = a1.fCode)) && (decide ((a0.fSub : Int) = a1.fSub))) && (ref01_Same a0.fData a1.fData)))) rfl) (.one (.rfl _)) rfl) trivial trivial
theorem ref05_SameNote_pf (a0 : api_Note) (a1 : api_Note) : PF Tryz.prog 9 [.agg (api_Note.cells a0), .agg (api_Note.cells a1)] (.sc (.bool (ref05_SameNote a0 a1))) := pf_ofG (ref05_SameNote_pf_g a0 a1) rfl

/-- math/bits.Mul64 -/
def bits_Mul64  : Int × Int :=
  (0, 16)
set_option maxRecDepth 100000 in
set_option maxHeartbeats 4000000 in
theorem bits_Mul64_pf_g  : PG Tryz.prog 87 [] [] [.sc (.int .u64 1), .sc (.int .u64 16)] (fun _ : Unit => True) (fun _ => (fun (z : Int × Int) => ⟨[], [], .tup [.sc (.int .u64 z.1), .sc (.int .u64 z.2)]⟩) bits_Mul64) := by
  refine pg_of (N := 51) (l := [.tmp 4, .tmp 5]) Tryz.func87 rfl rfl rfl (Nat.le_of_ble_eq_true rfl) fun w0 i0 F βs => ?_
  refine aw_seq ?_
  refine aw_region ?_
  refine al_op rfl (g_assign (p := .sc (.int .u64 0)) rfl rfl rfl rfl) ?_
  refine al_op rfl (g_assign (p := .sc (.int .u64 0)) rfl rfl rfl rfl) ?_
  refine al_nil ?_
  refine aw_seq ?_
  refine aw_region ?_
  refine al_op rfl (g_move (p := .sc (.int .u64 1)) rfl rfl rfl rfl) ?_
  refine al_op rfl (g_bin (u1 := .int .u64 1) (u2 := .int .u64 4294967295) (v := .int .u64 1) rfl rfl rfl rfl rfl (fun _ => by kernel_rfl)) ?_
  refine al_op rfl (g_assign (p := .sc (.int .u64 1)) rfl rfl rfl rfl) ?_
  refine al_nil ?_
  refine aw_seq ?_
  refine aw_region ?_
  refine al_op rfl (g_move (p := .sc (.int .u64 1)) rfl rfl rfl rfl) ?_
  refine al_op rfl (g_bin (u1 := .int .u64 1) (u2 := .int .u64 32) (v := .int .u64 0) rfl rfl rfl rfl rfl (fun _ => by kernel_rfl)) ?_
  refine al_op rfl (g_assign (p := .sc (.int .u64 0)) rfl rfl rfl rfl) ?_
  refine al_nil ?_
  refine aw_seq ?_
  refine aw_region ?_
  refine al_op rfl (g_move (p := .sc (.int .u64 16)) rfl rfl rfl rfl) ?_
  refine al_op rfl (g_bin (u1 := .int .u64 16) (u2 := .int .u64 4294967295) (v := .int .u64 16) rfl rfl rfl rfl rfl (fun _ => by kernel_rfl)) ?_
  refine al_op rfl (g_assign (p := .sc (.int .u64 16)) rfl rfl rfl rfl) ?_
  refine al_nil ?_
  refine aw_seq ?_
  refine aw_region ?_
  refine al_op rfl (g_move (p := .sc (.int .u64 16)) rfl rfl rfl rfl) ?_
  refine al_op rfl (g_bin (u1 := .int .u64 16) (u2 := .int .u64 32) (v := .int .u64 0) rfl rfl rfl rfl rfl (fun _ => by kernel_rfl)) ?_
  refine al_op rfl (g_assign (p := .sc (.int .u64 0)) rfl rfl rfl rfl) ?_
  refine al_nil ?_
  refine aw_seq ?_
  refine aw_region ?_
  refine al_op rfl (g_move (p := .sc (.int .u64 1)) rfl rfl rfl rfl) ?_
  refine al_op rfl (g_move (p := .sc (.int .u64 16)) rfl rfl rfl rfl) ?_
  refine al_op rfl (g_bin (u1 := .int .u64 1) (u2 := .int .u64 16) (v := .int .u64 16) rfl rfl rfl rfl rfl (fun _ => by kernel_rfl)) ?_
  refine al_op rfl (g_assign (p := .sc (.int .u64 16)) rfl rfl rfl rfl) ?_
  refine al_nil ?_
  refine aw_seq ?_
  refine aw_region ?_
  refine al_op rfl (g_move (p := .sc (.int .u64 0)) rfl rfl rfl rfl) ?_
  refine al_op rfl (g_move (p := .sc (.int .u64 16)) rfl rfl rfl rfl) ?_
  refine al_op rfl (g_bin (u1 := .int .u64 0) (u2 := .int .u64 16) (v := .int .u64 0) rfl rfl rfl rfl rfl (fun _ => by kernel_rfl)) ?_
  refine al_op rfl (g_move (p := .sc (.int .u64 16)) rfl rfl rfl rfl) ?_
  refine al_op rfl (g_bin (u1 := .int .u64 16) (u2 := .int .u64 32) (v := .int .u64 0) rfl rfl rfl rfl rfl (fun _ => by kernel_rfl)) ?_
  refine al_op rfl (g_bin (u1 := .int .u64 0) (u2 := .int .u64 0) (v := .int .u64 0) rfl rfl rfl rfl rfl (fun _ => by kernel_rfl)) ?_
  refine al_op rfl (g_assign (p := .sc (.int .u64 0)) rfl rfl rfl rfl) ?_
  refine al_nil ?_
  refine aw_seq ?_
  refine aw_region ?_
  refine al_op rfl (g_move (p := .sc (.int .u64 0)) rfl rfl rfl rfl) ?_
  refine al_op rfl (g_bin (u1 := .int .u64 0) (u2 := .int .u64 4294967295) (v := .int .u64 0) rfl rfl rfl rfl rfl (fun _ => by kernel_rfl)) ?_
  refine al_op rfl (g_assign (p := .sc (.int .u64 0)) rfl rfl rfl rfl) ?_
  refine al_nil ?_
  refine aw_seq ?_
  refine aw_region ?_
  refine al_op rfl (g_move (p := .sc (.int .u64 0)) rfl rfl rfl rfl) ?_
  refine al_op rfl (g_bin (u1 := .int .u64 0) (u2 := .int .u64 32) (v := .int .u64 0) rfl rfl rfl rfl rfl (fun _ => by kernel_rfl)) ?_
  refine al_op rfl (g_assign (p := .sc (.int .u64 0)) rfl rfl rfl rfl) ?_
  refine al_nil ?_
  refine aw_seq ?_
  refine aw_region ?_
  refine al_op rfl (g_move (p := .sc (.int .u64 0)) rfl rfl rfl rfl) ?_
  refine al_op rfl (g_move (p := .sc (.int .u64 1)) rfl rfl rfl rfl) ?_
  refine al_op rfl (g_move (p := .sc (.int .u64 0)) rfl rfl rfl rfl) ?_
  refine al_op rfl (g_bin (u1 := .int .u64 1) (u2 := .int .u64 0) (v := .int .u64 0) rfl rfl rfl rfl rfl (fun _ => by kernel_rfl)) ?_
  refine al_op rfl (g_bin (u1 := .int .u64 0) (u2 := .int .u64 0) (v := .int .u64 0) rfl rfl rfl rfl rfl (fun _ => by kernel_rfl)) ?_
  refine al_op rfl (g_assign (p := .sc (.int .u64 0)) rfl rfl rfl rfl) ?_
  refine al_nil ?_
  refine aw_seq ?_
  refine aw_region ?_
  refine al_op rfl (g_move (p := .sc (.int .u64 0)) rfl rfl rfl rfl) ?_
  refine al_op rfl (g_move (p := .sc (.int .u64 0)) rfl rfl rfl rfl) ?_
  refine al_op rfl (g_bin (u1 := .int .u64 0) (u2 := .int .u64 0) (v := .int .u64 0) rfl rfl rfl rfl rfl (fun _ => by kernel_rfl)) ?_
  refine al_op rfl (g_move (p := .sc (.int .u64 0)) rfl rfl rfl rfl) ?_
  refine al_op rfl (g_bin (u1 := .int .u64 0) (u2 := .int .u64 0) (v := .int .u64 0) rfl rfl rfl rfl rfl (fun _ => by kernel_rfl)) ?_
  refine al_op rfl (g_move (p := .sc (.int .u64 0)) rfl rfl rfl rfl) ?_
  refine al_op rfl (g_bin (u1 := .int .u64 0) (u2 := .int .u64 32) (v := .int .u64 0) rfl rfl rfl rfl rfl (fun _ => by kernel_rfl)) ?_
  refine al_op rfl (g_bin (u1 := .int .u64 0) (u2 := .int .u64 0) (v := .int .u64 0) rfl rfl rfl rfl rfl (fun _ => by kernel_rfl)) ?_
  refine al_op rfl (g_assign (p := .sc (.int .u64 0)) rfl rfl rfl rfl) ?_
  refine al_nil ?_
  refine aw_seq ?_
  refine aw_region ?_
  refine al_op rfl (g_move (p := .sc (.int .u64 1)) rfl rfl rfl rfl) ?_
  refine al_op rfl (g_move (p := .sc (.int .u64 16)) rfl rfl rfl rfl) ?_
  refine al_op rfl (g_bin (u1 := .int .u64 1) (u2 := .int .u64 16) (v := .int .u64 16) rfl rfl rfl rfl rfl (fun _ => by kernel_rfl)) ?_
  refine al_op rfl (g_assign (p := .sc (.int .u64 16)) rfl rfl rfl rfl) ?_
  refine al_nil ?_
  refine aw_ret ?_
  exact endG_mk (F := (fun (z : Int × Int) => ⟨[], [], .tup [.sc (.int .u64 z.1), .sc (.int .u64 z.2)]⟩)) (z := bits_Mul64) (v := (0, 16)) rfl rfl (.two (.tmp 4 (.sc (.int .u64 0)) rfl) (.one (.rfl _)) rfl (.tmp 5 (.sc (.int .u64 16)) rfl) (.one (.rfl _)) rfl) trivial trivial
theorem bits_Mul64_pf  : PF Tryz.prog 87 [.sc (.int .u64 1), .sc (.int .u64 16)] (.tup [.sc (.int .u64 bits_Mul64.1), .sc (.int .u64 bits_Mul64.2)]) := pf_ofG (bits_Mul64_pf_g) rfl

/-- math/bits.Mul -/
def bits_Mul  : Int × Int :=
  (0, 16)
set_option maxRecDepth 100000 in
set_option maxHeartbeats 4000000 in
theorem bits_Mul_pf_g  : PG Tryz.prog 58 [] [] [.sc (.int .u64 1), .sc (.int .u64 16)] (fun _ : Unit => True) (fun _ => (fun (z : Int × Int) => ⟨[], [], .tup [.sc (.int .u64 z.1), .sc (.int .u64 z.2)]⟩) bits_Mul) := by
  refine pg_of (N := 30) (l := [.tmp 4, .tmp 5]) Tryz.func58 rfl rfl rfl (Nat.le_of_ble_eq_true rfl) fun w0 i0 F βs => ?_
  refine aw_seq ?_
  refine aw_region ?_
  refine al_op rfl (g_assign (p := .sc (.int .u64 0)) rfl rfl rfl rfl) ?_
  refine al_op rfl (g_assign (p := .sc (.int .u64 0)) rfl rfl rfl rfl) ?_
  refine al_nil ?_
  refine aw_seq ?_
  refine aw_cond (b := false) rfl (fun h => by cases h) (fun _ => ?_)
  refine aw_skip ?_
  refine aw_seq ?_
  refine aw_region ?_
  refine al_op rfl (g_move (p := .sc (.int .u64 1)) rfl rfl rfl rfl) ?_
  refine al_op rfl (g_move (p := .sc (.int .u64 16)) rfl rfl rfl rfl) ?_
  refine al_op rfl (g_call (fn := Tryz.f87) (xs := [.tmp 23, .tmp 24]) (args := [.sc (.int .u64 1), .sc (.int .u64 16)]) (r := .tup [.sc (.int .u64 0), .sc (.int .u64 16)]) rfl rfl rfl Tryz.func87 rfl rfl rfl rfl rfl (PF.conv (bits_Mul64_pf) rfl)) ?_
  refine al_op rfl (g_move (p := .tup [.sc (.int .u64 0), .sc (.int .u64 16)]) rfl rfl rfl rfl) ?_
  refine al_op rfl (g_extract (ps := [.sc (.int .u64 0), .sc (.int .u64 16)]) (p := .sc (.int .u64 0)) rfl rfl rfl rfl rfl) ?_
  refine al_op rfl (g_extract (ps := [.sc (.int .u64 0), .sc (.int .u64 16)]) (p := .sc (.int .u64 16)) rfl rfl rfl rfl rfl) ?_
  refine al_op rfl (g_assign (p := .sc (.int .u64 0)) rfl rfl rfl rfl) ?_
  refine al_op rfl (g_assign (p := .sc (.int .u64 16)) rfl rfl rfl rfl) ?_
  refine al_nil ?_
  refine aw_seq ?_
  refine aw_region ?_
  refine al_op rfl (g_move (p := .sc (.int .u64 0)) rfl rfl rfl rfl) ?_
  refine al_op rfl (g_move (p := .sc (.int .u64 16)) rfl rfl rfl rfl) ?_
  refine al_op rfl (g_assign (p := .sc (.int .u64 0)) rfl rfl rfl rfl) ?_
  refine al_op rfl (g_assign (p := .sc (.int .u64 16)) rfl rfl rfl rfl) ?_
  refine al_nil ?_
  refine aw_ret ?_
  exact endG_mk (F := (fun (z : Int × Int) => ⟨[], [], .tup [.sc (.int .u64 z.1), .sc (.int .u64 z.2)]⟩)) (z := bits_Mul) (v := (0, 16)) rfl rfl (.two (.tmp 4 (.sc (.int .u64 0)) rfl) (.one (.rfl _)) rfl (.tmp 5 (.sc (.int .u64 16)) rfl) (.one (.rfl _)) rfl) trivial trivial
theorem bits_Mul_pf  : PF Tryz.prog 58 [.sc (.int .u64 1), .sc (.int .u64 16)] (.tup [.sc (.int .u64 bits_Mul.1), .sc (.int .u64 bits_Mul.2)]) := pf_ofG (bits_Mul_pf_g) rfl

/-- bytes.Repeat -/
def bytes_Repeat16 (c : Int) : List Int :=
  [c, c, c, c, c, c, c, c, c, c, c, c, c, c, c, c]
set_option maxRecDepth 100000 in
set_option maxHeartbeats 4000000 in
theorem bytes_Repeat16_pf (c : Int) : PG Tryz.prog 34 [] [] [.sem (SL (eI .u8) [c]), .sc (.int .i64 16)] (fun _ : Unit => True) (fun _ => (fun (z : List Int) => ⟨[], [(1000, (1, z.length))], .own 1000 z.length (SL (eI .u8) z)⟩) (bytes_Repeat16 c)) := by
  refine pg_of (N := 77) (l := [.tmp 4]) Tryz.func34 rfl rfl rfl (Nat.le_of_ble_eq_true rfl) fun w0 i0 F βs => ?_
  refine aw_len 0 rfl (fun hl1 => ?_)
  refine aw_seq ?_
  refine aw_region ?_
  refine al_op rfl (g_assign (p := .sc (.slice none 0 0)) rfl rfl rfl rfl) ?_
  refine al_nil ?_
  refine aw_seq ?_
  refine aw_seq ?_
  refine aw_region ?_
  refine al_op rfl (g_move (p := .sc (.int .i64 16)) rfl rfl rfl rfl) ?_
  refine al_op rfl (g_bin (u1 := .int .i64 16) (u2 := .int .i64 0) (v := .bool false) rfl rfl rfl rfl rfl (fun _ => rfl)) ?_
  refine al_nil ?_
  refine aw_cond (b := false) rfl (fun h => by cases h) (fun _ => ?_)
  refine aw_skip ?_
  refine aw_seq ?_
  refine aw_seq ?_
  refine aw_region ?_
  refine al_op rfl (g_move (p := .sc (.int .i64 16)) rfl rfl rfl rfl) ?_
  refine al_op rfl (g_bin (u1 := .int .i64 16) (u2 := .int .i64 0) (v := .bool false) rfl rfl rfl rfl rfl (fun _ => rfl)) ?_
  refine al_nil ?_
  refine aw_cond (b := false) rfl (fun h => by cases h) (fun _ => ?_)
  refine aw_skip ?_
  refine aw_seq ?_
  refine aw_region ?_
  refine al_op rfl (g_move (p := .sem (SL (eI .u8) [c])) rfl rfl rfl rfl) ?_
  refine al_op rfl (g_len (l := [c]) rfl rfl rfl Tryz.underlying22 (isSl_sem rfl)) ?_
  refine al_op rfl (g_conv (m := 1) rfl rfl rfl Tryz.underlying3 Tryz.underlying83 rfl rfl) ?_
  refine al_op rfl (g_move (p := .sc (.int .i64 16)) rfl rfl rfl rfl) ?_
  refine al_op rfl (g_conv (m := 16) rfl rfl rfl Tryz.underlying3 Tryz.underlying83 rfl rfl) ?_
  refine al_op rfl (g_call (fn := Tryz.f58) (xs := [.tmp 21, .tmp 23]) (args := [.sc (.int .u64 1), .sc (.int .u64 16)]) (r := .tup [.sc (.int .u64 0), .sc (.int .u64 16)]) rfl rfl rfl Tryz.func58 rfl rfl rfl rfl rfl (PF.conv (bits_Mul_pf) rfl)) ?_
  refine al_op rfl (g_move (p := .tup [.sc (.int .u64 0), .sc (.int .u64 16)]) rfl rfl rfl rfl) ?_
  refine al_op rfl (g_extract (ps := [.sc (.int .u64 0), .sc (.int .u64 16)]) (p := .sc (.int .u64 0)) rfl rfl rfl rfl rfl) ?_
  refine al_op rfl (g_extract (ps := [.sc (.int .u64 0), .sc (.int .u64 16)]) (p := .sc (.int .u64 16)) rfl rfl rfl rfl rfl) ?_
  refine al_op rfl (g_assign (p := .sc (.int .u64 0)) rfl rfl rfl rfl) ?_
  refine al_op rfl (g_assign (p := .sc (.int .u64 16)) rfl rfl rfl rfl) ?_
  refine al_nil ?_
  refine aw_seq ?_
  refine aw_seq ?_
  refine aw_region ?_
  refine al_op rfl (g_move (p := .sc (.int .u64 0)) rfl rfl rfl rfl) ?_
  refine al_op rfl (g_bin (u1 := .int .u64 0) (u2 := .int .u64 0) (v := .bool false) rfl rfl rfl rfl rfl (fun _ => rfl)) ?_
  refine al_op rfl (g_move (p := .sc (.bool false)) rfl rfl rfl rfl) ?_
  refine al_onS (b := false) rfl rfl rfl rfl rfl rfl (g_move (p := .sc (.int .u64 16)) rfl rfl rfl rfl) ?_
  refine al_onS (b := false) rfl rfl rfl rfl rfl rfl (g_bin (u1 := .int .u64 16) (u2 := .int .u64 9223372036854775807) (v := .bool false) rfl rfl rfl rfl rfl (fun _ => rfl)) ?_
  refine al_op rfl (g_pickK (b := false) (p := .sc (.bool false)) rfl rfl rfl rfl rfl rfl) ?_
  refine al_nil ?_
  refine aw_cond (b := false) rfl (fun h => by cases h) (fun _ => ?_)
  refine aw_skip ?_
  refine aw_seq ?_
  refine aw_region ?_
  refine al_op rfl (g_move (p := .sc (.int .u64 16)) rfl rfl rfl rfl) ?_
  refine al_op rfl (g_conv (m := 16) rfl rfl rfl Tryz.underlying83 Tryz.underlying3 rfl rfl) ?_
  refine al_op rfl (g_assign (p := .sc (.int .i64 16)) rfl rfl rfl rfl) ?_
  refine al_nil ?_
  refine aw_seq ?_
  refine aw_seq ?_
  refine aw_region ?_
  refine al_op rfl (g_move (p := .sem (SL (eI .u8) [c])) rfl rfl rfl rfl) ?_
  refine al_op rfl (g_len (l := [c]) rfl rfl rfl Tryz.underlying22 (isSl_sem rfl)) ?_
  refine al_op rfl (g_bin (u1 := .int .i64 1) (u2 := .int .i64 0) (v := .bool false) rfl rfl rfl rfl rfl (fun _ => rfl)) ?_
  refine al_nil ?_
  refine aw_cond (b := false) rfl (fun h => by cases h) (fun _ => ?_)
  refine aw_skip ?_
  refine aw_seq ?_
  refine aw_region ?_
  refine al_op rfl (g_move (p := .sc (.int .i64 16)) rfl rfl rfl rfl) ?_
  refine al_op rfl (g_assign (p := .sc (.int .i64 16)) rfl rfl rfl rfl) ?_
  refine al_nil ?_
  refine aw_seq ?_
  refine aw_seq ?_
  refine aw_region ?_
  refine al_op rfl (g_move (p := .sc (.int .i64 16)) rfl rfl rfl rfl) ?_
  refine al_op rfl (g_bin (u1 := .int .i64 16) (u2 := .int .i64 8192) (v := .bool false) rfl rfl rfl rfl rfl (fun _ => rfl)) ?_
  refine al_nil ?_
  refine aw_cond (b := false) rfl (fun h => by cases h) (fun _ => ?_)
  refine aw_skip ?_
  refine aw_seq ?_
  refine aw_region ?_
  refine al_op rfl (g_move (p := .sc (.int .i64 16)) rfl rfl rfl rfl) ?_
  refine al_opX rfl (g_noZero (fn := Tryz.f59) (s := 5054) (n := 16) (ps := #[3]) (t := 22) rfl rfl rfl rfl Tryz.func59 rfl rfl (by kernel_rfl) (by kernel_rfl) Tryz.underlying22 rfl (by decide)) (fun cap54 hcap54 => ?_)
  refine al_normL (s := 5054) (ps := List.replicate cap54 .any) (qs := (.any :: .any :: .any :: .any :: .any :: .any :: .any :: .any :: .any :: .any :: .any :: .any :: .any :: .any :: .any :: .any :: (List.replicate (cap54 - 16) .any))) rfl (any_split cap54 16 hcap54.1) ?_
  refine al_op rfl (g_move (p := .sc (.int .i64 16)) rfl rfl rfl rfl) ?_
  refine al_op rfl (g_move (p := .sc (.int .i64 16)) rfl rfl rfl rfl) ?_
  refine al_op rfl (g_sliceA3 (off' := 0) (n' := 16) (c' := 16) (i := 0) (j := 16) (m := 16) (sz := 1) rfl rfl rfl Tryz.underlying22 ty5 rfl (isB_none rfl) rfl rfl (by omega) (by decide) rfl rfl) ?_
  refine al_op rfl (g_assign (p := .arr 5054 0 16 16) rfl rfl rfl rfl) ?_
  refine al_nil ?_
  refine aw_seq ?_
  refine aw_region ?_
  refine al_op rfl (g_move (p := .arr 5054 0 16 16) rfl rfl rfl rfl) ?_
  refine al_op rfl (g_move (p := .sem (SL (eI .u8) [c])) rfl rfl rfl rfl) ?_
  refine al_op rfl (g_copyA (E := (eI .u8)) (s := 5054) (l := [c]) (ps := (.any :: .any :: .any :: .any :: .any :: .any :: .any :: .any :: .any :: .any :: .any :: .any :: .any :: .any :: .any :: .any :: (List.replicate (cap54 - 16) .any))) (qs := ((.sc (.int .u8 c)) :: .any :: .any :: .any :: .any :: .any :: .any :: .any :: .any :: .any :: .any :: .any :: .any :: .any :: .any :: .any :: (List.replicate (cap54 - 16) .any))) rfl rfl rfl Tryz.underlying22 ty5 rfl rfl (isSl_sem rfl) (by show 0 + 1 * 1 ≤ List.length (α := PV) (.any :: .any :: .any :: .any :: .any :: .any :: .any :: .any :: .any :: .any :: .any :: .any :: .any :: .any :: .any :: .any :: (List.replicate (cap54 - 16) .any)); simp only [List.length_cons]; omega) rfl (fun _ => rfl)) ?_
  refine al_op rfl (g_assign (p := .sc (.int .i64 1)) rfl rfl rfl rfl) ?_
  refine al_nil ?_
  refine aw_seq ?_
  refine aw_block ?_
  refine aw_rounds 6 ?_
  refine awr_s ?_
  refine aw_seq ?_
  refine aw_seq ?_
  refine aw_region ?_
  refine al_op rfl (g_move (p := .sc (.int .i64 1)) rfl rfl rfl rfl) ?_
  refine al_op rfl (g_move (p := .sc (.int .i64 16)) rfl rfl rfl rfl) ?_
  refine al_op rfl (g_bin (u1 := .int .i64 1) (u2 := .int .i64 16) (v := .bool true) rfl rfl rfl rfl rfl (fun _ => rfl)) ?_
  refine al_nil ?_
  refine aw_cond (b := true) rfl (fun _ => ?_) (fun h => by cases h)
  refine aw_skip ?_
  refine aw_block ?_
  refine aw_seq ?_
  refine aw_region ?_
  refine al_op rfl (g_move (p := .sc (.int .i64 1)) rfl rfl rfl rfl) ?_
  refine al_op rfl (g_move (p := .sc (.int .i64 16)) rfl rfl rfl rfl) ?_
  refine al_op rfl (g_builtin (xs := [.tmp 64, .tmp 65]) (us := [.int .i64 1, .int .i64 16]) (v := .int .i64 1) rfl rfl rfl rfl (fun _ _ => by kernel_rfl)) ?_
  refine al_op rfl (g_assign (p := .sc (.int .i64 1)) rfl rfl rfl rfl) ?_
  refine al_nil ?_
  refine aw_famE (ds := [some 67, some 68, some 69, some 70, some 71, some 72, some 73, some 74, some 75, some 10]) (ks := [7]) (ps := [.sc (.int .i64 1), .arr 5054 0 16 16, .sc (.int .i64 1), .arr 5054 1 15 15, .arr 5054 0 16 16, .sc (.int .i64 1), .arr 5054 0 1 16, .any, .any, .any]) rfl (by kernel_rfl) rfl rfl ?_
  refine famE_setL (d := 74) (q := .sc (.int .i64 1)) (s := 5054) (x := some ((.sc (.int .u8 c)) :: (.sc (.int .u8 c)) :: .any :: .any :: .any :: .any :: .any :: .any :: .any :: .any :: .any :: .any :: .any :: .any :: .any :: .any :: (List.replicate (cap54 - 16) .any))) (k := 7) (qs := [.sc (.int .i64 1), .arr 5054 0 16 16, .sc (.int .i64 1), .arr 5054 1 15 15, .arr 5054 0 16 16, .sc (.int .i64 1), .arr 5054 0 1 16, .sc (.int .i64 1), .sc (.int .i64 2), .sc (.int .i64 2)]) [0, 1, 2, 3, 4, 5, 6] [true, true, true, true, true, true, true, false, false, false] (by kernel_rfl) (by kernel_rfl) rfl rfl rfl (by kernel_rfl) rfl rfl rfl rfl rfl ?_ (fun bD hc hi hd => by exact g_copyAA (off := 1) (n := 15) (c := 15) (off2 := 0) (n2 := 1) (c2 := 16) (s := 5054) (sz := 1) (ps := ((.sc (.int .u8 c)) :: .any :: .any :: .any :: .any :: .any :: .any :: .any :: .any :: .any :: .any :: .any :: .any :: .any :: .any :: .any :: (List.replicate (cap54 - 16) .any))) (qs := ((.sc (.int .u8 c)) :: (.sc (.int .u8 c)) :: .any :: .any :: .any :: .any :: .any :: .any :: .any :: .any :: .any :: .any :: .any :: .any :: .any :: .any :: (List.replicate (cap54 - 16) .any))) rfl rfl rfl Tryz.underlying22 ty5 (by exact (gt (p := .arr 5054 1 15 15) (q := .any) (hd 3 (by decide)))) (by exact (gt (p := .arr 5054 0 1 16) (q := .any) (hd 6 (by decide)))) rfl (by show 1 + 1 * 1 ≤ List.length (α := PV) ((.sc (.int .u8 c)) :: .any :: .any :: .any :: .any :: .any :: .any :: .any :: .any :: .any :: .any :: .any :: .any :: .any :: .any :: .any :: (List.replicate (cap54 - 16) .any)); simp only [List.length_cons]; omega) (by show 0 + 1 * 1 ≤ List.length (α := PV) ((.sc (.int .u8 c)) :: .any :: .any :: .any :: .any :: .any :: .any :: .any :: .any :: .any :: .any :: .any :: .any :: .any :: .any :: .any :: (List.replicate (cap54 - 16) .any)); simp only [List.length_cons]; omega) rfl) ?_
  · refine fc ?_ (fc ?_ (fc ?_ (fc ?_ (fc ?_ (fc ?_ (fc ?_ (fn')))))))
    · exact ov_step (i := 0) (q := .sc (.int .i64 1)) rfl rfl rfl (fun bD hc hi hd => gs_plain rfl (g_move (p := .sc (.int .i64 1)) rfl rfl rfl (gf (q := .sc (.int .i64 1)) (notyet (j := 9) hc hi (by kernel_rfl)))))
    · exact ov_step (i := 1) (q := .arr 5054 0 16 16) rfl rfl rfl (fun bD hc hi hd => gs_plain rfl (g_move (p := .arr 5054 0 16 16) rfl rfl rfl rfl))
    · exact ov_step (i := 2) (q := .sc (.int .i64 1)) rfl rfl rfl (fun bD hc hi hd => gs_plain rfl (g_move (p := .sc (.int .i64 1)) rfl rfl rfl (gf (q := .sc (.int .i64 1)) (notyet (j := 9) hc hi (by kernel_rfl)))))
    · exact ov_step (i := 3) (q := .arr 5054 1 15 15) rfl rfl rfl (fun bD hc hi hd => gs_plain rfl (g_sliceA (off' := 1) (n' := 15) (c' := 15) (i := 1) (j := 16) (sz := 1) rfl rfl rfl Tryz.underlying22 ty5 (gt (p := .arr 5054 0 16 16) (q := .any) (hd 1 (by decide))) (isB_some (gt (p := .sc (.int .i64 1)) (q := .any) (hd 2 (by decide)))) (isB_none rfl) (by omega) (by decide) rfl rfl))
    · exact ov_step (i := 4) (q := .arr 5054 0 16 16) rfl rfl rfl (fun bD hc hi hd => gs_plain rfl (g_move (p := .arr 5054 0 16 16) rfl rfl rfl rfl))
    · exact ov_step (i := 5) (q := .sc (.int .i64 1)) rfl rfl rfl (fun bD hc hi hd => gs_plain rfl (g_move (p := .sc (.int .i64 1)) rfl rfl rfl rfl))
    · exact ov_step (i := 6) (q := .arr 5054 0 1 16) rfl rfl rfl (fun bD hc hi hd => gs_plain rfl (g_sliceA (off' := 0) (n' := 1) (c' := 16) (i := 0) (j := 1) (sz := 1) rfl rfl rfl Tryz.underlying22 ty5 (gt (p := .arr 5054 0 16 16) (q := .any) (hd 4 (by decide))) (isB_none rfl) (isB_some (gt (p := .sc (.int .i64 1)) (q := .any) (hd 5 (by decide)))) (by omega) (by decide) rfl rfl))
  refine famE_last [0, 8, 9] (by kernel_rfl) ?_ (fun bD hb => ?_)
  · refine fc ?_ (fc ?_ (fc ?_ (fn')))
    · exact ov_step (i := 0) (q := .sc (.int .i64 1)) rfl rfl rfl (fun bD hc hi hd => gs_plain rfl (g_move (p := .sc (.int .i64 1)) rfl rfl rfl (gf (q := .sc (.int .i64 1)) (notyet (j := 9) hc hi (by kernel_rfl)))))
    · exact ov_step (i := 8) (q := .sc (.int .i64 2)) rfl rfl rfl (fun bD hc hi hd => gs_plain rfl (g_bin (u1 := .int .i64 1) (u2 := .int .i64 1) (v := .int .i64 2) rfl rfl rfl (gt (p := .sc (.int .i64 1)) (q := .any) (hd 0 (by decide))) (gt (p := .sc (.int .i64 1)) (q := .any) (hd 7 (by decide))) (fun _ => by kernel_rfl)))
    · exact ov_step (i := 9) (q := .sc (.int .i64 2)) rfl rfl rfl (fun bD hc hi hd => gs_plain rfl (g_assign (p := .sc (.int .i64 2)) rfl rfl rfl (gt (p := .sc (.int .i64 2)) (q := .any) (hd 8 (by decide)))))
  obtain rfl : bD = fun _ => true := funext hb
  refine awr_s ?_
  refine aw_seq ?_
  refine aw_seq ?_
  refine aw_region ?_
  refine al_op rfl (g_move (p := .sc (.int .i64 2)) rfl rfl rfl rfl) ?_
  refine al_op rfl (g_move (p := .sc (.int .i64 16)) rfl rfl rfl rfl) ?_
  refine al_op rfl (g_bin (u1 := .int .i64 2) (u2 := .int .i64 16) (v := .bool true) rfl rfl rfl rfl rfl (fun _ => rfl)) ?_
  refine al_nil ?_
  refine aw_cond (b := true) rfl (fun _ => ?_) (fun h => by cases h)
  refine aw_skip ?_
  refine aw_block ?_
  refine aw_seq ?_
  refine aw_region ?_
  refine al_op rfl (g_move (p := .sc (.int .i64 2)) rfl rfl rfl rfl) ?_
  refine al_op rfl (g_move (p := .sc (.int .i64 16)) rfl rfl rfl rfl) ?_
  refine al_op rfl (g_builtin (xs := [.tmp 64, .tmp 65]) (us := [.int .i64 2, .int .i64 16]) (v := .int .i64 2) rfl rfl rfl rfl (fun _ _ => by kernel_rfl)) ?_
  refine al_op rfl (g_assign (p := .sc (.int .i64 2)) rfl rfl rfl rfl) ?_
  refine al_nil ?_
  refine aw_famE (ds := [some 67, some 68, some 69, some 70, some 71, some 72, some 73, some 74, some 75, some 10]) (ks := [7]) (ps := [.sc (.int .i64 2), .arr 5054 0 16 16, .sc (.int .i64 2), .arr 5054 2 14 14, .arr 5054 0 16 16, .sc (.int .i64 2), .arr 5054 0 2 16, .any, .any, .any]) rfl (by kernel_rfl) rfl rfl ?_
  refine famE_setL (d := 74) (q := .sc (.int .i64 2)) (s := 5054) (x := some ((.sc (.int .u8 c)) :: (.sc (.int .u8 c)) :: (.sc (.int .u8 c)) :: (.sc (.int .u8 c)) :: .any :: .any :: .any :: .any :: .any :: .any :: .any :: .any :: .any :: .any :: .any :: .any :: (List.replicate (cap54 - 16) .any))) (k := 7) (qs := [.sc (.int .i64 2), .arr 5054 0 16 16, .sc (.int .i64 2), .arr 5054 2 14 14, .arr 5054 0 16 16, .sc (.int .i64 2), .arr 5054 0 2 16, .sc (.int .i64 2), .sc (.int .i64 4), .sc (.int .i64 4)]) [0, 1, 2, 3, 4, 5, 6] [true, true, true, true, true, true, true, false, false, false] (by kernel_rfl) (by kernel_rfl) rfl rfl rfl (by kernel_rfl) rfl rfl rfl rfl rfl ?_ (fun bD hc hi hd => by exact g_copyAA (off := 2) (n := 14) (c := 14) (off2 := 0) (n2 := 2) (c2 := 16) (s := 5054) (sz := 1) (ps := ((.sc (.int .u8 c)) :: (.sc (.int .u8 c)) :: .any :: .any :: .any :: .any :: .any :: .any :: .any :: .any :: .any :: .any :: .any :: .any :: .any :: .any :: (List.replicate (cap54 - 16) .any))) (qs := ((.sc (.int .u8 c)) :: (.sc (.int .u8 c)) :: (.sc (.int .u8 c)) :: (.sc (.int .u8 c)) :: .any :: .any :: .any :: .any :: .any :: .any :: .any :: .any :: .any :: .any :: .any :: .any :: (List.replicate (cap54 - 16) .any))) rfl rfl rfl Tryz.underlying22 ty5 (by exact (gt (p := .arr 5054 2 14 14) (q := .arr 5054 1 15 15) (hd 3 (by decide)))) (by exact (gt (p := .arr 5054 0 2 16) (q := .arr 5054 0 1 16) (hd 6 (by decide)))) rfl (by show 2 + 2 * 1 ≤ List.length (α := PV) ((.sc (.int .u8 c)) :: (.sc (.int .u8 c)) :: .any :: .any :: .any :: .any :: .any :: .any :: .any :: .any :: .any :: .any :: .any :: .any :: .any :: .any :: (List.replicate (cap54 - 16) .any)); simp only [List.length_cons]; omega) (by show 0 + 2 * 1 ≤ List.length (α := PV) ((.sc (.int .u8 c)) :: (.sc (.int .u8 c)) :: .any :: .any :: .any :: .any :: .any :: .any :: .any :: .any :: .any :: .any :: .any :: .any :: .any :: .any :: (List.replicate (cap54 - 16) .any)); simp only [List.length_cons]; omega) rfl) ?_
  · refine fc ?_ (fc ?_ (fc ?_ (fc ?_ (fc ?_ (fc ?_ (fc ?_ (fn')))))))
    · exact ov_step (i := 0) (q := .sc (.int .i64 2)) rfl rfl rfl (fun bD hc hi hd => gs_plain rfl (g_move (p := .sc (.int .i64 2)) rfl rfl rfl (gf (q := .sc (.int .i64 2)) (notyet (j := 9) hc hi (by kernel_rfl)))))
    · exact ov_step (i := 1) (q := .arr 5054 0 16 16) rfl rfl rfl (fun bD hc hi hd => gs_plain rfl (g_move (p := .arr 5054 0 16 16) rfl rfl rfl rfl))
    · exact ov_step (i := 2) (q := .sc (.int .i64 2)) rfl rfl rfl (fun bD hc hi hd => gs_plain rfl (g_move (p := .sc (.int .i64 2)) rfl rfl rfl (gf (q := .sc (.int .i64 2)) (notyet (j := 9) hc hi (by kernel_rfl)))))
    · exact ov_step (i := 3) (q := .arr 5054 2 14 14) rfl rfl rfl (fun bD hc hi hd => gs_plain rfl (g_sliceA (off' := 2) (n' := 14) (c' := 14) (i := 2) (j := 16) (sz := 1) rfl rfl rfl Tryz.underlying22 ty5 (gt (p := .arr 5054 0 16 16) (q := .arr 5054 0 16 16) (hd 1 (by decide))) (isB_some (gt (p := .sc (.int .i64 2)) (q := .sc (.int .i64 1)) (hd 2 (by decide)))) (isB_none rfl) (by omega) (by decide) rfl rfl))
    · exact ov_step (i := 4) (q := .arr 5054 0 16 16) rfl rfl rfl (fun bD hc hi hd => gs_plain rfl (g_move (p := .arr 5054 0 16 16) rfl rfl rfl rfl))
    · exact ov_step (i := 5) (q := .sc (.int .i64 2)) rfl rfl rfl (fun bD hc hi hd => gs_plain rfl (g_move (p := .sc (.int .i64 2)) rfl rfl rfl rfl))
    · exact ov_step (i := 6) (q := .arr 5054 0 2 16) rfl rfl rfl (fun bD hc hi hd => gs_plain rfl (g_sliceA (off' := 0) (n' := 2) (c' := 16) (i := 0) (j := 2) (sz := 1) rfl rfl rfl Tryz.underlying22 ty5 (gt (p := .arr 5054 0 16 16) (q := .arr 5054 0 16 16) (hd 4 (by decide))) (isB_none rfl) (isB_some (gt (p := .sc (.int .i64 2)) (q := .sc (.int .i64 1)) (hd 5 (by decide)))) (by omega) (by decide) rfl rfl))
  refine famE_last [0, 8, 9] (by kernel_rfl) ?_ (fun bD hb => ?_)
  · refine fc ?_ (fc ?_ (fc ?_ (fn')))
    · exact ov_step (i := 0) (q := .sc (.int .i64 2)) rfl rfl rfl (fun bD hc hi hd => gs_plain rfl (g_move (p := .sc (.int .i64 2)) rfl rfl rfl (gf (q := .sc (.int .i64 2)) (notyet (j := 9) hc hi (by kernel_rfl)))))
    · exact ov_step (i := 8) (q := .sc (.int .i64 4)) rfl rfl rfl (fun bD hc hi hd => gs_plain rfl (g_bin (u1 := .int .i64 2) (u2 := .int .i64 2) (v := .int .i64 4) rfl rfl rfl (gt (p := .sc (.int .i64 2)) (q := .sc (.int .i64 1)) (hd 0 (by decide))) (gt (p := .sc (.int .i64 2)) (q := .sc (.int .i64 1)) (hd 7 (by decide))) (fun _ => by kernel_rfl)))
    · exact ov_step (i := 9) (q := .sc (.int .i64 4)) rfl rfl rfl (fun bD hc hi hd => gs_plain rfl (g_assign (p := .sc (.int .i64 4)) rfl rfl rfl (gt (p := .sc (.int .i64 4)) (q := .sc (.int .i64 2)) (hd 8 (by decide)))))
  obtain rfl : bD = fun _ => true := funext hb
  refine awr_s ?_
  refine aw_seq ?_
  refine aw_seq ?_
  refine aw_region ?_
  refine al_op rfl (g_move (p := .sc (.int .i64 4)) rfl rfl rfl rfl) ?_
  refine al_op rfl (g_move (p := .sc (.int .i64 16)) rfl rfl rfl rfl) ?_
  refine al_op rfl (g_bin (u1 := .int .i64 4) (u2 := .int .i64 16) (v := .bool true) rfl rfl rfl rfl rfl (fun _ => rfl)) ?_
  refine al_nil ?_
  refine aw_cond (b := true) rfl (fun _ => ?_) (fun h => by cases h)
  refine aw_skip ?_
  refine aw_block ?_
  refine aw_seq ?_
  refine aw_region ?_
  refine al_op rfl (g_move (p := .sc (.int .i64 4)) rfl rfl rfl rfl) ?_
  refine al_op rfl (g_move (p := .sc (.int .i64 16)) rfl rfl rfl rfl) ?_
  refine al_op rfl (g_builtin (xs := [.tmp 64, .tmp 65]) (us := [.int .i64 4, .int .i64 16]) (v := .int .i64 4) rfl rfl rfl rfl (fun _ _ => by kernel_rfl)) ?_
  refine al_op rfl (g_assign (p := .sc (.int .i64 4)) rfl rfl rfl rfl) ?_
  refine al_nil ?_
  refine aw_famE (ds := [some 67, some 68, some 69, some 70, some 71, some 72, some 73, some 74, some 75, some 10]) (ks := [7]) (ps := [.sc (.int .i64 4), .arr 5054 0 16 16, .sc (.int .i64 4), .arr 5054 4 12 12, .arr 5054 0 16 16, .sc (.int .i64 4), .arr 5054 0 4 16, .any, .any, .any]) rfl (by kernel_rfl) rfl rfl ?_
  refine famE_setL (d := 74) (q := .sc (.int .i64 4)) (s := 5054) (x := some ((.sc (.int .u8 c)) :: (.sc (.int .u8 c)) :: (.sc (.int .u8 c)) :: (.sc (.int .u8 c)) :: (.sc (.int .u8 c)) :: (.sc (.int .u8 c)) :: (.sc (.int .u8 c)) :: (.sc (.int .u8 c)) :: .any :: .any :: .any :: .any :: .any :: .any :: .any :: .any :: (List.replicate (cap54 - 16) .any))) (k := 7) (qs := [.sc (.int .i64 4), .arr 5054 0 16 16, .sc (.int .i64 4), .arr 5054 4 12 12, .arr 5054 0 16 16, .sc (.int .i64 4), .arr 5054 0 4 16, .sc (.int .i64 4), .sc (.int .i64 8), .sc (.int .i64 8)]) [0, 1, 2, 3, 4, 5, 6] [true, true, true, true, true, true, true, false, false, false] (by kernel_rfl) (by kernel_rfl) rfl rfl rfl (by kernel_rfl) rfl rfl rfl rfl rfl ?_ (fun bD hc hi hd => by exact g_copyAA (off := 4) (n := 12) (c := 12) (off2 := 0) (n2 := 4) (c2 := 16) (s := 5054) (sz := 1) (ps := ((.sc (.int .u8 c)) :: (.sc (.int .u8 c)) :: (.sc (.int .u8 c)) :: (.sc (.int .u8 c)) :: .any :: .any :: .any :: .any :: .any :: .any :: .any :: .any :: .any :: .any :: .any :: .any :: (List.replicate (cap54 - 16) .any))) (qs := ((.sc (.int .u8 c)) :: (.sc (.int .u8 c)) :: (.sc (.int .u8 c)) :: (.sc (.int .u8 c)) :: (.sc (.int .u8 c)) :: (.sc (.int .u8 c)) :: (.sc (.int .u8 c)) :: (.sc (.int .u8 c)) :: .any :: .any :: .any :: .any :: .any :: .any :: .any :: .any :: (List.replicate (cap54 - 16) .any))) rfl rfl rfl Tryz.underlying22 ty5 (by exact (gt (p := .arr 5054 4 12 12) (q := .arr 5054 2 14 14) (hd 3 (by decide)))) (by exact (gt (p := .arr 5054 0 4 16) (q := .arr 5054 0 2 16) (hd 6 (by decide)))) rfl (by show 4 + 4 * 1 ≤ List.length (α := PV) ((.sc (.int .u8 c)) :: (.sc (.int .u8 c)) :: (.sc (.int .u8 c)) :: (.sc (.int .u8 c)) :: .any :: .any :: .any :: .any :: .any :: .any :: .any :: .any :: .any :: .any :: .any :: .any :: (List.replicate (cap54 - 16) .any)); simp only [List.length_cons]; omega) (by show 0 + 4 * 1 ≤ List.length (α := PV) ((.sc (.int .u8 c)) :: (.sc (.int .u8 c)) :: (.sc (.int .u8 c)) :: (.sc (.int .u8 c)) :: .any :: .any :: .any :: .any :: .any :: .any :: .any :: .any :: .any :: .any :: .any :: .any :: (List.replicate (cap54 - 16) .any)); simp only [List.length_cons]; omega) rfl) ?_
  · refine fc ?_ (fc ?_ (fc ?_ (fc ?_ (fc ?_ (fc ?_ (fc ?_ (fn')))))))
    · exact ov_step (i := 0) (q := .sc (.int .i64 4)) rfl rfl rfl (fun bD hc hi hd => gs_plain rfl (g_move (p := .sc (.int .i64 4)) rfl rfl rfl (gf (q := .sc (.int .i64 4)) (notyet (j := 9) hc hi (by kernel_rfl)))))
    · exact ov_step (i := 1) (q := .arr 5054 0 16 16) rfl rfl rfl (fun bD hc hi hd => gs_plain rfl (g_move (p := .arr 5054 0 16 16) rfl rfl rfl rfl))
    · exact ov_step (i := 2) (q := .sc (.int .i64 4)) rfl rfl rfl (fun bD hc hi hd => gs_plain rfl (g_move (p := .sc (.int .i64 4)) rfl rfl rfl (gf (q := .sc (.int .i64 4)) (notyet (j := 9) hc hi (by kernel_rfl)))))
    · exact ov_step (i := 3) (q := .arr 5054 4 12 12) rfl rfl rfl (fun bD hc hi hd => gs_plain rfl (g_sliceA (off' := 4) (n' := 12) (c' := 12) (i := 4) (j := 16) (sz := 1) rfl rfl rfl Tryz.underlying22 ty5 (gt (p := .arr 5054 0 16 16) (q := .arr 5054 0 16 16) (hd 1 (by decide))) (isB_some (gt (p := .sc (.int .i64 4)) (q := .sc (.int .i64 2)) (hd 2 (by decide)))) (isB_none rfl) (by omega) (by decide) rfl rfl))
    · exact ov_step (i := 4) (q := .arr 5054 0 16 16) rfl rfl rfl (fun bD hc hi hd => gs_plain rfl (g_move (p := .arr 5054 0 16 16) rfl rfl rfl rfl))
    · exact ov_step (i := 5) (q := .sc (.int .i64 4)) rfl rfl rfl (fun bD hc hi hd => gs_plain rfl (g_move (p := .sc (.int .i64 4)) rfl rfl rfl rfl))
    · exact ov_step (i := 6) (q := .arr 5054 0 4 16) rfl rfl rfl (fun bD hc hi hd => gs_plain rfl (g_sliceA (off' := 0) (n' := 4) (c' := 16) (i := 0) (j := 4) (sz := 1) rfl rfl rfl Tryz.underlying22 ty5 (gt (p := .arr 5054 0 16 16) (q := .arr 5054 0 16 16) (hd 4 (by decide))) (isB_none rfl) (isB_some (gt (p := .sc (.int .i64 4)) (q := .sc (.int .i64 2)) (hd 5 (by decide)))) (by omega) (by decide) rfl rfl))
  refine famE_last [0, 8, 9] (by kernel_rfl) ?_ (fun bD hb => ?_)
  · refine fc ?_ (fc ?_ (fc ?_ (fn')))
    · exact ov_step (i := 0) (q := .sc (.int .i64 4)) rfl rfl rfl (fun bD hc hi hd => gs_plain rfl (g_move (p := .sc (.int .i64 4)) rfl rfl rfl (gf (q := .sc (.int .i64 4)) (notyet (j := 9) hc hi (by kernel_rfl)))))
    · exact ov_step (i := 8) (q := .sc (.int .i64 8)) rfl rfl rfl (fun bD hc hi hd => gs_plain rfl (g_bin (u1 := .int .i64 4) (u2 := .int .i64 4) (v := .int .i64 8) rfl rfl rfl (gt (p := .sc (.int .i64 4)) (q := .sc (.int .i64 2)) (hd 0 (by decide))) (gt (p := .sc (.int .i64 4)) (q := .sc (.int .i64 2)) (hd 7 (by decide))) (fun _ => by kernel_rfl)))
    · exact ov_step (i := 9) (q := .sc (.int .i64 8)) rfl rfl rfl (fun bD hc hi hd => gs_plain rfl (g_assign (p := .sc (.int .i64 8)) rfl rfl rfl (gt (p := .sc (.int .i64 8)) (q := .sc (.int .i64 4)) (hd 8 (by decide)))))
  obtain rfl : bD = fun _ => true := funext hb
  refine awr_s ?_
  refine aw_seq ?_
  refine aw_seq ?_
  refine aw_region ?_
  refine al_op rfl (g_move (p := .sc (.int .i64 8)) rfl rfl rfl rfl) ?_
  refine al_op rfl (g_move (p := .sc (.int .i64 16)) rfl rfl rfl rfl) ?_
  refine al_op rfl (g_bin (u1 := .int .i64 8) (u2 := .int .i64 16) (v := .bool true) rfl rfl rfl rfl rfl (fun _ => rfl)) ?_
  refine al_nil ?_
  refine aw_cond (b := true) rfl (fun _ => ?_) (fun h => by cases h)
  refine aw_skip ?_
  refine aw_block ?_
  refine aw_seq ?_
  refine aw_region ?_
  refine al_op rfl (g_move (p := .sc (.int .i64 8)) rfl rfl rfl rfl) ?_
  refine al_op rfl (g_move (p := .sc (.int .i64 16)) rfl rfl rfl rfl) ?_
  refine al_op rfl (g_builtin (xs := [.tmp 64, .tmp 65]) (us := [.int .i64 8, .int .i64 16]) (v := .int .i64 8) rfl rfl rfl rfl (fun _ _ => by kernel_rfl)) ?_
  refine al_op rfl (g_assign (p := .sc (.int .i64 8)) rfl rfl rfl rfl) ?_
  refine al_nil ?_
  refine aw_famE (ds := [some 67, some 68, some 69, some 70, some 71, some 72, some 73, some 74, some 75, some 10]) (ks := [7]) (ps := [.sc (.int .i64 8), .arr 5054 0 16 16, .sc (.int .i64 8), .arr 5054 8 8 8, .arr 5054 0 16 16, .sc (.int .i64 8), .arr 5054 0 8 16, .any, .any, .any]) rfl (by kernel_rfl) rfl rfl ?_
  refine famE_setL (d := 74) (q := .sc (.int .i64 8)) (s := 5054) (x := some ((.sc (.int .u8 c)) :: (.sc (.int .u8 c)) :: (.sc (.int .u8 c)) :: (.sc (.int .u8 c)) :: (.sc (.int .u8 c)) :: (.sc (.int .u8 c)) :: (.sc (.int .u8 c)) :: (.sc (.int .u8 c)) :: (.sc (.int .u8 c)) :: (.sc (.int .u8 c)) :: (.sc (.int .u8 c)) :: (.sc (.int .u8 c)) :: (.sc (.int .u8 c)) :: (.sc (.int .u8 c)) :: (.sc (.int .u8 c)) :: (.sc (.int .u8 c)) :: (List.replicate (cap54 - 16) .any))) (k := 7) (qs := [.sc (.int .i64 8), .arr 5054 0 16 16, .sc (.int .i64 8), .arr 5054 8 8 8, .arr 5054 0 16 16, .sc (.int .i64 8), .arr 5054 0 8 16, .sc (.int .i64 8), .sc (.int .i64 16), .sc (.int .i64 16)]) [0, 1, 2, 3, 4, 5, 6] [true, true, true, true, true, true, true, false, false, false] (by kernel_rfl) (by kernel_rfl) rfl rfl rfl (by kernel_rfl) rfl rfl rfl rfl rfl ?_ (fun bD hc hi hd => by exact g_copyAA (off := 8) (n := 8) (c := 8) (off2 := 0) (n2 := 8) (c2 := 16) (s := 5054) (sz := 1) (ps := ((.sc (.int .u8 c)) :: (.sc (.int .u8 c)) :: (.sc (.int .u8 c)) :: (.sc (.int .u8 c)) :: (.sc (.int .u8 c)) :: (.sc (.int .u8 c)) :: (.sc (.int .u8 c)) :: (.sc (.int .u8 c)) :: .any :: .any :: .any :: .any :: .any :: .any :: .any :: .any :: (List.replicate (cap54 - 16) .any))) (qs := ((.sc (.int .u8 c)) :: (.sc (.int .u8 c)) :: (.sc (.int .u8 c)) :: (.sc (.int .u8 c)) :: (.sc (.int .u8 c)) :: (.sc (.int .u8 c)) :: (.sc (.int .u8 c)) :: (.sc (.int .u8 c)) :: (.sc (.int .u8 c)) :: (.sc (.int .u8 c)) :: (.sc (.int .u8 c)) :: (.sc (.int .u8 c)) :: (.sc (.int .u8 c)) :: (.sc (.int .u8 c)) :: (.sc (.int .u8 c)) :: (.sc (.int .u8 c)) :: (List.replicate (cap54 - 16) .any))) rfl rfl rfl Tryz.underlying22 ty5 (by exact (gt (p := .arr 5054 8 8 8) (q := .arr 5054 4 12 12) (hd 3 (by decide)))) (by exact (gt (p := .arr 5054 0 8 16) (q := .arr 5054 0 4 16) (hd 6 (by decide)))) rfl (by show 8 + 8 * 1 ≤ List.length (α := PV) ((.sc (.int .u8 c)) :: (.sc (.int .u8 c)) :: (.sc (.int .u8 c)) :: (.sc (.int .u8 c)) :: (.sc (.int .u8 c)) :: (.sc (.int .u8 c)) :: (.sc (.int .u8 c)) :: (.sc (.int .u8 c)) :: .any :: .any :: .any :: .any :: .any :: .any :: .any :: .any :: (List.replicate (cap54 - 16) .any)); simp only [List.length_cons]; omega) (by show 0 + 8 * 1 ≤ List.length (α := PV) ((.sc (.int .u8 c)) :: (.sc (.int .u8 c)) :: (.sc (.int .u8 c)) :: (.sc (.int .u8 c)) :: (.sc (.int .u8 c)) :: (.sc (.int .u8 c)) :: (.sc (.int .u8 c)) :: (.sc (.int .u8 c)) :: .any :: .any :: .any :: .any :: .any :: .any :: .any :: .any :: (List.replicate (cap54 - 16) .any)); simp only [List.length_cons]; omega) rfl) ?_
  · refine fc ?_ (fc ?_ (fc ?_ (fc ?_ (fc ?_ (fc ?_ (fc ?_ (fn')))))))
    · exact ov_step (i := 0) (q := .sc (.int .i64 8)) rfl rfl rfl (fun bD hc hi hd => gs_plain rfl (g_move (p := .sc (.int .i64 8)) rfl rfl rfl (gf (q := .sc (.int .i64 8)) (notyet (j := 9) hc hi (by kernel_rfl)))))
    · exact ov_step (i := 1) (q := .arr 5054 0 16 16) rfl rfl rfl (fun bD hc hi hd => gs_plain rfl (g_move (p := .arr 5054 0 16 16) rfl rfl rfl rfl))
    · exact ov_step (i := 2) (q := .sc (.int .i64 8)) rfl rfl rfl (fun bD hc hi hd => gs_plain rfl (g_move (p := .sc (.int .i64 8)) rfl rfl rfl (gf (q := .sc (.int .i64 8)) (notyet (j := 9) hc hi (by kernel_rfl)))))
    · exact ov_step (i := 3) (q := .arr 5054 8 8 8) rfl rfl rfl (fun bD hc hi hd => gs_plain rfl (g_sliceA (off' := 8) (n' := 8) (c' := 8) (i := 8) (j := 16) (sz := 1) rfl rfl rfl Tryz.underlying22 ty5 (gt (p := .arr 5054 0 16 16) (q := .arr 5054 0 16 16) (hd 1 (by decide))) (isB_some (gt (p := .sc (.int .i64 8)) (q := .sc (.int .i64 4)) (hd 2 (by decide)))) (isB_none rfl) (by omega) (by decide) rfl rfl))
    · exact ov_step (i := 4) (q := .arr 5054 0 16 16) rfl rfl rfl (fun bD hc hi hd => gs_plain rfl (g_move (p := .arr 5054 0 16 16) rfl rfl rfl rfl))
    · exact ov_step (i := 5) (q := .sc (.int .i64 8)) rfl rfl rfl (fun bD hc hi hd => gs_plain rfl (g_move (p := .sc (.int .i64 8)) rfl rfl rfl rfl))
    · exact ov_step (i := 6) (q := .arr 5054 0 8 16) rfl rfl rfl (fun bD hc hi hd => gs_plain rfl (g_sliceA (off' := 0) (n' := 8) (c' := 16) (i := 0) (j := 8) (sz := 1) rfl rfl rfl Tryz.underlying22 ty5 (gt (p := .arr 5054 0 16 16) (q := .arr 5054 0 16 16) (hd 4 (by decide))) (isB_none rfl) (isB_some (gt (p := .sc (.int .i64 8)) (q := .sc (.int .i64 4)) (hd 5 (by decide)))) (by omega) (by decide) rfl rfl))
  refine famE_last [0, 8, 9] (by kernel_rfl) ?_ (fun bD hb => ?_)
  · refine fc ?_ (fc ?_ (fc ?_ (fn')))
    · exact ov_step (i := 0) (q := .sc (.int .i64 8)) rfl rfl rfl (fun bD hc hi hd => gs_plain rfl (g_move (p := .sc (.int .i64 8)) rfl rfl rfl (gf (q := .sc (.int .i64 8)) (notyet (j := 9) hc hi (by kernel_rfl)))))
    · exact ov_step (i := 8) (q := .sc (.int .i64 16)) rfl rfl rfl (fun bD hc hi hd => gs_plain rfl (g_bin (u1 := .int .i64 8) (u2 := .int .i64 8) (v := .int .i64 16) rfl rfl rfl (gt (p := .sc (.int .i64 8)) (q := .sc (.int .i64 4)) (hd 0 (by decide))) (gt (p := .sc (.int .i64 8)) (q := .sc (.int .i64 4)) (hd 7 (by decide))) (fun _ => by kernel_rfl)))
    · exact ov_step (i := 9) (q := .sc (.int .i64 16)) rfl rfl rfl (fun bD hc hi hd => gs_plain rfl (g_assign (p := .sc (.int .i64 16)) rfl rfl rfl (gt (p := .sc (.int .i64 16)) (q := .sc (.int .i64 8)) (hd 8 (by decide)))))
  obtain rfl : bD = fun _ => true := funext hb
  refine awr_s ?_
  refine aw_seq ?_
  refine aw_seq ?_
  refine aw_region ?_
  refine al_op rfl (g_move (p := .sc (.int .i64 16)) rfl rfl rfl rfl) ?_
  refine al_op rfl (g_move (p := .sc (.int .i64 16)) rfl rfl rfl rfl) ?_
  refine al_op rfl (g_bin (u1 := .int .i64 16) (u2 := .int .i64 16) (v := .bool false) rfl rfl rfl rfl rfl (fun _ => rfl)) ?_
  refine al_nil ?_
  refine aw_cond (b := false) rfl (fun h => by cases h) (fun _ => ?_)
  refine aw_exit ?_
  refine aw_seq ?_
  refine aw_region ?_
  refine al_op rfl (g_move (p := .arr 5054 0 16 16) rfl rfl rfl rfl) ?_
  refine al_op rfl (g_assign (p := .arr 5054 0 16 16) rfl rfl rfl rfl) ?_
  refine al_nil ?_
  refine aw_ownT (E := (eI .u8)) (s := 5054) (d := 4) (n := 16) (c := 16) (tp := 1000) (l := [c, c, c, c, c, c, c, c, c, c, c, c, c, c, c, c]) (ps := ((.sc (.int .u8 c)) :: (.sc (.int .u8 c)) :: (.sc (.int .u8 c)) :: (.sc (.int .u8 c)) :: (.sc (.int .u8 c)) :: (.sc (.int .u8 c)) :: (.sc (.int .u8 c)) :: (.sc (.int .u8 c)) :: (.sc (.int .u8 c)) :: (.sc (.int .u8 c)) :: (.sc (.int .u8 c)) :: (.sc (.int .u8 c)) :: (.sc (.int .u8 c)) :: (.sc (.int .u8 c)) :: (.sc (.int .u8 c)) :: (.sc (.int .u8 c)) :: (List.replicate (cap54 - 16) .any))) rfl rfl rfl rfl rfl (fun _ => rfl) ⟨Nat.le_of_ble_eq_true rfl, by decide, by show 16 * 1 ≤ List.length (α := PV) ((.sc (.int .u8 c)) :: (.sc (.int .u8 c)) :: (.sc (.int .u8 c)) :: (.sc (.int .u8 c)) :: (.sc (.int .u8 c)) :: (.sc (.int .u8 c)) :: (.sc (.int .u8 c)) :: (.sc (.int .u8 c)) :: (.sc (.int .u8 c)) :: (.sc (.int .u8 c)) :: (.sc (.int .u8 c)) :: (.sc (.int .u8 c)) :: (.sc (.int .u8 c)) :: (.sc (.int .u8 c)) :: (.sc (.int .u8 c)) :: (.sc (.int .u8 c)) :: (List.replicate (cap54 - 16) .any)); simp only [List.length_cons]; omega⟩ ?_
  refine aw_ret ?_
  exact endG_mk (F := (fun (z : List Int) => ⟨[], [(1000, (1, z.length))], .own 1000 z.length (SL (eI .u8) z)⟩)) (z := (bytes_Repeat16 c)) (v := [c, c, c, c, c, c, c, c, c, c, c, c, c, c, c, c]) rfl rfl (.one (.tmp 4 (.own 1000 (List.length (α := Int) [c, c, c, c, c, c, c, c, c, c, c, c, c, c, c, c]) (SL (eI .u8) [c, c, c, c, c, c, c, c, c, c, c, c, c, c, c, c])) rfl) (.one (.rfl _)) rfl) trivial ⟨rfl, trivial⟩
theorem rep16_len (c : Int) : (bytes_Repeat16 c).length = 16 := rfl

/-- interregnum/msg.body -/
def msg_body (m : api_Msg) : (List Int) × Bool :=
  (bif decide ((m.fKind : Int) = 3) then
    (([(IntKind.wrap .u8 m.fNote.fCode), (IntKind.wrap .u8 m.fNote.fSub)] ++ m.fNote.fData), (((decide ((0 : Int) ≤ m.fNote.fCode)) && (decide ((m.fNote.fCode : Int) ≤ 255))) && (decide ((0 : Int) ≤ m.fNote.fSub))) && (decide ((m.fNote.fSub : Int) ≤ 255)))
  else
    ([], decide ((m.fKind : Int) = 4)))
set_option maxRecDepth 100000 in
set_option maxHeartbeats 4000000 in
theorem msg_body_pf_g (m : api_Msg) (h1 : decide ((m.fKind : Int) = 1) = false) (h2 : decide ((m.fKind : Int) = 2) = false) (h3 : m.fNote.fData.length ≤ 1000000) : PG Tryz.prog 32 [] [] [.agg (api_Msg.cells m)] (fun _ : Unit => True) (fun _ => (fun (z : (List Int) × Bool) => ⟨[], [], .tup [.sem (SL (eI .u8) z.1), .sc (.bool z.2)]⟩) (msg_body m)) := by
  refine pg_of (N := 58) (l := [.tmp 2, .tmp 3]) Tryz.func32 rfl rfl rfl (Nat.le_of_ble_eq_true rfl) fun w0 i0 F βs => ?_
  refine aw_seq ?_
  refine aw_region ?_
  refine al_op rfl (g_box (s := 1) (p := .agg (api_Msg.cells m)) (qs := (api_Msg.cells m)) rfl rfl rfl rfl rfl rfl rfl) ?_
  refine al_op rfl (g_assign (p := .sc (.slice none 0 0)) rfl rfl rfl rfl) ?_
  refine al_op rfl (g_assign (p := .sc (.bool false)) rfl rfl rfl rfl) ?_
  refine al_nil ?_
  refine aw_seq ?_
  refine aw_seq ?_
  refine aw_region ?_
  refine al_op rfl (g_fieldAddr (b := 1) (k := 0) (m := 0) rfl rfl rfl fld40_0 rfl rfl) ?_
  refine al_op rfl (g_load (s := 1) (off := 0) (ps := (api_Msg.cells m)) (p := .sc (.int .i64 m.fKind)) rfl rfl rfl ty3 rfl rfl rfl rfl rfl) ?_
  refine al_nil ?_
  refine aw_block ?_
  refine aw_seq ?_
  refine aw_region ?_
  refine al_op rfl (g_bin (u1 := .int .i64 m.fKind) (u2 := .int .i64 1) (v := .bool (decide ((m.fKind : Int) = 1))) rfl rfl rfl rfl rfl (fun _ => rfl)) ?_
  refine al_op rfl (g_assign (p := .sc (.bool (decide ((m.fKind : Int) = 1)))) rfl rfl rfl rfl) ?_
  refine al_nil ?_
  refine aw_cond (b := decide ((m.fKind : Int) = 1)) rfl (fun h => absurd (h.symm.trans h1) (by decide)) (fun h => ?_)
  refine aw_seq ?_
  refine aw_region ?_
  refine al_op rfl (g_bin (u1 := .int .i64 m.fKind) (u2 := .int .i64 2) (v := .bool (decide ((m.fKind : Int) = 2))) rfl rfl rfl rfl rfl (fun _ => rfl)) ?_
  refine al_op rfl (g_assign (p := .sc (.bool (decide ((m.fKind : Int) = 2)))) rfl rfl rfl rfl) ?_
  refine al_nil ?_
  refine aw_cond (b := decide ((m.fKind : Int) = 2)) rfl (fun h => absurd (h.symm.trans h2) (by decide)) (fun h => ?_)
  refine aw_seq ?_
  refine aw_region ?_
  refine al_op rfl (g_bin (u1 := .int .i64 m.fKind) (u2 := .int .i64 3) (v := .bool (decide ((m.fKind : Int) = 3))) rfl rfl rfl rfl rfl (fun _ => rfl)) ?_
  refine al_op rfl (g_assign (p := .sc (.bool (decide ((m.fKind : Int) = 3)))) rfl rfl rfl rfl) ?_
  refine al_nil ?_
  refine aw_cond (b := decide ((m.fKind : Int) = 3)) rfl (fun k1 => ?_) (fun k1 => ?_)
  · skip
    refine aw_seq ?_
    refine aw_region ?_
    refine al_op rfl (g_fieldAddr (b := 1) (k := 0) (m := 22) rfl rfl rfl fld40_3 rfl rfl) ?_
    refine al_op rfl (g_load (s := 1) (off := 22) (ps := (api_Msg.cells m)) (p := .agg (api_Note.cells m.fNote)) rfl rfl rfl ty38 rfl rfl rfl rfl rfl) ?_
    refine al_op rfl (g_alloc (s := 4) (z := zv38) (qs := zc38) rfl rfl rfl rfl z38 rfl rfl) ?_
    refine al_op rfl (g_store (s := 4) (off := 0) (ps := zc38) (p := .agg (api_Note.cells m.fNote)) (qs := (api_Note.cells m.fNote)) rfl rfl ty38 rfl rfl rfl rfl rfl rfl rfl) ?_
    refine al_nil ?_
    refine aw_seq ?_
    refine aw_region ?_
    refine al_op rfl (g_fieldAddr (b := 4) (k := 0) (m := 0) rfl rfl rfl fld38_0 rfl rfl) ?_
    refine al_op rfl (g_load (s := 4) (off := 0) (ps := (api_Note.cells m.fNote)) (p := .sc (.int .i64 m.fNote.fCode)) rfl rfl rfl ty3 rfl rfl rfl rfl rfl) ?_
    refine al_op rfl (g_bin (u1 := .int .i64 m.fNote.fCode) (u2 := .int .i64 0) (v := .bool (decide ((0 : Int) ≤ m.fNote.fCode))) rfl rfl rfl rfl rfl (fun _ => rfl)) ?_
    refine al_op rfl (g_move (p := .sc (.bool (decide ((0 : Int) ≤ m.fNote.fCode)))) rfl rfl rfl rfl) ?_
    refine al_gW (C := decide ((0 : Int) ≤ m.fNote.fCode)) (p := .loc 4 0) (gd_T rfl rfl rfl rfl rfl) rfl rfl (fun g2 => g_fieldAddr (b := 4) (k := 0) (m := 0) rfl rfl rfl fld38_0 rfl rfl) ?_
    refine al_gW (C := decide ((0 : Int) ≤ m.fNote.fCode)) (p := .sc (.int .i64 m.fNote.fCode)) (gd_T rfl rfl rfl rfl rfl) rfl rfl (fun g3 => g_load (s := 4) (off := 0) (ps := (api_Note.cells m.fNote)) (p := .sc (.int .i64 m.fNote.fCode)) rfl rfl rfl ty3 (gt (p := .loc 4 0) (q := .sc undef) g3) rfl rfl rfl rfl) ?_
    refine al_gW (C := decide ((0 : Int) ≤ m.fNote.fCode)) (p := .sc (.bool (decide ((m.fNote.fCode : Int) ≤ 255)))) (gd_T rfl rfl rfl rfl rfl) rfl rfl (fun g4 => g_bin (u1 := .int .i64 m.fNote.fCode) (u2 := .int .i64 255) (v := .bool (decide ((m.fNote.fCode : Int) ≤ 255))) rfl rfl rfl (gt (p := .sc (.int .i64 m.fNote.fCode)) (q := .sc undef) g4) rfl (fun _ => rfl)) ?_
    refine al_op rfl (g_andU (b := decide ((0 : Int) ≤ m.fNote.fCode)) (y := decide ((m.fNote.fCode : Int) ≤ 255)) rfl rfl rfl rfl rfl) ?_
    refine al_op rfl (g_move (p := .sc (.bool ((decide ((0 : Int) ≤ m.fNote.fCode)) && (decide ((m.fNote.fCode : Int) ≤ 255))))) rfl rfl rfl rfl) ?_
    refine al_gW (C := (decide ((0 : Int) ≤ m.fNote.fCode)) && (decide ((m.fNote.fCode : Int) ≤ 255))) (p := .loc 4 1) (gd_T rfl rfl rfl rfl rfl) rfl rfl (fun g5 => g_fieldAddr (b := 4) (k := 0) (m := 1) rfl rfl rfl fld38_1 rfl rfl) ?_
    refine al_gW (C := (decide ((0 : Int) ≤ m.fNote.fCode)) && (decide ((m.fNote.fCode : Int) ≤ 255))) (p := .sc (.int .i64 m.fNote.fSub)) (gd_T rfl rfl rfl rfl rfl) rfl rfl (fun g6 => g_load (s := 4) (off := 1) (ps := (api_Note.cells m.fNote)) (p := .sc (.int .i64 m.fNote.fSub)) rfl rfl rfl ty3 (gt (p := .loc 4 1) (q := .sc undef) g6) rfl rfl rfl rfl) ?_
    refine al_gW (C := (decide ((0 : Int) ≤ m.fNote.fCode)) && (decide ((m.fNote.fCode : Int) ≤ 255))) (p := .sc (.bool (decide ((0 : Int) ≤ m.fNote.fSub)))) (gd_T rfl rfl rfl rfl rfl) rfl rfl (fun g7 => g_bin (u1 := .int .i64 m.fNote.fSub) (u2 := .int .i64 0) (v := .bool (decide ((0 : Int) ≤ m.fNote.fSub))) rfl rfl rfl (gt (p := .sc (.int .i64 m.fNote.fSub)) (q := .sc undef) g7) rfl (fun _ => rfl)) ?_
    refine al_op rfl (g_andU (b := (decide ((0 : Int) ≤ m.fNote.fCode)) && (decide ((m.fNote.fCode : Int) ≤ 255))) (y := decide ((0 : Int) ≤ m.fNote.fSub)) rfl rfl rfl rfl rfl) ?_
    refine al_op rfl (g_move (p := .sc (.bool (((decide ((0 : Int) ≤ m.fNote.fCode)) && (decide ((m.fNote.fCode : Int) ≤ 255))) && (decide ((0 : Int) ≤ m.fNote.fSub))))) rfl rfl rfl rfl) ?_
    refine al_gW (C := ((decide ((0 : Int) ≤ m.fNote.fCode)) && (decide ((m.fNote.fCode : Int) ≤ 255))) && (decide ((0 : Int) ≤ m.fNote.fSub))) (p := .loc 4 1) (gd_T rfl rfl rfl rfl rfl) rfl rfl (fun g8 => g_fieldAddr (b := 4) (k := 0) (m := 1) rfl rfl rfl fld38_1 rfl rfl) ?_
    refine al_gW (C := ((decide ((0 : Int) ≤ m.fNote.fCode)) && (decide ((m.fNote.fCode : Int) ≤ 255))) && (decide ((0 : Int) ≤ m.fNote.fSub))) (p := .sc (.int .i64 m.fNote.fSub)) (gd_T rfl rfl rfl rfl rfl) rfl rfl (fun g9 => g_load (s := 4) (off := 1) (ps := (api_Note.cells m.fNote)) (p := .sc (.int .i64 m.fNote.fSub)) rfl rfl rfl ty3 (gt (p := .loc 4 1) (q := .sc undef) g9) rfl rfl rfl rfl) ?_
    refine al_gW (C := ((decide ((0 : Int) ≤ m.fNote.fCode)) && (decide ((m.fNote.fCode : Int) ≤ 255))) && (decide ((0 : Int) ≤ m.fNote.fSub))) (p := .sc (.bool (decide ((m.fNote.fSub : Int) ≤ 255)))) (gd_T rfl rfl rfl rfl rfl) rfl rfl (fun g10 => g_bin (u1 := .int .i64 m.fNote.fSub) (u2 := .int .i64 255) (v := .bool (decide ((m.fNote.fSub : Int) ≤ 255))) rfl rfl rfl (gt (p := .sc (.int .i64 m.fNote.fSub)) (q := .sc undef) g10) rfl (fun _ => rfl)) ?_
    refine al_op rfl (g_andU (b := ((decide ((0 : Int) ≤ m.fNote.fCode)) && (decide ((m.fNote.fCode : Int) ≤ 255))) && (decide ((0 : Int) ≤ m.fNote.fSub))) (y := decide ((m.fNote.fSub : Int) ≤ 255)) rfl rfl rfl rfl rfl) ?_
    refine al_op rfl (g_assign (p := .sc (.bool ((((decide ((0 : Int) ≤ m.fNote.fCode)) && (decide ((m.fNote.fCode : Int) ≤ 255))) && (decide ((0 : Int) ≤ m.fNote.fSub))) && (decide ((m.fNote.fSub : Int) ≤ 255))))) rfl rfl rfl rfl) ?_
    refine al_nil ?_
    refine aw_seq ?_
    refine aw_region ?_
    refine al_op rfl (g_fieldAddr (b := 4) (k := 0) (m := 0) rfl rfl rfl fld38_0 rfl rfl) ?_
    refine al_op rfl (g_load (s := 4) (off := 0) (ps := (api_Note.cells m.fNote)) (p := .sc (.int .i64 m.fNote.fCode)) rfl rfl rfl ty3 rfl rfl rfl rfl rfl) ?_
    refine al_op rfl (g_conv (m := (IntKind.wrap .u8 m.fNote.fCode)) rfl rfl rfl Tryz.underlying3 Tryz.underlying5 rfl rfl) ?_
    refine al_op rfl (g_fieldAddr (b := 4) (k := 0) (m := 1) rfl rfl rfl fld38_1 rfl rfl) ?_
    refine al_op rfl (g_load (s := 4) (off := 1) (ps := (api_Note.cells m.fNote)) (p := .sc (.int .i64 m.fNote.fSub)) rfl rfl rfl ty3 rfl rfl rfl rfl rfl) ?_
    refine al_op rfl (g_conv (m := (IntKind.wrap .u8 m.fNote.fSub)) rfl rfl rfl Tryz.underlying3 Tryz.underlying5 rfl rfl) ?_
    refine al_op rfl (g_buildSlice (E := (eI .u8)) (l := [(IntKind.wrap .u8 m.fNote.fCode), (IntKind.wrap .u8 m.fNote.fSub)]) (tp := 50) (parts := [(0, .tmp 46), (1, .tmp 49)]) (qs := [.sc (.int .u8 (IntKind.wrap .u8 m.fNote.fCode)), .sc (.int .u8 (IntKind.wrap .u8 m.fNote.fSub))]) rfl rfl rfl el22 rfl rfl rfl rfl) ?_
    refine al_op rfl (g_fieldAddr (b := 4) (k := 0) (m := 2) rfl rfl rfl fld38_2 rfl rfl) ?_
    refine al_op rfl (g_load (s := 4) (off := 2) (ps := (api_Note.cells m.fNote)) (p := .sem (SL (eI .u8) m.fNote.fData)) rfl rfl rfl ty22 rfl rfl rfl rfl rfl) ?_
    refine al_op rfl (g_append (E := (eI .u8)) (l := [(IntKind.wrap .u8 m.fNote.fCode), (IntKind.wrap .u8 m.fNote.fSub)]) (ext := m.fNote.fData) (tp := 50) rfl rfl rfl el22 rfl rfl (isSl_sem rfl) (by first | ((try simp only [zB, zC, zD, sub_len, msg_two_len, rep16_len]); omega) | ((try simp only [z1, z2, z3, z4, z5, z6, z7, z8, z9, zA, zB, zC, zD, wrap64, wrapu8, wrapu16, wrapu32, wrapu64, tmod_ite, tdiv_ite, sub_len, msg_two_len, rep16_len] at *); omega))) ?_
    refine al_op rfl (g_move (p := .sc (.bool ((((decide ((0 : Int) ≤ m.fNote.fCode)) && (decide ((m.fNote.fCode : Int) ≤ 255))) && (decide ((0 : Int) ≤ m.fNote.fSub))) && (decide ((m.fNote.fSub : Int) ≤ 255))))) rfl rfl rfl rfl) ?_
    refine al_op rfl (g_assign (p := .own 50 (List.length (α := Int) ([(IntKind.wrap .u8 m.fNote.fCode), (IntKind.wrap .u8 m.fNote.fSub)] ++ m.fNote.fData)) (SL (eI .u8) ([(IntKind.wrap .u8 m.fNote.fCode), (IntKind.wrap .u8 m.fNote.fSub)] ++ m.fNote.fData))) rfl rfl rfl rfl) ?_
    refine al_op rfl (g_assign (p := .sc (.bool ((((decide ((0 : Int) ≤ m.fNote.fCode)) && (decide ((m.fNote.fCode : Int) ≤ 255))) && (decide ((0 : Int) ≤ m.fNote.fSub))) && (decide ((m.fNote.fSub : Int) ≤ 255))))) rfl rfl rfl rfl) ?_
    refine al_nil ?_
    refine aw_ret ?_
    exact endG_mk (F := (fun (z : (List Int) × Bool) => ⟨[], [], .tup [.sem (SL (eI .u8) z.1), .sc (.bool z.2)]⟩)) (z := (msg_body m)) (v := (([(IntKind.wrap .u8 m.fNote.fCode), (IntKind.wrap .u8 m.fNote.fSub)] ++ m.fNote.fData), (((decide ((0 : Int) ≤ m.fNote.fCode)) && (decide ((m.fNote.fCode : Int) ≤ 255))) && (decide ((0 : Int) ≤ m.fNote.fSub))) && (decide ((m.fNote.fSub : Int) ≤ 255)))) (bT k1 rfl) rfl (.two (.tmp 2 (.sem (SL (eI .u8) ([(IntKind.wrap .u8 m.fNote.fCode), (IntKind.wrap .u8 m.fNote.fSub)] ++ m.fNote.fData))) rfl) (.one (.rfl _)) rfl (.tmp 3 (.sc (.bool ((((decide ((0 : Int) ≤ m.fNote.fCode)) && (decide ((m.fNote.fCode : Int) ≤ 255))) && (decide ((0 : Int) ≤ m.fNote.fSub))) && (decide ((m.fNote.fSub : Int) ≤ 255))))) rfl) (.one (.rfl _)) rfl) trivial trivial
  · skip
    refine aw_skip ?_
    refine aw_seq ?_
    refine aw_plan { ds := [some 55, some 56, some 57, some 2, some 3], p := fun i => [.loc 1 0, .sc (.int .i64 m.fKind), .sc (.bool (decide ((m.fKind : Int) = 4))), .sc (.slice none 0 0), .sc (.bool (decide ((m.fKind : Int) = 4)))].getD i .any, al := [], st := [] } rfl (by kernel_rfl) rfl rfl ?_ (fun bD hb => ?_)
    · refine ⟨fun bD hc hi hd => ?_, fun bD hc hi hd => ?_, fun bD hc hi hd => ?_, fun bD hc hi hd => ?_, fun bD hc hi hd => ?_, trivial⟩
      · exact Plan.putStep (i := 0) (q := .loc 1 0) rfl rfl rfl (gs_plain rfl (g_fieldAddr (b := 1) (k := 0) (m := 0) rfl rfl rfl fld40_0 rfl rfl))
      · exact Plan.putStep (i := 1) (q := .sc (.int .i64 m.fKind)) rfl rfl rfl (gs_plain rfl (g_load (s := 1) (off := 0) (ps := (api_Msg.cells m)) (p := .sc (.int .i64 m.fKind)) rfl rfl rfl ty3 (gt (p := .loc 1 0) (q := .any) (hd 0 (by decide))) rfl rfl rfl rfl))
      · exact Plan.putStep (i := 2) (q := .sc (.bool (decide ((m.fKind : Int) = 4)))) rfl rfl rfl (gs_plain rfl (g_bin (u1 := .int .i64 m.fKind) (u2 := .int .i64 4) (v := .bool (decide ((m.fKind : Int) = 4))) rfl rfl rfl (gt (p := .sc (.int .i64 m.fKind)) (q := .any) (hd 1 (by decide))) rfl (fun _ => rfl)))
      · exact Plan.putStep (i := 3) (q := .sc (.slice none 0 0)) rfl rfl rfl (gs_plain rfl (g_assign (p := .sc (.slice none 0 0)) rfl rfl rfl rfl))
      · exact Plan.putStep (i := 4) (q := .sc (.bool (decide ((m.fKind : Int) = 4)))) rfl rfl rfl (gs_plain rfl (g_assign (p := .sc (.bool (decide ((m.fKind : Int) = 4)))) rfl rfl rfl (gt (p := .sc (.bool (decide ((m.fKind : Int) = 4)))) (q := .any) (hd 2 (by decide)))))
    obtain rfl : bD = fun _ => true := funext hb
    refine aw_ret ?_
    exact endG_mk (F := (fun (z : (List Int) × Bool) => ⟨[], [], .tup [.sem (SL (eI .u8) z.1), .sc (.bool z.2)]⟩)) (z := (msg_body m)) (v := ([], decide ((m.fKind : Int) = 4))) (bF k1 rfl) rfl (.two (.tmp 2 (.sc (.slice none 0 0)) rfl) (.one (.nil _)) rfl (.tmp 3 (.sc (.bool (decide ((m.fKind : Int) = 4)))) rfl) (.one (.rfl _)) rfl) trivial trivial
theorem msg_body_pf (m : api_Msg) (h1 : decide ((m.fKind : Int) = 1) = false) (h2 : decide ((m.fKind : Int) = 2) = false) (h3 : m.fNote.fData.length ≤ 1000000) : PF Tryz.prog 32 [.agg (api_Msg.cells m)] (.tup [.sem (SL (eI .u8) ((msg_body m).1)), .sc (.bool ((msg_body m).2))]) := pf_ofG (msg_body_pf_g m h1 h2 h3) rfl

/-- interregnum/msg.Encode -/
def msg_Encode (m : api_Msg) : List Int :=
  (bif (!((msg_body m).2)) || (decide ((4077 : Int) < (((msg_body m).1).length : Int))) then
    []
  else
    (((msg_two (bytes_Repeat16 255) (IntKind.wrap .i64 (19 + (((msg_body m).1).length : Int)))) ++ [(IntKind.wrap .u8 m.fKind)]) ++ (msg_body m).1))
set_option maxRecDepth 100000 in
set_option maxHeartbeats 4000000 in
theorem msg_Encode_pf_g (m : api_Msg) (h1 : decide ((m.fKind : Int) = 1) = false) (h2 : decide ((m.fKind : Int) = 2) = false) (h3 : m.fNote.fData.length ≤ 1000000) : PG Tryz.prog 15 [] [] [.agg (api_Msg.cells m)] (fun _ : Unit => True) (fun _ => (fun (z : List Int) => ⟨[], [], .sem (SL (eI .u8) z)⟩) (msg_Encode m)) := by
  refine pg_of (N := 32) (l := [.tmp 2]) Tryz.func15 rfl rfl rfl (Nat.le_of_ble_eq_true rfl) fun w0 i0 F βs => ?_
  refine aw_seq ?_
  refine aw_region ?_
  refine al_op rfl (g_box (s := 1) (p := .agg (api_Msg.cells m)) (qs := (api_Msg.cells m)) rfl rfl rfl rfl rfl rfl rfl) ?_
  refine al_op rfl (g_assign (p := .sc (.slice none 0 0)) rfl rfl rfl rfl) ?_
  refine al_nil ?_
  refine aw_seq ?_
  refine aw_region ?_
  refine al_op rfl (g_load (s := 1) (off := 0) (ps := (api_Msg.cells m)) (p := .agg (api_Msg.cells m)) rfl rfl rfl ty40 rfl rfl rfl rfl rfl) ?_
  refine al_op rfl (g_call (fn := Tryz.f32) (xs := [.tmp 7]) (args := [.agg (api_Msg.cells m)]) (r := .tup [.sem (SL (eI .u8) ((msg_body m).1)), .sc (.bool ((msg_body m).2))]) rfl rfl rfl Tryz.func32 rfl rfl rfl rfl rfl (msg_body_pf m (by first | assumption | rfl) (by first | assumption | rfl) (by first | assumption | (simp; done) | omega | (show List.length _ ≤ _; simp only [List.length_replicate, wrap64, tmod_ite]; omega)))) ?_
  refine al_op rfl (g_move (p := .tup [.sem (SL (eI .u8) ((msg_body m).1)), .sc (.bool ((msg_body m).2))]) rfl rfl rfl rfl) ?_
  refine al_op rfl (g_extract (ps := [.sem (SL (eI .u8) ((msg_body m).1)), .sc (.bool ((msg_body m).2))]) (p := .sem (SL (eI .u8) ((msg_body m).1))) rfl rfl rfl rfl rfl) ?_
  refine al_op rfl (g_extract (ps := [.sem (SL (eI .u8) ((msg_body m).1)), .sc (.bool ((msg_body m).2))]) (p := .sc (.bool ((msg_body m).2))) rfl rfl rfl rfl rfl) ?_
  refine al_op rfl (g_assign (p := .sem (SL (eI .u8) ((msg_body m).1))) rfl rfl rfl rfl) ?_
  refine al_op rfl (g_assign (p := .sc (.bool ((msg_body m).2))) rfl rfl rfl rfl) ?_
  refine al_nil ?_
  refine aw_seq ?_
  refine aw_seq ?_
  refine aw_region ?_
  refine al_op rfl (g_move (p := .sc (.bool ((msg_body m).2))) rfl rfl rfl rfl) ?_
  refine al_op rfl (g_un (u := .bool ((msg_body m).2)) (v := .bool (!((msg_body m).2))) rfl rfl rfl rfl (fun _ => rfl)) ?_
  refine al_op rfl (g_move (p := .sc (.bool (!((msg_body m).2)))) rfl rfl rfl rfl) ?_
  refine al_gW (C := (msg_body m).2) (p := .sem (SL (eI .u8) ((msg_body m).1))) (gd_F (b := !((msg_body m).2)) (c := (msg_body m).2) rfl rfl rfl rfl rfl (Bool.not_not _)) rfl rfl (fun g1 => g_move (p := .sem (SL (eI .u8) ((msg_body m).1))) rfl rfl rfl rfl) ?_
  refine al_gW (C := (msg_body m).2) (p := .sc (.int .i64 (((msg_body m).1).length : Int))) (gd_F (b := !((msg_body m).2)) (c := (msg_body m).2) rfl rfl rfl rfl rfl (Bool.not_not _)) rfl rfl (fun g2 => g_len rfl rfl rfl Tryz.underlying22 (by exact (isSl_sem (by exact (gt (p := .sem (SL (eI .u8) ((msg_body m).1))) (q := .sc undef) g2))))) ?_
  refine al_gW (C := (msg_body m).2) (p := .sc (.bool (decide ((4077 : Int) < (((msg_body m).1).length : Int))))) (gd_F (b := !((msg_body m).2)) (c := (msg_body m).2) rfl rfl rfl rfl rfl (Bool.not_not _)) rfl rfl (fun g3 => g_bin (u1 := .int .i64 (((msg_body m).1).length : Int)) (u2 := .int .i64 4077) (v := .bool (decide ((4077 : Int) < (((msg_body m).1).length : Int)))) rfl rfl rfl (gt (p := .sc (.int .i64 (((msg_body m).1).length : Int))) (q := .sc undef) g3) rfl (fun _ => rfl)) ?_
  refine al_op rfl (g_orU (b := !((msg_body m).2)) (y := decide ((4077 : Int) < (((msg_body m).1).length : Int))) rfl rfl rfl rfl rfl (Bool.not_not _)) ?_
  refine al_nil ?_
  refine aw_cond (b := (!((msg_body m).2)) || (decide ((4077 : Int) < (((msg_body m).1).length : Int)))) rfl (fun k4 => ?_) (fun k4 => ?_)
  · skip
    refine aw_seq ?_
    refine aw_region ?_
    refine al_op rfl (g_assign (p := .sc (.slice none 0 0)) rfl rfl rfl rfl) ?_
    refine al_nil ?_
    refine aw_ret ?_
    exact endG_mk (F := (fun (z : List Int) => ⟨[], [], .sem (SL (eI .u8) z)⟩)) (z := (msg_Encode m)) (v := []) (bT k4 rfl) rfl (.one (.tmp 2 (.sc (.slice none 0 0)) rfl) (.one (.nil _)) rfl) trivial trivial
  · skip
    refine aw_skip ?_
    refine aw_seq ?_
    refine aw_region ?_
    refine al_op rfl (g_buildSlice (E := (eI .u8)) (l := [255]) (tp := 18) (parts := [(0, .const (.int .u8 255))]) (qs := [.sc (.int .u8 255)]) rfl rfl rfl el22 rfl rfl rfl rfl) ?_
    refine al_opX rfl (g_callG (fn := Tryz.f34) (xs := [.tmp 18, .const (.int .i64 16)]) (bxs := []) (tps := []) (newS := []) (newT := [(1000, 3019)]) (ρ := []) (τ := [(1000, 3019)]) rfl rfl rfl Tryz.func34 rfl rfl (bytes_Repeat16_pf 255) rfl rfl rfl rfl rfl rfl (by decide) fn' fn' ((.cons (.one (.rfl _)) (.cons (.one (.rfl _)) .nil))) rfl (fun _ => rfl) (fun _ => rfl) rfl) (fun _ _ => ?_)
    refine al_op rfl (g_move (p := .sem (SL (eI .u8) ((msg_body m).1))) rfl rfl rfl rfl) ?_
    refine al_op rfl (g_len rfl rfl rfl Tryz.underlying22 (isSl_sem rfl)) ?_
    refine al_op rfl (g_bin (u1 := .int .i64 19) (u2 := .int .i64 (((msg_body m).1).length : Int)) (v := .int .i64 (IntKind.wrap .i64 (19 + (((msg_body m).1).length : Int)))) rfl rfl rfl rfl rfl (fun _ => rfl)) ?_
    refine al_opX rfl (g_callG (fn := Tryz.f33) (xs := [.tmp 19, .tmp 22]) (bxs := []) (tps := [(1000, 3019, (1, (bytes_Repeat16 255).length))]) (newS := []) (newT := []) (ρ := []) (τ := [(1000, 3019)]) rfl rfl rfl Tryz.func33 rfl rfl (msg_two_pf (bytes_Repeat16 255) (IntKind.wrap .i64 (19 + (((msg_body m).1).length : Int))) (by first | ((try simp only [zB, zC, zD, sub_len, msg_two_len, rep16_len]); omega) | ((try simp only [z1, z2, z3, z4, z5, z6, z7, z8, z9, zA, zB, zC, zD, wrap64, wrapu8, wrapu16, wrapu32, wrapu64, tmod_ite, tdiv_ite, sub_len, msg_two_len, rep16_len] at *); omega))) rfl rfl rfl rfl rfl rfl (by decide) fn' (fc rfl fn') ((.cons (.one (.rfl _)) (.cons (.one (.rfl _)) .nil))) rfl (fun _ => rfl) (fun _ => rfl) rfl) (fun _ _ => ?_)
    refine al_op rfl (g_assign (p := .own 3019 (List.length (α := Int) (msg_two (bytes_Repeat16 255) (IntKind.wrap .i64 (19 + (((msg_body m).1).length : Int))))) (SL (eI .u8) (msg_two (bytes_Repeat16 255) (IntKind.wrap .i64 (19 + (((msg_body m).1).length : Int)))))) rfl rfl rfl rfl) ?_
    refine al_nil ?_
    refine aw_seq ?_
    refine aw_region ?_
    refine al_op rfl (g_move (p := .own 3019 (List.length (α := Int) (msg_two (bytes_Repeat16 255) (IntKind.wrap .i64 (19 + (((msg_body m).1).length : Int))))) (SL (eI .u8) (msg_two (bytes_Repeat16 255) (IntKind.wrap .i64 (19 + (((msg_body m).1).length : Int)))))) rfl rfl rfl rfl) ?_
    refine al_op rfl (g_fieldAddr (b := 1) (k := 0) (m := 0) rfl rfl rfl fld40_0 rfl rfl) ?_
    refine al_op rfl (g_load (s := 1) (off := 0) (ps := (api_Msg.cells m)) (p := .sc (.int .i64 m.fKind)) rfl rfl rfl ty3 rfl rfl rfl rfl rfl) ?_
    refine al_op rfl (g_conv (m := (IntKind.wrap .u8 m.fKind)) rfl rfl rfl Tryz.underlying3 Tryz.underlying5 rfl rfl) ?_
    refine al_op rfl (g_buildSlice (E := (eI .u8)) (l := [(IntKind.wrap .u8 m.fKind)]) (tp := 28) (parts := [(0, .tmp 27)]) (qs := [.sc (.int .u8 (IntKind.wrap .u8 m.fKind))]) rfl rfl rfl el22 rfl rfl rfl rfl) ?_
    refine al_op rfl (g_append (E := (eI .u8)) (l := (msg_two (bytes_Repeat16 255) (IntKind.wrap .i64 (19 + (((msg_body m).1).length : Int))))) (ext := [(IntKind.wrap .u8 m.fKind)]) (tp := 3019) rfl rfl rfl el22 rfl rfl (isSl_own rfl) (by first | ((try simp only [zB, zC, zD, sub_len, msg_two_len, rep16_len]); omega) | ((try simp only [z1, z2, z3, z4, z5, z6, z7, z8, z9, zA, zB, zC, zD, wrap64, wrapu8, wrapu16, wrapu32, wrapu64, tmod_ite, tdiv_ite, sub_len, msg_two_len, rep16_len] at *); omega))) ?_
    refine al_op rfl (g_move (p := .sem (SL (eI .u8) ((msg_body m).1))) rfl rfl rfl rfl) ?_
    refine al_op rfl (g_append (E := (eI .u8)) (l := ((msg_two (bytes_Repeat16 255) (IntKind.wrap .i64 (19 + (((msg_body m).1).length : Int)))) ++ [(IntKind.wrap .u8 m.fKind)])) (ext := (msg_body m).1) (tp := 3019) rfl rfl rfl el22 rfl rfl (isSl_sem rfl) (by first | ((try simp only [zB, zC, zD, sub_len, msg_two_len, rep16_len]); omega) | ((try simp only [z1, z2, z3, z4, z5, z6, z7, z8, z9, zA, zB, zC, zD, wrap64, wrapu8, wrapu16, wrapu32, wrapu64, tmod_ite, tdiv_ite, sub_len, msg_two_len, rep16_len] at *); omega))) ?_
    refine al_op rfl (g_assign (p := .own 3019 (List.length (α := Int) (((msg_two (bytes_Repeat16 255) (IntKind.wrap .i64 (19 + (((msg_body m).1).length : Int)))) ++ [(IntKind.wrap .u8 m.fKind)]) ++ (msg_body m).1)) (SL (eI .u8) (((msg_two (bytes_Repeat16 255) (IntKind.wrap .i64 (19 + (((msg_body m).1).length : Int)))) ++ [(IntKind.wrap .u8 m.fKind)]) ++ (msg_body m).1))) rfl rfl rfl rfl) ?_
    refine al_nil ?_
    refine aw_ret ?_
    exact endG_mk (F := (fun (z : List Int) => ⟨[], [], .sem (SL (eI .u8) z)⟩)) (z := (msg_Encode m)) (v := (((msg_two (bytes_Repeat16 255) (IntKind.wrap .i64 (19 + (((msg_body m).1).length : Int)))) ++ [(IntKind.wrap .u8 m.fKind)]) ++ (msg_body m).1)) (bF k4 rfl) rfl (.one (.tmp 2 (.sem (SL (eI .u8) (((msg_two (bytes_Repeat16 255) (IntKind.wrap .i64 (19 + (((msg_body m).1).length : Int)))) ++ [(IntKind.wrap .u8 m.fKind)]) ++ (msg_body m).1))) rfl) (.one (.rfl _)) rfl) trivial trivial
theorem msg_Encode_pf (m : api_Msg) (h1 : decide ((m.fKind : Int) = 1) = false) (h2 : decide ((m.fKind : Int) = 2) = false) (h3 : m.fNote.fData.length ≤ 1000000) : PF Tryz.prog 15 [.agg (api_Msg.cells m)] (.sem (SL (eI .u8) (msg_Encode m))) := pf_ofG (msg_Encode_pf_g m h1 h2 h3) rfl

/-- interregnum/msg.Decode -/
def msg_DecodeA (b : List Int) : api_Msg × api_Note :=
  (bif !(decide ((((msg_Head b).2).fCode : Int) = 0)) then
    ((⟨0, (⟨0, 0, 0, (⟨false, 0, false, false, 0, false, false, false, 0⟩ : api_Caps)⟩ : api_Open), (⟨[], (⟨0, [], 0, 0, 0, [], []⟩ : api_Attrs), []⟩ : api_Update), (⟨0, 0, []⟩ : api_Note)⟩ : api_Msg), ((msg_Head b).2))
  else
    (bif (!(decide (((msg_Head b).1 : Int) = (b.length : Int)))) || (decide (((msg_Head b).1 : Int) = 0)) then
      ((⟨0, (⟨0, 0, 0, (⟨false, 0, false, false, 0, false, false, false, 0⟩ : api_Caps)⟩ : api_Open), (⟨[], (⟨0, [], 0, 0, 0, [], []⟩ : api_Attrs), []⟩ : api_Update), (⟨0, 0, []⟩ : api_Note)⟩ : api_Msg), (msg_wrong 1 2 []))
    else
      ((⟨(IntKind.wrap .i64 (ix b 18)), (⟨0, 0, 0, (⟨false, 0, false, false, 0, false, false, false, 0⟩ : api_Caps)⟩ : api_Open), (⟨[], (⟨0, [], 0, 0, 0, [], []⟩ : api_Attrs), []⟩ : api_Update), (⟨0, 0, []⟩ : api_Note)⟩ : api_Msg), (⟨0, 0, []⟩ : api_Note))))
set_option maxRecDepth 100000 in
set_option maxHeartbeats 4000000 in
theorem msg_DecodeA_pf_g (b : List Int) (h1 : (decide (((IntKind.wrap .i64 (ix b 18)) : Int) = 1)) = false) (h2 : (decide (((IntKind.wrap .i64 (ix b 18)) : Int) = 2)) = false) (h3 : (decide (((IntKind.wrap .i64 (ix b 18)) : Int) = 3)) = false) (h0 : 19 ≤ b.length) : PG Tryz.prog 7 [] [] [.sem (SL (eI .u8) b)] (fun _ : Unit => True) (fun _ => (fun (z : api_Msg × api_Note) => ⟨[], [], .tup [.agg (api_Msg.cells z.1), .agg (api_Note.cells z.2)]⟩) (msg_DecodeA b)) := by
  refine pg_of (N := 77) (l := [.cell 2 40, .cell 3 38]) Tryz.func7 rfl rfl rfl (Nat.le_of_ble_eq_true rfl) fun w0 i0 F βs => ?_
  refine aw_seq ?_
  refine aw_region ?_
  refine al_op rfl (g_alloc (s := 2) (z := zv40) (qs := zc40) rfl rfl rfl rfl z40 rfl rfl) ?_
  refine al_op rfl (g_alloc (s := 3) (z := zv38) (qs := zc38) rfl rfl rfl rfl z38 rfl rfl) ?_
  refine al_nil ?_
  refine aw_seq ?_
  refine aw_region ?_
  refine al_op rfl (g_move (p := .sem (SL (eI .u8) b)) rfl rfl rfl rfl) ?_
  refine al_op rfl (g_call (fn := Tryz.f11) (xs := [.tmp 9]) (args := [.sem (SL (eI .u8) b)]) (r := .tup [.sc (.int .i64 ((msg_Head b).1)), .agg (api_Note.cells ((msg_Head b).2))]) rfl rfl rfl Tryz.func11 rfl rfl rfl rfl rfl (msg_Head_pf b)) ?_
  refine al_op rfl (g_move (p := .tup [.sc (.int .i64 ((msg_Head b).1)), .agg (api_Note.cells ((msg_Head b).2))]) rfl rfl rfl rfl) ?_
  refine al_op rfl (g_extract (ps := [.sc (.int .i64 ((msg_Head b).1)), .agg (api_Note.cells ((msg_Head b).2))]) (p := .sc (.int .i64 ((msg_Head b).1))) rfl rfl rfl rfl rfl) ?_
  refine al_op rfl (g_extract (ps := [.sc (.int .i64 ((msg_Head b).1)), .agg (api_Note.cells ((msg_Head b).2))]) (p := .agg (api_Note.cells ((msg_Head b).2))) rfl rfl rfl rfl rfl) ?_
  refine al_op rfl (g_alloc (s := 5) (z := zv38) (qs := zc38) rfl rfl rfl rfl z38 rfl rfl) ?_
  refine al_op rfl (g_assign (p := .sc (.int .i64 ((msg_Head b).1))) rfl rfl rfl rfl) ?_
  refine al_op rfl (g_store (s := 5) (off := 0) (ps := zc38) (p := .agg (api_Note.cells ((msg_Head b).2))) (qs := (api_Note.cells ((msg_Head b).2))) rfl rfl ty38 rfl rfl rfl rfl rfl rfl rfl) ?_
  refine al_nil ?_
  refine aw_seq ?_
  refine aw_block ?_
  refine aw_seq ?_
  refine aw_region ?_
  refine al_op rfl (g_fieldAddr (b := 5) (k := 0) (m := 0) rfl rfl rfl fld38_0 rfl rfl) ?_
  refine al_op rfl (g_load (s := 5) (off := 0) (ps := (api_Note.cells ((msg_Head b).2))) (p := .sc (.int .i64 (((msg_Head b).2).fCode))) rfl rfl rfl ty3 rfl rfl rfl rfl rfl) ?_
  refine al_op rfl (g_bin (u1 := .int .i64 (((msg_Head b).2).fCode)) (u2 := .int .i64 0) (v := .bool (!(decide ((((msg_Head b).2).fCode : Int) = 0)))) rfl rfl rfl rfl rfl (fun _ => rfl)) ?_
  refine al_op rfl (g_assign (p := .sc (.bool (!(decide ((((msg_Head b).2).fCode : Int) = 0))))) rfl rfl rfl rfl) ?_
  refine al_nil ?_
  refine aw_cond (b := !(decide ((((msg_Head b).2).fCode : Int) = 0))) rfl (fun k1 => ?_) (fun k1 => ?_)
  · skip
    refine aw_seq ?_
    refine aw_plan { ds := [some 17, some 18, none, none], p := fun i => [.agg zc40, .agg (api_Note.cells ((msg_Head b).2)), .any, .any].getD i .any, al := [], st := [(2, 2, 0, zc40), (3, 3, 0, (api_Note.cells ((msg_Head b).2)))] } rfl (by kernel_rfl) rfl rfl ?_ (fun bD hb => ?_)
    · refine ⟨fun bD hc hi hd => ?_, fun bD hc hi hd => ?_, fun bD hc hi hd => ?_, fun bD hc hi hd => ?_, trivial⟩
      · exact Plan.putStep (i := 0) (q := .agg zc40) rfl rfl rfl (gs_plain rfl (g_build (parts := []) (pps := []) (qs := zc40) rfl rfl rfl bld40 rfl rfl (by kernel_rfl)))
      · exact Plan.putStep (i := 1) (q := .agg (api_Note.cells ((msg_Head b).2))) rfl rfl rfl (gs_plain rfl (g_load (s := 5) (off := 0) (ps := (api_Note.cells ((msg_Head b).2))) (p := .agg (api_Note.cells ((msg_Head b).2))) rfl rfl rfl ty38 rfl rfl rfl rfl rfl))
      · exact pl_store (i := 2) (s := 2) (off := 0) (ps0 := zc40) (ps := zc40) (qs := zc40) (p := .agg zc40) 0 hc hd rfl rfl rfl ty40 rfl (gt (p := .agg zc40) (q := .any) (hd 0 (by decide))) (by exact planL0_old (ps := zc40) rfl rfl) rfl rfl rfl rfl rfl rfl rfl hi rfl rfl (by kernel_rfl) (by kernel_rfl)
      · exact pl_store (i := 3) (s := 3) (off := 0) (ps0 := zc38) (ps := zc38) (qs := (api_Note.cells ((msg_Head b).2))) (p := .agg (api_Note.cells ((msg_Head b).2))) 1 hc hd rfl rfl rfl ty38 rfl (gt (p := .agg (api_Note.cells ((msg_Head b).2))) (q := .any) (hd 1 (by decide))) (by exact planL0_old (ps := zc38) rfl rfl) rfl rfl rfl rfl rfl rfl rfl hi rfl rfl (by kernel_rfl) (by kernel_rfl)
    obtain rfl : bD = fun _ => true := funext hb
    refine aw_ret ?_
    exact endG_mk (F := (fun (z : api_Msg × api_Note) => ⟨[], [], .tup [.agg (api_Msg.cells z.1), .agg (api_Note.cells z.2)]⟩)) (z := (msg_DecodeA b)) (v := ((⟨0, (⟨0, 0, 0, (⟨false, 0, false, false, 0, false, false, false, 0⟩ : api_Caps)⟩ : api_Open), (⟨[], (⟨0, [], 0, 0, 0, [], []⟩ : api_Attrs), []⟩ : api_Update), (⟨0, 0, []⟩ : api_Note)⟩ : api_Msg), ((msg_Head b).2))) (bT k1 rfl) rfl (.two (.cell 2 40 2 25 true zc40 (.agg zc40) rfl rfl ty40 rfl rfl rfl) (.agg (.cons (.rfl _) (.cons (.rfl _) (.cons (.rfl _) (.cons (.rfl _) (.cons (.rfl _) (.cons (.rfl _) (.cons (.rfl _) (.cons (.rfl _) (.cons (.rfl _) (.cons (.rfl _) (.cons (.rfl _) (.cons (.rfl _) (.cons (.rfl _) (.cons (.nil _) (.cons (.rfl _) (.cons (.nil _) (.cons (.rfl _) (.cons (.rfl _) (.cons (.rfl _) (.cons (.nil _) (.cons (.nil _) (.cons (.nil _) (.cons (.rfl _) (.cons (.rfl _) (.cons (.nil _) .nil)))))))))))))))))))))))))) rfl (.cell 3 38 3 3 true (api_Note.cells ((msg_Head b).2)) (.agg (api_Note.cells ((msg_Head b).2))) rfl rfl ty38 rfl rfl rfl) (.one (.rfl _)) rfl) trivial trivial
  · skip
    refine aw_seq ?_
    refine aw_region ?_
    refine al_op rfl (g_move (p := .sc (.int .i64 ((msg_Head b).1))) rfl rfl rfl rfl) ?_
    refine al_op rfl (g_move (p := .sem (SL (eI .u8) b)) rfl rfl rfl rfl) ?_
    refine al_op rfl (g_len rfl rfl rfl Tryz.underlying22 (isSl_sem rfl)) ?_
    refine al_op rfl (g_bin (u1 := .int .i64 ((msg_Head b).1)) (u2 := .int .i64 (b.length : Int)) (v := .bool (!(decide (((msg_Head b).1 : Int) = (b.length : Int))))) rfl rfl rfl rfl rfl (fun _ => rfl)) ?_
    refine al_op rfl (g_move (p := .sc (.bool (!(decide (((msg_Head b).1 : Int) = (b.length : Int)))))) rfl rfl rfl rfl) ?_
    refine al_gW (C := decide (((msg_Head b).1 : Int) = (b.length : Int))) (p := .sc (.int .i64 ((msg_Head b).1))) (gd_F (b := !(decide (((msg_Head b).1 : Int) = (b.length : Int)))) (c := decide (((msg_Head b).1 : Int) = (b.length : Int))) rfl rfl rfl rfl rfl (Bool.not_not _)) rfl rfl (fun g2 => g_move (p := .sc (.int .i64 ((msg_Head b).1))) rfl rfl rfl rfl) ?_
    refine al_gW (C := decide (((msg_Head b).1 : Int) = (b.length : Int))) (p := .sc (.bool (decide (((msg_Head b).1 : Int) = 0)))) (gd_F (b := !(decide (((msg_Head b).1 : Int) = (b.length : Int)))) (c := decide (((msg_Head b).1 : Int) = (b.length : Int))) rfl rfl rfl rfl rfl (Bool.not_not _)) rfl rfl (fun g3 => g_bin (u1 := .int .i64 ((msg_Head b).1)) (u2 := .int .i64 0) (v := .bool (decide (((msg_Head b).1 : Int) = 0))) rfl rfl rfl (gt (p := .sc (.int .i64 ((msg_Head b).1))) (q := .sc undef) g3) rfl (fun _ => rfl)) ?_
    refine al_op rfl (g_orU (b := !(decide (((msg_Head b).1 : Int) = (b.length : Int)))) (y := decide (((msg_Head b).1 : Int) = 0)) rfl rfl rfl rfl rfl (Bool.not_not _)) ?_
    refine al_op rfl (g_assign (p := .sc (.bool ((!(decide (((msg_Head b).1 : Int) = (b.length : Int)))) || (decide (((msg_Head b).1 : Int) = 0))))) rfl rfl rfl rfl) ?_
    refine al_nil ?_
    refine aw_cond (b := (!(decide (((msg_Head b).1 : Int) = (b.length : Int)))) || (decide (((msg_Head b).1 : Int) = 0))) rfl (fun k4 => ?_) (fun k4 => ?_)
    · skip
      refine aw_seq ?_
      refine aw_region ?_
      refine al_op rfl (g_build (parts := []) (pps := []) (qs := zc40) rfl rfl rfl bld40 rfl rfl (by kernel_rfl)) ?_
      refine al_op rfl (g_call (fn := Tryz.f16) (xs := [.const (.int .i64 1), .const (.int .i64 2), .const (.slice none 0 0)]) (args := [.sc (.int .i64 1), .sc (.int .i64 2), .sc (.slice none 0 0)]) (r := .agg (api_Note.cells (msg_wrong 1 2 []))) rfl rfl rfl Tryz.func16 rfl rfl rfl rfl rfl (pf_weak (msg_wrong_pf 1 2 []) (.cons (.one (.rfl _)) (.cons (.one (.rfl _)) (.cons (.one (.nil _)) .nil))))) ?_
      refine al_op rfl (g_store (s := 2) (off := 0) (ps := zc40) (p := .agg zc40) (qs := zc40) rfl rfl ty40 rfl rfl rfl rfl rfl rfl rfl) ?_
      refine al_op rfl (g_store (s := 3) (off := 0) (ps := zc38) (p := .agg (api_Note.cells (msg_wrong 1 2 []))) (qs := (api_Note.cells (msg_wrong 1 2 []))) rfl rfl ty38 rfl rfl rfl rfl rfl rfl rfl) ?_
      refine al_nil ?_
      refine aw_ret ?_
      exact endG_mk (F := (fun (z : api_Msg × api_Note) => ⟨[], [], .tup [.agg (api_Msg.cells z.1), .agg (api_Note.cells z.2)]⟩)) (z := (msg_DecodeA b)) (v := ((⟨0, (⟨0, 0, 0, (⟨false, 0, false, false, 0, false, false, false, 0⟩ : api_Caps)⟩ : api_Open), (⟨[], (⟨0, [], 0, 0, 0, [], []⟩ : api_Attrs), []⟩ : api_Update), (⟨0, 0, []⟩ : api_Note)⟩ : api_Msg), (msg_wrong 1 2 []))) (bF k1 (bT k4 rfl)) rfl (.two (.cell 2 40 2 25 true zc40 (.agg zc40) rfl rfl ty40 rfl rfl rfl) (.agg (.cons (.rfl _) (.cons (.rfl _) (.cons (.rfl _) (.cons (.rfl _) (.cons (.rfl _) (.cons (.rfl _) (.cons (.rfl _) (.cons (.rfl _) (.cons (.rfl _) (.cons (.rfl _) (.cons (.rfl _) (.cons (.rfl _) (.cons (.rfl _) (.cons (.nil _) (.cons (.rfl _) (.cons (.nil _) (.cons (.rfl _) (.cons (.rfl _) (.cons (.rfl _) (.cons (.nil _) (.cons (.nil _) (.cons (.nil _) (.cons (.rfl _) (.cons (.rfl _) (.cons (.nil _) .nil)))))))))))))))))))))))))) rfl (.cell 3 38 3 3 true (api_Note.cells (msg_wrong 1 2 [])) (.agg (api_Note.cells (msg_wrong 1 2 []))) rfl rfl ty38 rfl rfl rfl) (.one (.rfl _)) rfl) trivial trivial
    · skip
      refine aw_skip ?_
      refine aw_seq ?_
      refine aw_region ?_
      refine al_op rfl (g_move (p := .sem (SL (eI .u8) b)) rfl rfl rfl rfl) ?_
      refine al_op rfl (g_ix (E := (eI .u8)) (l := b) (n := 18) (ps := [.sc (.int .u8 (ix b 18))]) rfl rfl rfl Tryz.underlying22 ty5 (isSl_sem rfl) rfl (by first | omega | ((try simp only [z1, z2, z3, z4, z5, z6, z7, z8, z9, zA, zB, zC, zD, wrap64, wrapu8, wrapu16, wrapu32, wrapu64, tmod_ite, tdiv_ite, sub_len, msg_two_len, rep16_len] at *); omega) | ((try simp only [z1, z2, z3, z4, z5, z6, z7, z8, z9, zA, tmod_ite, tdiv_ite, sub_len, msg_two_len, rep16_len] at *); (try simp (disch := omega) only [wrap64_id]); (try simp only [z1, z2, z3, z4, z5, z6, z7, z8, z9, zA, zB, zC, zD, wrap64, wrapu8, wrapu16, wrapu32, wrapu64, tmod_ite, tdiv_ite, sub_len] at *); omega)) rfl) ?_
      refine al_op rfl (g_loadPT (ps := [.sc (.int .u8 (ix b 18))]) (p := .sc (.int .u8 (ix b 18))) rfl rfl rfl ty5 rfl rfl rfl rfl rfl) ?_
      refine al_op rfl (g_conv (m := (IntKind.wrap .i64 (ix b 18))) rfl rfl rfl Tryz.underlying5 Tryz.underlying3 rfl rfl) ?_
      refine al_op rfl (g_build (parts := [(0, .tmp 33)]) (pps := [(0, .sc (.int .i64 (IntKind.wrap .i64 (ix b 18))))]) (qs := [.sc (.int .i64 (IntKind.wrap .i64 (ix b 18))), .sc (.int .i64 0), .sc (.int .i64 0), .sc (.int .u32 0), .sc (.bool false), .sc (.int .i64 0), .sc (.bool false), .sc (.bool false), .sc (.int .i64 0), .sc (.bool false), .sc (.bool false), .sc (.bool false), .sc (.int .i64 0), .sc (.slice none 0 0), .sc (.int .i64 0), .sc (.slice none 0 0), .sc (.int .u32 0), .sc (.int .i64 0), .sc (.int .i64 0), .sc (.slice none 0 0), .sc (.slice none 0 0), .sc (.slice none 0 0), .sc (.int .i64 0), .sc (.int .i64 0), .sc (.slice none 0 0)]) rfl rfl rfl bld40 rfl rfl (by kernel_rfl)) ?_
      refine al_op rfl (g_alloc (s := 6) (z := zv40) (qs := zc40) rfl rfl rfl rfl z40 rfl rfl) ?_
      refine al_op rfl (g_store (s := 6) (off := 0) (ps := zc40) (p := .agg [.sc (.int .i64 (IntKind.wrap .i64 (ix b 18))), .sc (.int .i64 0), .sc (.int .i64 0), .sc (.int .u32 0), .sc (.bool false), .sc (.int .i64 0), .sc (.bool false), .sc (.bool false), .sc (.int .i64 0), .sc (.bool false), .sc (.bool false), .sc (.bool false), .sc (.int .i64 0), .sc (.slice none 0 0), .sc (.int .i64 0), .sc (.slice none 0 0), .sc (.int .u32 0), .sc (.int .i64 0), .sc (.int .i64 0), .sc (.slice none 0 0), .sc (.slice none 0 0), .sc (.slice none 0 0), .sc (.int .i64 0), .sc (.int .i64 0), .sc (.slice none 0 0)]) (qs := [.sc (.int .i64 (IntKind.wrap .i64 (ix b 18))), .sc (.int .i64 0), .sc (.int .i64 0), .sc (.int .u32 0), .sc (.bool false), .sc (.int .i64 0), .sc (.bool false), .sc (.bool false), .sc (.int .i64 0), .sc (.bool false), .sc (.bool false), .sc (.bool false), .sc (.int .i64 0), .sc (.slice none 0 0), .sc (.int .i64 0), .sc (.slice none 0 0), .sc (.int .u32 0), .sc (.int .i64 0), .sc (.int .i64 0), .sc (.slice none 0 0), .sc (.slice none 0 0), .sc (.slice none 0 0), .sc (.int .i64 0), .sc (.int .i64 0), .sc (.slice none 0 0)]) rfl rfl ty40 rfl rfl rfl rfl rfl rfl rfl) ?_
      refine al_nil ?_
      refine aw_seq ?_
      refine aw_region ?_
      refine al_op rfl (g_move (p := .sem (SL (eI .u8) b)) rfl rfl rfl rfl) ?_
      refine al_op rfl (step_slice (E := (eI .u8)) (l := b) (i := 19) (j := (b.length : Int)) rfl rfl rfl Tryz.underlying22 ty5 (isSl_sem rfl) (isB_some rfl) (isB_none rfl) (show 0 ≤ 19 ∧ 19 ≤ (b.length : Int) ∧ (b.length : Int) ≤ (b.length : Int) from (by first | omega | ((try simp only [z1, z2, z3, z4, z5, z6, z7, z8, z9, zA, zB, zC, zD, wrap64, wrapu8, wrapu16, wrapu32, wrapu64, tmod_ite, tdiv_ite, sub_len, msg_two_len, rep16_len] at *); omega) | ((try simp only [z1, z2, z3, z4, z5, z6, z7, z8, z9, zA, tmod_ite, tdiv_ite, sub_len, msg_two_len, rep16_len] at *); (try simp (disch := omega) only [wrap64_id]); (try simp only [z1, z2, z3, z4, z5, z6, z7, z8, z9, zA, zB, zC, zD, wrap64, wrapu8, wrapu16, wrapu32, wrapu64, tmod_ite, tdiv_ite, sub_len] at *); omega)))) ?_
      refine al_op rfl (g_assign (p := .sem (SL (eI .u8) (sub b 19 (b.length : Int)))) rfl rfl rfl rfl) ?_
      refine al_nil ?_
      refine aw_seq ?_
      refine aw_seq ?_
      refine aw_region ?_
      refine al_op rfl (g_fieldAddr (b := 6) (k := 0) (m := 0) rfl rfl rfl fld40_0 rfl rfl) ?_
      refine al_op rfl (g_load (s := 6) (off := 0) (ps := [.sc (.int .i64 (IntKind.wrap .i64 (ix b 18))), .sc (.int .i64 0), .sc (.int .i64 0), .sc (.int .u32 0), .sc (.bool false), .sc (.int .i64 0), .sc (.bool false), .sc (.bool false), .sc (.int .i64 0), .sc (.bool false), .sc (.bool false), .sc (.bool false), .sc (.int .i64 0), .sc (.slice none 0 0), .sc (.int .i64 0), .sc (.slice none 0 0), .sc (.int .u32 0), .sc (.int .i64 0), .sc (.int .i64 0), .sc (.slice none 0 0), .sc (.slice none 0 0), .sc (.slice none 0 0), .sc (.int .i64 0), .sc (.int .i64 0), .sc (.slice none 0 0)]) (p := .sc (.int .i64 (IntKind.wrap .i64 (ix b 18)))) rfl rfl rfl ty3 rfl rfl rfl rfl rfl) ?_
      refine al_nil ?_
      refine aw_block ?_
      refine aw_seq ?_
      refine aw_region ?_
      refine al_op rfl (g_bin (u1 := .int .i64 (IntKind.wrap .i64 (ix b 18))) (u2 := .int .i64 1) (v := .bool (decide (((IntKind.wrap .i64 (ix b 18)) : Int) = 1))) rfl rfl rfl rfl rfl (fun _ => rfl)) ?_
      refine al_op rfl (g_assign (p := .sc (.bool (decide (((IntKind.wrap .i64 (ix b 18)) : Int) = 1)))) rfl rfl rfl rfl) ?_
      refine al_nil ?_
      refine aw_cond (b := decide (((IntKind.wrap .i64 (ix b 18)) : Int) = 1)) rfl (fun h => absurd (h.symm.trans h1) (by decide)) (fun h => ?_)
      refine aw_seq ?_
      refine aw_region ?_
      refine al_op rfl (g_bin (u1 := .int .i64 (IntKind.wrap .i64 (ix b 18))) (u2 := .int .i64 2) (v := .bool (decide (((IntKind.wrap .i64 (ix b 18)) : Int) = 2))) rfl rfl rfl rfl rfl (fun _ => rfl)) ?_
      refine al_op rfl (g_assign (p := .sc (.bool (decide (((IntKind.wrap .i64 (ix b 18)) : Int) = 2)))) rfl rfl rfl rfl) ?_
      refine al_nil ?_
      refine aw_cond (b := decide (((IntKind.wrap .i64 (ix b 18)) : Int) = 2)) rfl (fun h => absurd (h.symm.trans h2) (by decide)) (fun h => ?_)
      refine aw_seq ?_
      refine aw_region ?_
      refine al_op rfl (g_bin (u1 := .int .i64 (IntKind.wrap .i64 (ix b 18))) (u2 := .int .i64 3) (v := .bool (decide (((IntKind.wrap .i64 (ix b 18)) : Int) = 3))) rfl rfl rfl rfl rfl (fun _ => rfl)) ?_
      refine al_op rfl (g_assign (p := .sc (.bool (decide (((IntKind.wrap .i64 (ix b 18)) : Int) = 3)))) rfl rfl rfl rfl) ?_
      refine al_nil ?_
      refine aw_cond (b := decide (((IntKind.wrap .i64 (ix b 18)) : Int) = 3)) rfl (fun h => absurd (h.symm.trans h3) (by decide)) (fun h => ?_)
      refine aw_skip ?_
      refine aw_seq ?_
      refine aw_seq ?_
      refine aw_region ?_
      refine al_op rfl (g_fieldAddr (b := 5) (k := 0) (m := 0) rfl rfl rfl fld38_0 rfl rfl) ?_
      refine al_op rfl (g_load (s := 5) (off := 0) (ps := (api_Note.cells ((msg_Head b).2))) (p := .sc (.int .i64 (((msg_Head b).2).fCode))) rfl rfl rfl ty3 rfl rfl rfl rfl rfl) ?_
      refine al_op rfl (g_bin (u1 := .int .i64 (((msg_Head b).2).fCode)) (u2 := .int .i64 0) (v := .bool (!(decide ((((msg_Head b).2).fCode : Int) = 0)))) rfl rfl rfl rfl rfl (fun _ => rfl)) ?_
      refine al_nil ?_
      refine aw_cond (b := !(decide ((((msg_Head b).2).fCode : Int) = 0))) rfl (fun h => absurd (h.symm.trans k1) (by decide)) (fun h => ?_)
      refine aw_skip ?_
      refine aw_seq ?_
      refine aw_region ?_
      refine al_op rfl (g_load (s := 6) (off := 0) (ps := [.sc (.int .i64 (IntKind.wrap .i64 (ix b 18))), .sc (.int .i64 0), .sc (.int .i64 0), .sc (.int .u32 0), .sc (.bool false), .sc (.int .i64 0), .sc (.bool false), .sc (.bool false), .sc (.int .i64 0), .sc (.bool false), .sc (.bool false), .sc (.bool false), .sc (.int .i64 0), .sc (.slice none 0 0), .sc (.int .i64 0), .sc (.slice none 0 0), .sc (.int .u32 0), .sc (.int .i64 0), .sc (.int .i64 0), .sc (.slice none 0 0), .sc (.slice none 0 0), .sc (.slice none 0 0), .sc (.int .i64 0), .sc (.int .i64 0), .sc (.slice none 0 0)]) (p := .agg [.sc (.int .i64 (IntKind.wrap .i64 (ix b 18))), .sc (.int .i64 0), .sc (.int .i64 0), .sc (.int .u32 0), .sc (.bool false), .sc (.int .i64 0), .sc (.bool false), .sc (.bool false), .sc (.int .i64 0), .sc (.bool false), .sc (.bool false), .sc (.bool false), .sc (.int .i64 0), .sc (.slice none 0 0), .sc (.int .i64 0), .sc (.slice none 0 0), .sc (.int .u32 0), .sc (.int .i64 0), .sc (.int .i64 0), .sc (.slice none 0 0), .sc (.slice none 0 0), .sc (.slice none 0 0), .sc (.int .i64 0), .sc (.int .i64 0), .sc (.slice none 0 0)]) rfl rfl rfl ty40 rfl rfl rfl rfl rfl) ?_
      refine al_op rfl (g_build (parts := []) (pps := []) (qs := zc38) rfl rfl rfl bld38 rfl rfl (by kernel_rfl)) ?_
      refine al_op rfl (g_store (s := 2) (off := 0) (ps := zc40) (p := .agg [.sc (.int .i64 (IntKind.wrap .i64 (ix b 18))), .sc (.int .i64 0), .sc (.int .i64 0), .sc (.int .u32 0), .sc (.bool false), .sc (.int .i64 0), .sc (.bool false), .sc (.bool false), .sc (.int .i64 0), .sc (.bool false), .sc (.bool false), .sc (.bool false), .sc (.int .i64 0), .sc (.slice none 0 0), .sc (.int .i64 0), .sc (.slice none 0 0), .sc (.int .u32 0), .sc (.int .i64 0), .sc (.int .i64 0), .sc (.slice none 0 0), .sc (.slice none 0 0), .sc (.slice none 0 0), .sc (.int .i64 0), .sc (.int .i64 0), .sc (.slice none 0 0)]) (qs := [.sc (.int .i64 (IntKind.wrap .i64 (ix b 18))), .sc (.int .i64 0), .sc (.int .i64 0), .sc (.int .u32 0), .sc (.bool false), .sc (.int .i64 0), .sc (.bool false), .sc (.bool false), .sc (.int .i64 0), .sc (.bool false), .sc (.bool false), .sc (.bool false), .sc (.int .i64 0), .sc (.slice none 0 0), .sc (.int .i64 0), .sc (.slice none 0 0), .sc (.int .u32 0), .sc (.int .i64 0), .sc (.int .i64 0), .sc (.slice none 0 0), .sc (.slice none 0 0), .sc (.slice none 0 0), .sc (.int .i64 0), .sc (.int .i64 0), .sc (.slice none 0 0)]) rfl rfl ty40 rfl rfl rfl rfl rfl rfl rfl) ?_
      refine al_op rfl (g_store (s := 3) (off := 0) (ps := zc38) (p := .agg zc38) (qs := zc38) rfl rfl ty38 rfl rfl rfl rfl rfl rfl rfl) ?_
      refine al_nil ?_
      refine aw_ret ?_
      exact endG_mk (F := (fun (z : api_Msg × api_Note) => ⟨[], [], .tup [.agg (api_Msg.cells z.1), .agg (api_Note.cells z.2)]⟩)) (z := (msg_DecodeA b)) (v := ((⟨(IntKind.wrap .i64 (ix b 18)), (⟨0, 0, 0, (⟨false, 0, false, false, 0, false, false, false, 0⟩ : api_Caps)⟩ : api_Open), (⟨[], (⟨0, [], 0, 0, 0, [], []⟩ : api_Attrs), []⟩ : api_Update), (⟨0, 0, []⟩ : api_Note)⟩ : api_Msg), (⟨0, 0, []⟩ : api_Note))) (bF k1 (bF k4 rfl)) rfl (.two (.cell 2 40 2 25 true [.sc (.int .i64 (IntKind.wrap .i64 (ix b 18))), .sc (.int .i64 0), .sc (.int .i64 0), .sc (.int .u32 0), .sc (.bool false), .sc (.int .i64 0), .sc (.bool false), .sc (.bool false), .sc (.int .i64 0), .sc (.bool false), .sc (.bool false), .sc (.bool false), .sc (.int .i64 0), .sc (.slice none 0 0), .sc (.int .i64 0), .sc (.slice none 0 0), .sc (.int .u32 0), .sc (.int .i64 0), .sc (.int .i64 0), .sc (.slice none 0 0), .sc (.slice none 0 0), .sc (.slice none 0 0), .sc (.int .i64 0), .sc (.int .i64 0), .sc (.slice none 0 0)] (.agg [.sc (.int .i64 (IntKind.wrap .i64 (ix b 18))), .sc (.int .i64 0), .sc (.int .i64 0), .sc (.int .u32 0), .sc (.bool false), .sc (.int .i64 0), .sc (.bool false), .sc (.bool false), .sc (.int .i64 0), .sc (.bool false), .sc (.bool false), .sc (.bool false), .sc (.int .i64 0), .sc (.slice none 0 0), .sc (.int .i64 0), .sc (.slice none 0 0), .sc (.int .u32 0), .sc (.int .i64 0), .sc (.int .i64 0), .sc (.slice none 0 0), .sc (.slice none 0 0), .sc (.slice none 0 0), .sc (.int .i64 0), .sc (.int .i64 0), .sc (.slice none 0 0)]) rfl rfl ty40 rfl rfl rfl) (.agg (.cons (.rfl _) (.cons (.rfl _) (.cons (.rfl _) (.cons (.rfl _) (.cons (.rfl _) (.cons (.rfl _) (.cons (.rfl _) (.cons (.rfl _) (.cons (.rfl _) (.cons (.rfl _) (.cons (.rfl _) (.cons (.rfl _) (.cons (.rfl _) (.cons (.nil _) (.cons (.rfl _) (.cons (.nil _) (.cons (.rfl _) (.cons (.rfl _) (.cons (.rfl _) (.cons (.nil _) (.cons (.nil _) (.cons (.nil _) (.cons (.rfl _) (.cons (.rfl _) (.cons (.nil _) .nil)))))))))))))))))))))))))) rfl (.cell 3 38 3 3 true zc38 (.agg zc38) rfl rfl ty38 rfl rfl rfl) (.agg (.cons (.rfl _) (.cons (.rfl _) (.cons (.nil _) .nil)))) rfl) trivial trivial
theorem msg_DecodeA_pf (b : List Int) (h1 : (decide (((IntKind.wrap .i64 (ix b 18)) : Int) = 1)) = false) (h2 : (decide (((IntKind.wrap .i64 (ix b 18)) : Int) = 2)) = false) (h3 : (decide (((IntKind.wrap .i64 (ix b 18)) : Int) = 3)) = false) (h0 : 19 ≤ b.length) : PF Tryz.prog 7 [.sem (SL (eI .u8) b)] (.tup [.agg (api_Msg.cells ((msg_DecodeA b).1)), .agg (api_Note.cells ((msg_DecodeA b).2))]) := pf_ofG (msg_DecodeA_pf_g b h1 h2 h3 h0) rfl

/-- interregnum/msg.Decode -/
def msg_DecodeB (b : List Int) : api_Msg × api_Note :=
  ((⟨0, (⟨0, 0, 0, (⟨false, 0, false, false, 0, false, false, false, 0⟩ : api_Caps)⟩ : api_Open), (⟨[], (⟨0, [], 0, 0, 0, [], []⟩ : api_Attrs), []⟩ : api_Update), (⟨0, 0, []⟩ : api_Note)⟩ : api_Msg), ((msg_Head b).2))
set_option maxRecDepth 100000 in
set_option maxHeartbeats 4000000 in
theorem msg_DecodeB_pf_g (b : List Int) (h1 : (decide ((((msg_Head b).2).fCode : Int) = 0)) = false) : PG Tryz.prog 7 [] [] [.sem (SL (eI .u8) b)] (fun _ : Unit => True) (fun _ => (fun (z : api_Msg × api_Note) => ⟨[], [], .tup [.agg (api_Msg.cells z.1), .agg (api_Note.cells z.2)]⟩) (msg_DecodeB b)) := by
  refine pg_of (N := 77) (l := [.cell 2 40, .cell 3 38]) Tryz.func7 rfl rfl rfl (Nat.le_of_ble_eq_true rfl) fun w0 i0 F βs => ?_
  refine aw_seq ?_
  refine aw_region ?_
  refine al_op rfl (g_alloc (s := 2) (z := zv40) (qs := zc40) rfl rfl rfl rfl z40 rfl rfl) ?_
  refine al_op rfl (g_alloc (s := 3) (z := zv38) (qs := zc38) rfl rfl rfl rfl z38 rfl rfl) ?_
  refine al_nil ?_
  refine aw_seq ?_
  refine aw_region ?_
  refine al_op rfl (g_move (p := .sem (SL (eI .u8) b)) rfl rfl rfl rfl) ?_
  refine al_op rfl (g_call (fn := Tryz.f11) (xs := [.tmp 9]) (args := [.sem (SL (eI .u8) b)]) (r := .tup [.sc (.int .i64 ((msg_Head b).1)), .agg (api_Note.cells ((msg_Head b).2))]) rfl rfl rfl Tryz.func11 rfl rfl rfl rfl rfl (msg_Head_pf b)) ?_
  refine al_op rfl (g_move (p := .tup [.sc (.int .i64 ((msg_Head b).1)), .agg (api_Note.cells ((msg_Head b).2))]) rfl rfl rfl rfl) ?_
  refine al_op rfl (g_extract (ps := [.sc (.int .i64 ((msg_Head b).1)), .agg (api_Note.cells ((msg_Head b).2))]) (p := .sc (.int .i64 ((msg_Head b).1))) rfl rfl rfl rfl rfl) ?_
  refine al_op rfl (g_extract (ps := [.sc (.int .i64 ((msg_Head b).1)), .agg (api_Note.cells ((msg_Head b).2))]) (p := .agg (api_Note.cells ((msg_Head b).2))) rfl rfl rfl rfl rfl) ?_
  refine al_op rfl (g_alloc (s := 5) (z := zv38) (qs := zc38) rfl rfl rfl rfl z38 rfl rfl) ?_
  refine al_op rfl (g_assign (p := .sc (.int .i64 ((msg_Head b).1))) rfl rfl rfl rfl) ?_
  refine al_op rfl (g_store (s := 5) (off := 0) (ps := zc38) (p := .agg (api_Note.cells ((msg_Head b).2))) (qs := (api_Note.cells ((msg_Head b).2))) rfl rfl ty38 rfl rfl rfl rfl rfl rfl rfl) ?_
  refine al_nil ?_
  refine aw_seq ?_
  refine aw_block ?_
  refine aw_seq ?_
  refine aw_region ?_
  refine al_op rfl (g_fieldAddr (b := 5) (k := 0) (m := 0) rfl rfl rfl fld38_0 rfl rfl) ?_
  refine al_op rfl (g_load (s := 5) (off := 0) (ps := (api_Note.cells ((msg_Head b).2))) (p := .sc (.int .i64 (((msg_Head b).2).fCode))) rfl rfl rfl ty3 rfl rfl rfl rfl rfl) ?_
  refine al_op rfl (g_bin (u1 := .int .i64 (((msg_Head b).2).fCode)) (u2 := .int .i64 0) (v := .bool (!(decide ((((msg_Head b).2).fCode : Int) = 0)))) rfl rfl rfl rfl rfl (fun _ => rfl)) ?_
  refine al_op rfl (g_assign (p := .sc (.bool (!(decide ((((msg_Head b).2).fCode : Int) = 0))))) rfl rfl rfl rfl) ?_
  refine al_nil ?_
  refine aw_cond (b := !(decide ((((msg_Head b).2).fCode : Int) = 0))) rfl (fun h => ?_) (fun h => absurd (h.symm.trans (nT h1)) (by decide))
  refine aw_seq ?_
  refine aw_plan { ds := [some 17, some 18, none, none], p := fun i => [.agg zc40, .agg (api_Note.cells ((msg_Head b).2)), .any, .any].getD i .any, al := [], st := [(2, 2, 0, zc40), (3, 3, 0, (api_Note.cells ((msg_Head b).2)))] } rfl (by kernel_rfl) rfl rfl ?_ (fun bD hb => ?_)
  · refine ⟨fun bD hc hi hd => ?_, fun bD hc hi hd => ?_, fun bD hc hi hd => ?_, fun bD hc hi hd => ?_, trivial⟩
    · exact Plan.putStep (i := 0) (q := .agg zc40) rfl rfl rfl (gs_plain rfl (g_build (parts := []) (pps := []) (qs := zc40) rfl rfl rfl bld40 rfl rfl (by kernel_rfl)))
    · exact Plan.putStep (i := 1) (q := .agg (api_Note.cells ((msg_Head b).2))) rfl rfl rfl (gs_plain rfl (g_load (s := 5) (off := 0) (ps := (api_Note.cells ((msg_Head b).2))) (p := .agg (api_Note.cells ((msg_Head b).2))) rfl rfl rfl ty38 rfl rfl rfl rfl rfl))
    · exact pl_store (i := 2) (s := 2) (off := 0) (ps0 := zc40) (ps := zc40) (qs := zc40) (p := .agg zc40) 0 hc hd rfl rfl rfl ty40 rfl (gt (p := .agg zc40) (q := .any) (hd 0 (by decide))) (by exact planL0_old (ps := zc40) rfl rfl) rfl rfl rfl rfl rfl rfl rfl hi rfl rfl (by kernel_rfl) (by kernel_rfl)
    · exact pl_store (i := 3) (s := 3) (off := 0) (ps0 := zc38) (ps := zc38) (qs := (api_Note.cells ((msg_Head b).2))) (p := .agg (api_Note.cells ((msg_Head b).2))) 1 hc hd rfl rfl rfl ty38 rfl (gt (p := .agg (api_Note.cells ((msg_Head b).2))) (q := .any) (hd 1 (by decide))) (by exact planL0_old (ps := zc38) rfl rfl) rfl rfl rfl rfl rfl rfl rfl hi rfl rfl (by kernel_rfl) (by kernel_rfl)
  obtain rfl : bD = fun _ => true := funext hb
  refine aw_ret ?_
  exact endG_mk (F := (fun (z : api_Msg × api_Note) => ⟨[], [], .tup [.agg (api_Msg.cells z.1), .agg (api_Note.cells z.2)]⟩)) (z := (msg_DecodeB b)) (v := ((⟨0, (⟨0, 0, 0, (⟨false, 0, false, false, 0, false, false, false, 0⟩ : api_Caps)⟩ : api_Open), (⟨[], (⟨0, [], 0, 0, 0, [], []⟩ : api_Attrs), []⟩ : api_Update), (⟨0, 0, []⟩ : api_Note)⟩ : api_Msg), ((msg_Head b).2))) rfl rfl (.two (.cell 2 40 2 25 true zc40 (.agg zc40) rfl rfl ty40 rfl rfl rfl) (.agg (.cons (.rfl _) (.cons (.rfl _) (.cons (.rfl _) (.cons (.rfl _) (.cons (.rfl _) (.cons (.rfl _) (.cons (.rfl _) (.cons (.rfl _) (.cons (.rfl _) (.cons (.rfl _) (.cons (.rfl _) (.cons (.rfl _) (.cons (.rfl _) (.cons (.nil _) (.cons (.rfl _) (.cons (.nil _) (.cons (.rfl _) (.cons (.rfl _) (.cons (.rfl _) (.cons (.nil _) (.cons (.nil _) (.cons (.nil _) (.cons (.rfl _) (.cons (.rfl _) (.cons (.nil _) .nil)))))))))))))))))))))))))) rfl (.cell 3 38 3 3 true (api_Note.cells ((msg_Head b).2)) (.agg (api_Note.cells ((msg_Head b).2))) rfl rfl ty38 rfl rfl rfl) (.one (.rfl _)) rfl) trivial trivial
theorem msg_DecodeB_pf (b : List Int) (h1 : (decide ((((msg_Head b).2).fCode : Int) = 0)) = false) : PF Tryz.prog 7 [.sem (SL (eI .u8) b)] (.tup [.agg (api_Msg.cells ((msg_DecodeB b).1)), .agg (api_Note.cells ((msg_DecodeB b).2))]) := pf_ofG (msg_DecodeB_pf_g b h1) rfl

/-- interregnum/interregnumlaw09.answers -/
def law09_answers  : Bool :=
  ((((decide ((((msg_Encode (⟨4, (⟨0, 0, 0, (⟨false, 0, false, false, 0, false, false, false, 0⟩ : api_Caps)⟩ : api_Open), (⟨[], (⟨0, [], 0, 0, 0, [], []⟩ : api_Attrs), []⟩ : api_Update), (⟨0, 0, []⟩ : api_Note)⟩ : api_Msg)).length : Int) : Int) = 19)) && (decide ((((msg_DecodeA (msg_Encode (⟨4, (⟨0, 0, 0, (⟨false, 0, false, false, 0, false, false, false, 0⟩ : api_Caps)⟩ : api_Open), (⟨[], (⟨0, [], 0, 0, 0, [], []⟩ : api_Attrs), []⟩ : api_Update), (⟨0, 0, []⟩ : api_Note)⟩ : api_Msg))).2).fCode : Int) = 0))) && (decide ((((msg_DecodeA (msg_Encode (⟨4, (⟨0, 0, 0, (⟨false, 0, false, false, 0, false, false, false, 0⟩ : api_Caps)⟩ : api_Open), (⟨[], (⟨0, [], 0, 0, 0, [], []⟩ : api_Attrs), []⟩ : api_Update), (⟨0, 0, []⟩ : api_Note)⟩ : api_Msg))).1).fKind : Int) = 4))) && (decide (((msg_Head (msg_Encode (⟨4, (⟨0, 0, 0, (⟨false, 0, false, false, 0, false, false, false, 0⟩ : api_Caps)⟩ : api_Open), (⟨[], (⟨0, [], 0, 0, 0, [], []⟩ : api_Attrs), []⟩ : api_Update), (⟨0, 0, []⟩ : api_Note)⟩ : api_Msg))).1 : Int) = 19))) && (decide ((((msg_Head (msg_Encode (⟨4, (⟨0, 0, 0, (⟨false, 0, false, false, 0, false, false, false, 0⟩ : api_Caps)⟩ : api_Open), (⟨[], (⟨0, [], 0, 0, 0, [], []⟩ : api_Attrs), []⟩ : api_Update), (⟨0, 0, []⟩ : api_Note)⟩ : api_Msg))).2).fCode : Int) = 0))
set_option maxRecDepth 100000 in
set_option maxHeartbeats 4000000 in
theorem law09_answers_pf_g  : PG Tryz.prog 6 [] [] [] (fun _ : Unit => True) (fun _ => (fun (z : Bool) => ⟨[], [], .sc (.bool z)⟩) law09_answers) := by
  refine pg_of (N := 40) (l := [.tmp 0]) Tryz.func6 rfl rfl rfl (Nat.le_of_ble_eq_true rfl) fun w0 i0 F βs => ?_
  refine aw_seq ?_
  refine aw_region ?_
  refine al_op rfl (g_assign (p := .sc (.bool false)) rfl rfl rfl rfl) ?_
  refine al_nil ?_
  refine aw_seq ?_
  refine aw_region ?_
  refine al_op rfl (g_build (parts := [(0, .const (.int .i64 4))]) (pps := [(0, .sc (.int .i64 4))]) (qs := [.sc (.int .i64 4), .sc (.int .i64 0), .sc (.int .i64 0), .sc (.int .u32 0), .sc (.bool false), .sc (.int .i64 0), .sc (.bool false), .sc (.bool false), .sc (.int .i64 0), .sc (.bool false), .sc (.bool false), .sc (.bool false), .sc (.int .i64 0), .sc (.slice none 0 0), .sc (.int .i64 0), .sc (.slice none 0 0), .sc (.int .u32 0), .sc (.int .i64 0), .sc (.int .i64 0), .sc (.slice none 0 0), .sc (.slice none 0 0), .sc (.slice none 0 0), .sc (.int .i64 0), .sc (.int .i64 0), .sc (.slice none 0 0)]) rfl rfl rfl bld40 rfl rfl (by kernel_rfl)) ?_
  refine al_op rfl (g_call (fn := Tryz.f15) (xs := [.tmp 6]) (args := [.agg [.sc (.int .i64 4), .sc (.int .i64 0), .sc (.int .i64 0), .sc (.int .u32 0), .sc (.bool false), .sc (.int .i64 0), .sc (.bool false), .sc (.bool false), .sc (.int .i64 0), .sc (.bool false), .sc (.bool false), .sc (.bool false), .sc (.int .i64 0), .sc (.slice none 0 0), .sc (.int .i64 0), .sc (.slice none 0 0), .sc (.int .u32 0), .sc (.int .i64 0), .sc (.int .i64 0), .sc (.slice none 0 0), .sc (.slice none 0 0), .sc (.slice none 0 0), .sc (.int .i64 0), .sc (.int .i64 0), .sc (.slice none 0 0)]]) (r := .sem (SL (eI .u8) (msg_Encode (⟨4, (⟨0, 0, 0, (⟨false, 0, false, false, 0, false, false, false, 0⟩ : api_Caps)⟩ : api_Open), (⟨[], (⟨0, [], 0, 0, 0, [], []⟩ : api_Attrs), []⟩ : api_Update), (⟨0, 0, []⟩ : api_Note)⟩ : api_Msg)))) rfl rfl rfl Tryz.func15 rfl rfl rfl rfl rfl (pf_weak (msg_Encode_pf (⟨4, (⟨0, 0, 0, (⟨false, 0, false, false, 0, false, false, false, 0⟩ : api_Caps)⟩ : api_Open), (⟨[], (⟨0, [], 0, 0, 0, [], []⟩ : api_Attrs), []⟩ : api_Update), (⟨0, 0, []⟩ : api_Note)⟩ : api_Msg) (by first | assumption | rfl) (by first | assumption | rfl) (by first | assumption | (simp; done) | omega | (show List.length _ ≤ _; simp only [List.length_replicate, wrap64, tmod_ite]; omega))) (.cons (.agg (.cons (.rfl _) (.cons (.rfl _) (.cons (.rfl _) (.cons (.rfl _) (.cons (.rfl _) (.cons (.rfl _) (.cons (.rfl _) (.cons (.rfl _) (.cons (.rfl _) (.cons (.rfl _) (.cons (.rfl _) (.cons (.rfl _) (.cons (.rfl _) (.cons (.nil _) (.cons (.rfl _) (.cons (.nil _) (.cons (.rfl _) (.cons (.rfl _) (.cons (.rfl _) (.cons (.nil _) (.cons (.nil _) (.cons (.nil _) (.cons (.rfl _) (.cons (.rfl _) (.cons (.nil _) .nil)))))))))))))))))))))))))) .nil))) ?_
  refine al_op rfl (g_assign (p := .sem (SL (eI .u8) (msg_Encode (⟨4, (⟨0, 0, 0, (⟨false, 0, false, false, 0, false, false, false, 0⟩ : api_Caps)⟩ : api_Open), (⟨[], (⟨0, [], 0, 0, 0, [], []⟩ : api_Attrs), []⟩ : api_Update), (⟨0, 0, []⟩ : api_Note)⟩ : api_Msg)))) rfl rfl rfl rfl) ?_
  refine al_nil ?_
  refine aw_seq ?_
  refine aw_region ?_
  refine al_op rfl (g_move (p := .sem (SL (eI .u8) (msg_Encode (⟨4, (⟨0, 0, 0, (⟨false, 0, false, false, 0, false, false, false, 0⟩ : api_Caps)⟩ : api_Open), (⟨[], (⟨0, [], 0, 0, 0, [], []⟩ : api_Attrs), []⟩ : api_Update), (⟨0, 0, []⟩ : api_Note)⟩ : api_Msg)))) rfl rfl rfl rfl) ?_
  refine al_op rfl (g_call (fn := Tryz.f7) (xs := [.tmp 9]) (args := [.sem (SL (eI .u8) (msg_Encode (⟨4, (⟨0, 0, 0, (⟨false, 0, false, false, 0, false, false, false, 0⟩ : api_Caps)⟩ : api_Open), (⟨[], (⟨0, [], 0, 0, 0, [], []⟩ : api_Attrs), []⟩ : api_Update), (⟨0, 0, []⟩ : api_Note)⟩ : api_Msg)))]) (r := .tup [.agg (api_Msg.cells ((msg_DecodeA (msg_Encode (⟨4, (⟨0, 0, 0, (⟨false, 0, false, false, 0, false, false, false, 0⟩ : api_Caps)⟩ : api_Open), (⟨[], (⟨0, [], 0, 0, 0, [], []⟩ : api_Attrs), []⟩ : api_Update), (⟨0, 0, []⟩ : api_Note)⟩ : api_Msg))).1)), .agg (api_Note.cells ((msg_DecodeA (msg_Encode (⟨4, (⟨0, 0, 0, (⟨false, 0, false, false, 0, false, false, false, 0⟩ : api_Caps)⟩ : api_Open), (⟨[], (⟨0, [], 0, 0, 0, [], []⟩ : api_Attrs), []⟩ : api_Update), (⟨0, 0, []⟩ : api_Note)⟩ : api_Msg))).2))]) rfl rfl rfl Tryz.func7 rfl rfl rfl rfl rfl (msg_DecodeA_pf (msg_Encode (⟨4, (⟨0, 0, 0, (⟨false, 0, false, false, 0, false, false, false, 0⟩ : api_Caps)⟩ : api_Open), (⟨[], (⟨0, [], 0, 0, 0, [], []⟩ : api_Attrs), []⟩ : api_Update), (⟨0, 0, []⟩ : api_Note)⟩ : api_Msg)) (by first | assumption | kernel_rfl | decide) (by first | assumption | kernel_rfl | decide) (by first | assumption | kernel_rfl | decide) (by first | assumption | kernel_rfl | decide))) ?_
  refine al_op rfl (g_move (p := .tup [.agg (api_Msg.cells ((msg_DecodeA (msg_Encode (⟨4, (⟨0, 0, 0, (⟨false, 0, false, false, 0, false, false, false, 0⟩ : api_Caps)⟩ : api_Open), (⟨[], (⟨0, [], 0, 0, 0, [], []⟩ : api_Attrs), []⟩ : api_Update), (⟨0, 0, []⟩ : api_Note)⟩ : api_Msg))).1)), .agg (api_Note.cells ((msg_DecodeA (msg_Encode (⟨4, (⟨0, 0, 0, (⟨false, 0, false, false, 0, false, false, false, 0⟩ : api_Caps)⟩ : api_Open), (⟨[], (⟨0, [], 0, 0, 0, [], []⟩ : api_Attrs), []⟩ : api_Update), (⟨0, 0, []⟩ : api_Note)⟩ : api_Msg))).2))]) rfl rfl rfl rfl) ?_
  refine al_op rfl (g_extract (ps := [.agg (api_Msg.cells ((msg_DecodeA (msg_Encode (⟨4, (⟨0, 0, 0, (⟨false, 0, false, false, 0, false, false, false, 0⟩ : api_Caps)⟩ : api_Open), (⟨[], (⟨0, [], 0, 0, 0, [], []⟩ : api_Attrs), []⟩ : api_Update), (⟨0, 0, []⟩ : api_Note)⟩ : api_Msg))).1)), .agg (api_Note.cells ((msg_DecodeA (msg_Encode (⟨4, (⟨0, 0, 0, (⟨false, 0, false, false, 0, false, false, false, 0⟩ : api_Caps)⟩ : api_Open), (⟨[], (⟨0, [], 0, 0, 0, [], []⟩ : api_Attrs), []⟩ : api_Update), (⟨0, 0, []⟩ : api_Note)⟩ : api_Msg))).2))]) (p := .agg (api_Msg.cells ((msg_DecodeA (msg_Encode (⟨4, (⟨0, 0, 0, (⟨false, 0, false, false, 0, false, false, false, 0⟩ : api_Caps)⟩ : api_Open), (⟨[], (⟨0, [], 0, 0, 0, [], []⟩ : api_Attrs), []⟩ : api_Update), (⟨0, 0, []⟩ : api_Note)⟩ : api_Msg))).1))) rfl rfl rfl rfl rfl) ?_
  refine al_op rfl (g_extract (ps := [.agg (api_Msg.cells ((msg_DecodeA (msg_Encode (⟨4, (⟨0, 0, 0, (⟨false, 0, false, false, 0, false, false, false, 0⟩ : api_Caps)⟩ : api_Open), (⟨[], (⟨0, [], 0, 0, 0, [], []⟩ : api_Attrs), []⟩ : api_Update), (⟨0, 0, []⟩ : api_Note)⟩ : api_Msg))).1)), .agg (api_Note.cells ((msg_DecodeA (msg_Encode (⟨4, (⟨0, 0, 0, (⟨false, 0, false, false, 0, false, false, false, 0⟩ : api_Caps)⟩ : api_Open), (⟨[], (⟨0, [], 0, 0, 0, [], []⟩ : api_Attrs), []⟩ : api_Update), (⟨0, 0, []⟩ : api_Note)⟩ : api_Msg))).2))]) (p := .agg (api_Note.cells ((msg_DecodeA (msg_Encode (⟨4, (⟨0, 0, 0, (⟨false, 0, false, false, 0, false, false, false, 0⟩ : api_Caps)⟩ : api_Open), (⟨[], (⟨0, [], 0, 0, 0, [], []⟩ : api_Attrs), []⟩ : api_Update), (⟨0, 0, []⟩ : api_Note)⟩ : api_Msg))).2))) rfl rfl rfl rfl rfl) ?_
  refine al_op rfl (g_alloc (s := 2) (z := zv40) (qs := zc40) rfl rfl rfl rfl z40 rfl rfl) ?_
  refine al_op rfl (g_alloc (s := 3) (z := zv38) (qs := zc38) rfl rfl rfl rfl z38 rfl rfl) ?_
  refine al_op rfl (g_store (s := 2) (off := 0) (ps := zc40) (p := .agg (api_Msg.cells ((msg_DecodeA (msg_Encode (⟨4, (⟨0, 0, 0, (⟨false, 0, false, false, 0, false, false, false, 0⟩ : api_Caps)⟩ : api_Open), (⟨[], (⟨0, [], 0, 0, 0, [], []⟩ : api_Attrs), []⟩ : api_Update), (⟨0, 0, []⟩ : api_Note)⟩ : api_Msg))).1))) (qs := (api_Msg.cells ((msg_DecodeA (msg_Encode (⟨4, (⟨0, 0, 0, (⟨false, 0, false, false, 0, false, false, false, 0⟩ : api_Caps)⟩ : api_Open), (⟨[], (⟨0, [], 0, 0, 0, [], []⟩ : api_Attrs), []⟩ : api_Update), (⟨0, 0, []⟩ : api_Note)⟩ : api_Msg))).1))) rfl rfl ty40 rfl rfl rfl rfl rfl rfl rfl) ?_
  refine al_op rfl (g_store (s := 3) (off := 0) (ps := zc38) (p := .agg (api_Note.cells ((msg_DecodeA (msg_Encode (⟨4, (⟨0, 0, 0, (⟨false, 0, false, false, 0, false, false, false, 0⟩ : api_Caps)⟩ : api_Open), (⟨[], (⟨0, [], 0, 0, 0, [], []⟩ : api_Attrs), []⟩ : api_Update), (⟨0, 0, []⟩ : api_Note)⟩ : api_Msg))).2))) (qs := (api_Note.cells ((msg_DecodeA (msg_Encode (⟨4, (⟨0, 0, 0, (⟨false, 0, false, false, 0, false, false, false, 0⟩ : api_Caps)⟩ : api_Open), (⟨[], (⟨0, [], 0, 0, 0, [], []⟩ : api_Attrs), []⟩ : api_Update), (⟨0, 0, []⟩ : api_Note)⟩ : api_Msg))).2))) rfl rfl ty38 rfl rfl rfl rfl rfl rfl rfl) ?_
  refine al_nil ?_
  refine aw_seq ?_
  refine aw_region ?_
  refine al_op rfl (g_move (p := .sem (SL (eI .u8) (msg_Encode (⟨4, (⟨0, 0, 0, (⟨false, 0, false, false, 0, false, false, false, 0⟩ : api_Caps)⟩ : api_Open), (⟨[], (⟨0, [], 0, 0, 0, [], []⟩ : api_Attrs), []⟩ : api_Update), (⟨0, 0, []⟩ : api_Note)⟩ : api_Msg)))) rfl rfl rfl rfl) ?_
  refine al_op rfl (g_call (fn := Tryz.f11) (xs := [.tmp 14]) (args := [.sem (SL (eI .u8) (msg_Encode (⟨4, (⟨0, 0, 0, (⟨false, 0, false, false, 0, false, false, false, 0⟩ : api_Caps)⟩ : api_Open), (⟨[], (⟨0, [], 0, 0, 0, [], []⟩ : api_Attrs), []⟩ : api_Update), (⟨0, 0, []⟩ : api_Note)⟩ : api_Msg)))]) (r := .tup [.sc (.int .i64 ((msg_Head (msg_Encode (⟨4, (⟨0, 0, 0, (⟨false, 0, false, false, 0, false, false, false, 0⟩ : api_Caps)⟩ : api_Open), (⟨[], (⟨0, [], 0, 0, 0, [], []⟩ : api_Attrs), []⟩ : api_Update), (⟨0, 0, []⟩ : api_Note)⟩ : api_Msg))).1)), .agg (api_Note.cells ((msg_Head (msg_Encode (⟨4, (⟨0, 0, 0, (⟨false, 0, false, false, 0, false, false, false, 0⟩ : api_Caps)⟩ : api_Open), (⟨[], (⟨0, [], 0, 0, 0, [], []⟩ : api_Attrs), []⟩ : api_Update), (⟨0, 0, []⟩ : api_Note)⟩ : api_Msg))).2))]) rfl rfl rfl Tryz.func11 rfl rfl rfl rfl rfl (msg_Head_pf (msg_Encode (⟨4, (⟨0, 0, 0, (⟨false, 0, false, false, 0, false, false, false, 0⟩ : api_Caps)⟩ : api_Open), (⟨[], (⟨0, [], 0, 0, 0, [], []⟩ : api_Attrs), []⟩ : api_Update), (⟨0, 0, []⟩ : api_Note)⟩ : api_Msg)))) ?_
  refine al_op rfl (g_move (p := .tup [.sc (.int .i64 ((msg_Head (msg_Encode (⟨4, (⟨0, 0, 0, (⟨false, 0, false, false, 0, false, false, false, 0⟩ : api_Caps)⟩ : api_Open), (⟨[], (⟨0, [], 0, 0, 0, [], []⟩ : api_Attrs), []⟩ : api_Update), (⟨0, 0, []⟩ : api_Note)⟩ : api_Msg))).1)), .agg (api_Note.cells ((msg_Head (msg_Encode (⟨4, (⟨0, 0, 0, (⟨false, 0, false, false, 0, false, false, false, 0⟩ : api_Caps)⟩ : api_Open), (⟨[], (⟨0, [], 0, 0, 0, [], []⟩ : api_Attrs), []⟩ : api_Update), (⟨0, 0, []⟩ : api_Note)⟩ : api_Msg))).2))]) rfl rfl rfl rfl) ?_
  refine al_op rfl (g_extract (ps := [.sc (.int .i64 ((msg_Head (msg_Encode (⟨4, (⟨0, 0, 0, (⟨false, 0, false, false, 0, false, false, false, 0⟩ : api_Caps)⟩ : api_Open), (⟨[], (⟨0, [], 0, 0, 0, [], []⟩ : api_Attrs), []⟩ : api_Update), (⟨0, 0, []⟩ : api_Note)⟩ : api_Msg))).1)), .agg (api_Note.cells ((msg_Head (msg_Encode (⟨4, (⟨0, 0, 0, (⟨false, 0, false, false, 0, false, false, false, 0⟩ : api_Caps)⟩ : api_Open), (⟨[], (⟨0, [], 0, 0, 0, [], []⟩ : api_Attrs), []⟩ : api_Update), (⟨0, 0, []⟩ : api_Note)⟩ : api_Msg))).2))]) (p := .sc (.int .i64 ((msg_Head (msg_Encode (⟨4, (⟨0, 0, 0, (⟨false, 0, false, false, 0, false, false, false, 0⟩ : api_Caps)⟩ : api_Open), (⟨[], (⟨0, [], 0, 0, 0, [], []⟩ : api_Attrs), []⟩ : api_Update), (⟨0, 0, []⟩ : api_Note)⟩ : api_Msg))).1))) rfl rfl rfl rfl rfl) ?_
  refine al_op rfl (g_extract (ps := [.sc (.int .i64 ((msg_Head (msg_Encode (⟨4, (⟨0, 0, 0, (⟨false, 0, false, false, 0, false, false, false, 0⟩ : api_Caps)⟩ : api_Open), (⟨[], (⟨0, [], 0, 0, 0, [], []⟩ : api_Attrs), []⟩ : api_Update), (⟨0, 0, []⟩ : api_Note)⟩ : api_Msg))).1)), .agg (api_Note.cells ((msg_Head (msg_Encode (⟨4, (⟨0, 0, 0, (⟨false, 0, false, false, 0, false, false, false, 0⟩ : api_Caps)⟩ : api_Open), (⟨[], (⟨0, [], 0, 0, 0, [], []⟩ : api_Attrs), []⟩ : api_Update), (⟨0, 0, []⟩ : api_Note)⟩ : api_Msg))).2))]) (p := .agg (api_Note.cells ((msg_Head (msg_Encode (⟨4, (⟨0, 0, 0, (⟨false, 0, false, false, 0, false, false, false, 0⟩ : api_Caps)⟩ : api_Open), (⟨[], (⟨0, [], 0, 0, 0, [], []⟩ : api_Attrs), []⟩ : api_Update), (⟨0, 0, []⟩ : api_Note)⟩ : api_Msg))).2))) rfl rfl rfl rfl rfl) ?_
  refine al_op rfl (g_alloc (s := 5) (z := zv38) (qs := zc38) rfl rfl rfl rfl z38 rfl rfl) ?_
  refine al_op rfl (g_assign (p := .sc (.int .i64 ((msg_Head (msg_Encode (⟨4, (⟨0, 0, 0, (⟨false, 0, false, false, 0, false, false, false, 0⟩ : api_Caps)⟩ : api_Open), (⟨[], (⟨0, [], 0, 0, 0, [], []⟩ : api_Attrs), []⟩ : api_Update), (⟨0, 0, []⟩ : api_Note)⟩ : api_Msg))).1))) rfl rfl rfl rfl) ?_
  refine al_op rfl (g_store (s := 5) (off := 0) (ps := zc38) (p := .agg (api_Note.cells ((msg_Head (msg_Encode (⟨4, (⟨0, 0, 0, (⟨false, 0, false, false, 0, false, false, false, 0⟩ : api_Caps)⟩ : api_Open), (⟨[], (⟨0, [], 0, 0, 0, [], []⟩ : api_Attrs), []⟩ : api_Update), (⟨0, 0, []⟩ : api_Note)⟩ : api_Msg))).2))) (qs := (api_Note.cells ((msg_Head (msg_Encode (⟨4, (⟨0, 0, 0, (⟨false, 0, false, false, 0, false, false, false, 0⟩ : api_Caps)⟩ : api_Open), (⟨[], (⟨0, [], 0, 0, 0, [], []⟩ : api_Attrs), []⟩ : api_Update), (⟨0, 0, []⟩ : api_Note)⟩ : api_Msg))).2))) rfl rfl ty38 rfl rfl rfl rfl rfl rfl rfl) ?_
  refine al_nil ?_
  refine aw_seq ?_
  refine aw_region ?_
  refine al_op rfl (g_move (p := .sem (SL (eI .u8) (msg_Encode (⟨4, (⟨0, 0, 0, (⟨false, 0, false, false, 0, false, false, false, 0⟩ : api_Caps)⟩ : api_Open), (⟨[], (⟨0, [], 0, 0, 0, [], []⟩ : api_Attrs), []⟩ : api_Update), (⟨0, 0, []⟩ : api_Note)⟩ : api_Msg)))) rfl rfl rfl rfl) ?_
  refine al_op rfl (g_len rfl rfl rfl Tryz.underlying22 (isSl_sem rfl)) ?_
  refine al_op rfl (g_bin (u1 := .int .i64 ((msg_Encode (⟨4, (⟨0, 0, 0, (⟨false, 0, false, false, 0, false, false, false, 0⟩ : api_Caps)⟩ : api_Open), (⟨[], (⟨0, [], 0, 0, 0, [], []⟩ : api_Attrs), []⟩ : api_Update), (⟨0, 0, []⟩ : api_Note)⟩ : api_Msg)).length : Int)) (u2 := .int .i64 19) (v := .bool (decide ((((msg_Encode (⟨4, (⟨0, 0, 0, (⟨false, 0, false, false, 0, false, false, false, 0⟩ : api_Caps)⟩ : api_Open), (⟨[], (⟨0, [], 0, 0, 0, [], []⟩ : api_Attrs), []⟩ : api_Update), (⟨0, 0, []⟩ : api_Note)⟩ : api_Msg)).length : Int) : Int) = 19))) rfl rfl rfl rfl rfl (fun _ => rfl)) ?_
  refine al_op rfl (g_move (p := .sc (.bool (decide ((((msg_Encode (⟨4, (⟨0, 0, 0, (⟨false, 0, false, false, 0, false, false, false, 0⟩ : api_Caps)⟩ : api_Open), (⟨[], (⟨0, [], 0, 0, 0, [], []⟩ : api_Attrs), []⟩ : api_Update), (⟨0, 0, []⟩ : api_Note)⟩ : api_Msg)).length : Int) : Int) = 19)))) rfl rfl rfl rfl) ?_
  refine al_gW (C := decide ((((msg_Encode (⟨4, (⟨0, 0, 0, (⟨false, 0, false, false, 0, false, false, false, 0⟩ : api_Caps)⟩ : api_Open), (⟨[], (⟨0, [], 0, 0, 0, [], []⟩ : api_Attrs), []⟩ : api_Update), (⟨0, 0, []⟩ : api_Note)⟩ : api_Msg)).length : Int) : Int) = 19)) (p := .loc 3 0) (gd_T rfl rfl rfl rfl rfl) rfl rfl (fun g1 => g_fieldAddr (b := 3) (k := 0) (m := 0) rfl rfl rfl fld38_0 rfl rfl) ?_
  refine al_gW (C := decide ((((msg_Encode (⟨4, (⟨0, 0, 0, (⟨false, 0, false, false, 0, false, false, false, 0⟩ : api_Caps)⟩ : api_Open), (⟨[], (⟨0, [], 0, 0, 0, [], []⟩ : api_Attrs), []⟩ : api_Update), (⟨0, 0, []⟩ : api_Note)⟩ : api_Msg)).length : Int) : Int) = 19)) (p := .sc (.int .i64 (((msg_DecodeA (msg_Encode (⟨4, (⟨0, 0, 0, (⟨false, 0, false, false, 0, false, false, false, 0⟩ : api_Caps)⟩ : api_Open), (⟨[], (⟨0, [], 0, 0, 0, [], []⟩ : api_Attrs), []⟩ : api_Update), (⟨0, 0, []⟩ : api_Note)⟩ : api_Msg))).2).fCode))) (gd_T rfl rfl rfl rfl rfl) rfl rfl (fun g2 => g_load (s := 3) (off := 0) (ps := (api_Note.cells ((msg_DecodeA (msg_Encode (⟨4, (⟨0, 0, 0, (⟨false, 0, false, false, 0, false, false, false, 0⟩ : api_Caps)⟩ : api_Open), (⟨[], (⟨0, [], 0, 0, 0, [], []⟩ : api_Attrs), []⟩ : api_Update), (⟨0, 0, []⟩ : api_Note)⟩ : api_Msg))).2))) (p := .sc (.int .i64 (((msg_DecodeA (msg_Encode (⟨4, (⟨0, 0, 0, (⟨false, 0, false, false, 0, false, false, false, 0⟩ : api_Caps)⟩ : api_Open), (⟨[], (⟨0, [], 0, 0, 0, [], []⟩ : api_Attrs), []⟩ : api_Update), (⟨0, 0, []⟩ : api_Note)⟩ : api_Msg))).2).fCode))) rfl rfl rfl ty3 (gt (p := .loc 3 0) (q := .sc undef) g2) rfl rfl rfl rfl) ?_
  refine al_gW (C := decide ((((msg_Encode (⟨4, (⟨0, 0, 0, (⟨false, 0, false, false, 0, false, false, false, 0⟩ : api_Caps)⟩ : api_Open), (⟨[], (⟨0, [], 0, 0, 0, [], []⟩ : api_Attrs), []⟩ : api_Update), (⟨0, 0, []⟩ : api_Note)⟩ : api_Msg)).length : Int) : Int) = 19)) (p := .sc (.bool (decide ((((msg_DecodeA (msg_Encode (⟨4, (⟨0, 0, 0, (⟨false, 0, false, false, 0, false, false, false, 0⟩ : api_Caps)⟩ : api_Open), (⟨[], (⟨0, [], 0, 0, 0, [], []⟩ : api_Attrs), []⟩ : api_Update), (⟨0, 0, []⟩ : api_Note)⟩ : api_Msg))).2).fCode : Int) = 0)))) (gd_T rfl rfl rfl rfl rfl) rfl rfl (fun g3 => g_bin (u1 := .int .i64 (((msg_DecodeA (msg_Encode (⟨4, (⟨0, 0, 0, (⟨false, 0, false, false, 0, false, false, false, 0⟩ : api_Caps)⟩ : api_Open), (⟨[], (⟨0, [], 0, 0, 0, [], []⟩ : api_Attrs), []⟩ : api_Update), (⟨0, 0, []⟩ : api_Note)⟩ : api_Msg))).2).fCode)) (u2 := .int .i64 0) (v := .bool (decide ((((msg_DecodeA (msg_Encode (⟨4, (⟨0, 0, 0, (⟨false, 0, false, false, 0, false, false, false, 0⟩ : api_Caps)⟩ : api_Open), (⟨[], (⟨0, [], 0, 0, 0, [], []⟩ : api_Attrs), []⟩ : api_Update), (⟨0, 0, []⟩ : api_Note)⟩ : api_Msg))).2).fCode : Int) = 0))) rfl rfl rfl (gt (p := .sc (.int .i64 (((msg_DecodeA (msg_Encode (⟨4, (⟨0, 0, 0, (⟨false, 0, false, false, 0, false, false, false, 0⟩ : api_Caps)⟩ : api_Open), (⟨[], (⟨0, [], 0, 0, 0, [], []⟩ : api_Attrs), []⟩ : api_Update), (⟨0, 0, []⟩ : api_Note)⟩ : api_Msg))).2).fCode))) (q := .sc undef) g3) rfl (fun _ => rfl)) ?_
  refine al_op rfl (g_andU (b := decide ((((msg_Encode (⟨4, (⟨0, 0, 0, (⟨false, 0, false, false, 0, false, false, false, 0⟩ : api_Caps)⟩ : api_Open), (⟨[], (⟨0, [], 0, 0, 0, [], []⟩ : api_Attrs), []⟩ : api_Update), (⟨0, 0, []⟩ : api_Note)⟩ : api_Msg)).length : Int) : Int) = 19)) (y := decide ((((msg_DecodeA (msg_Encode (⟨4, (⟨0, 0, 0, (⟨false, 0, false, false, 0, false, false, false, 0⟩ : api_Caps)⟩ : api_Open), (⟨[], (⟨0, [], 0, 0, 0, [], []⟩ : api_Attrs), []⟩ : api_Update), (⟨0, 0, []⟩ : api_Note)⟩ : api_Msg))).2).fCode : Int) = 0)) rfl rfl rfl rfl rfl) ?_
  refine al_op rfl (g_move (p := .sc (.bool ((decide ((((msg_Encode (⟨4, (⟨0, 0, 0, (⟨false, 0, false, false, 0, false, false, false, 0⟩ : api_Caps)⟩ : api_Open), (⟨[], (⟨0, [], 0, 0, 0, [], []⟩ : api_Attrs), []⟩ : api_Update), (⟨0, 0, []⟩ : api_Note)⟩ : api_Msg)).length : Int) : Int) = 19)) && (decide ((((msg_DecodeA (msg_Encode (⟨4, (⟨0, 0, 0, (⟨false, 0, false, false, 0, false, false, false, 0⟩ : api_Caps)⟩ : api_Open), (⟨[], (⟨0, [], 0, 0, 0, [], []⟩ : api_Attrs), []⟩ : api_Update), (⟨0, 0, []⟩ : api_Note)⟩ : api_Msg))).2).fCode : Int) = 0))))) rfl rfl rfl rfl) ?_
  refine al_gW (C := (decide ((((msg_Encode (⟨4, (⟨0, 0, 0, (⟨false, 0, false, false, 0, false, false, false, 0⟩ : api_Caps)⟩ : api_Open), (⟨[], (⟨0, [], 0, 0, 0, [], []⟩ : api_Attrs), []⟩ : api_Update), (⟨0, 0, []⟩ : api_Note)⟩ : api_Msg)).length : Int) : Int) = 19)) && (decide ((((msg_DecodeA (msg_Encode (⟨4, (⟨0, 0, 0, (⟨false, 0, false, false, 0, false, false, false, 0⟩ : api_Caps)⟩ : api_Open), (⟨[], (⟨0, [], 0, 0, 0, [], []⟩ : api_Attrs), []⟩ : api_Update), (⟨0, 0, []⟩ : api_Note)⟩ : api_Msg))).2).fCode : Int) = 0))) (p := .loc 2 0) (gd_T rfl rfl rfl rfl rfl) rfl rfl (fun g4 => g_fieldAddr (b := 2) (k := 0) (m := 0) rfl rfl rfl fld40_0 rfl rfl) ?_
  refine al_gW (C := (decide ((((msg_Encode (⟨4, (⟨0, 0, 0, (⟨false, 0, false, false, 0, false, false, false, 0⟩ : api_Caps)⟩ : api_Open), (⟨[], (⟨0, [], 0, 0, 0, [], []⟩ : api_Attrs), []⟩ : api_Update), (⟨0, 0, []⟩ : api_Note)⟩ : api_Msg)).length : Int) : Int) = 19)) && (decide ((((msg_DecodeA (msg_Encode (⟨4, (⟨0, 0, 0, (⟨false, 0, false, false, 0, false, false, false, 0⟩ : api_Caps)⟩ : api_Open), (⟨[], (⟨0, [], 0, 0, 0, [], []⟩ : api_Attrs), []⟩ : api_Update), (⟨0, 0, []⟩ : api_Note)⟩ : api_Msg))).2).fCode : Int) = 0))) (p := .sc (.int .i64 (((msg_DecodeA (msg_Encode (⟨4, (⟨0, 0, 0, (⟨false, 0, false, false, 0, false, false, false, 0⟩ : api_Caps)⟩ : api_Open), (⟨[], (⟨0, [], 0, 0, 0, [], []⟩ : api_Attrs), []⟩ : api_Update), (⟨0, 0, []⟩ : api_Note)⟩ : api_Msg))).1).fKind))) (gd_T rfl rfl rfl rfl rfl) rfl rfl (fun g5 => g_load (s := 2) (off := 0) (ps := (api_Msg.cells ((msg_DecodeA (msg_Encode (⟨4, (⟨0, 0, 0, (⟨false, 0, false, false, 0, false, false, false, 0⟩ : api_Caps)⟩ : api_Open), (⟨[], (⟨0, [], 0, 0, 0, [], []⟩ : api_Attrs), []⟩ : api_Update), (⟨0, 0, []⟩ : api_Note)⟩ : api_Msg))).1))) (p := .sc (.int .i64 (((msg_DecodeA (msg_Encode (⟨4, (⟨0, 0, 0, (⟨false, 0, false, false, 0, false, false, false, 0⟩ : api_Caps)⟩ : api_Open), (⟨[], (⟨0, [], 0, 0, 0, [], []⟩ : api_Attrs), []⟩ : api_Update), (⟨0, 0, []⟩ : api_Note)⟩ : api_Msg))).1).fKind))) rfl rfl rfl ty3 (gt (p := .loc 2 0) (q := .sc undef) g5) rfl rfl rfl rfl) ?_
  refine al_gW (C := (decide ((((msg_Encode (⟨4, (⟨0, 0, 0, (⟨false, 0, false, false, 0, false, false, false, 0⟩ : api_Caps)⟩ : api_Open), (⟨[], (⟨0, [], 0, 0, 0, [], []⟩ : api_Attrs), []⟩ : api_Update), (⟨0, 0, []⟩ : api_Note)⟩ : api_Msg)).length : Int) : Int) = 19)) && (decide ((((msg_DecodeA (msg_Encode (⟨4, (⟨0, 0, 0, (⟨false, 0, false, false, 0, false, false, false, 0⟩ : api_Caps)⟩ : api_Open), (⟨[], (⟨0, [], 0, 0, 0, [], []⟩ : api_Attrs), []⟩ : api_Update), (⟨0, 0, []⟩ : api_Note)⟩ : api_Msg))).2).fCode : Int) = 0))) (p := .sc (.bool (decide ((((msg_DecodeA (msg_Encode (⟨4, (⟨0, 0, 0, (⟨false, 0, false, false, 0, false, false, false, 0⟩ : api_Caps)⟩ : api_Open), (⟨[], (⟨0, [], 0, 0, 0, [], []⟩ : api_Attrs), []⟩ : api_Update), (⟨0, 0, []⟩ : api_Note)⟩ : api_Msg))).1).fKind : Int) = 4)))) (gd_T rfl rfl rfl rfl rfl) rfl rfl (fun g6 => g_bin (u1 := .int .i64 (((msg_DecodeA (msg_Encode (⟨4, (⟨0, 0, 0, (⟨false, 0, false, false, 0, false, false, false, 0⟩ : api_Caps)⟩ : api_Open), (⟨[], (⟨0, [], 0, 0, 0, [], []⟩ : api_Attrs), []⟩ : api_Update), (⟨0, 0, []⟩ : api_Note)⟩ : api_Msg))).1).fKind)) (u2 := .int .i64 4) (v := .bool (decide ((((msg_DecodeA (msg_Encode (⟨4, (⟨0, 0, 0, (⟨false, 0, false, false, 0, false, false, false, 0⟩ : api_Caps)⟩ : api_Open), (⟨[], (⟨0, [], 0, 0, 0, [], []⟩ : api_Attrs), []⟩ : api_Update), (⟨0, 0, []⟩ : api_Note)⟩ : api_Msg))).1).fKind : Int) = 4))) rfl rfl rfl (gt (p := .sc (.int .i64 (((msg_DecodeA (msg_Encode (⟨4, (⟨0, 0, 0, (⟨false, 0, false, false, 0, false, false, false, 0⟩ : api_Caps)⟩ : api_Open), (⟨[], (⟨0, [], 0, 0, 0, [], []⟩ : api_Attrs), []⟩ : api_Update), (⟨0, 0, []⟩ : api_Note)⟩ : api_Msg))).1).fKind))) (q := .sc undef) g6) rfl (fun _ => rfl)) ?_
  refine al_op rfl (g_andU (b := (decide ((((msg_Encode (⟨4, (⟨0, 0, 0, (⟨false, 0, false, false, 0, false, false, false, 0⟩ : api_Caps)⟩ : api_Open), (⟨[], (⟨0, [], 0, 0, 0, [], []⟩ : api_Attrs), []⟩ : api_Update), (⟨0, 0, []⟩ : api_Note)⟩ : api_Msg)).length : Int) : Int) = 19)) && (decide ((((msg_DecodeA (msg_Encode (⟨4, (⟨0, 0, 0, (⟨false, 0, false, false, 0, false, false, false, 0⟩ : api_Caps)⟩ : api_Open), (⟨[], (⟨0, [], 0, 0, 0, [], []⟩ : api_Attrs), []⟩ : api_Update), (⟨0, 0, []⟩ : api_Note)⟩ : api_Msg))).2).fCode : Int) = 0))) (y := decide ((((msg_DecodeA (msg_Encode (⟨4, (⟨0, 0, 0, (⟨false, 0, false, false, 0, false, false, false, 0⟩ : api_Caps)⟩ : api_Open), (⟨[], (⟨0, [], 0, 0, 0, [], []⟩ : api_Attrs), []⟩ : api_Update), (⟨0, 0, []⟩ : api_Note)⟩ : api_Msg))).1).fKind : Int) = 4)) rfl rfl rfl rfl rfl) ?_
  refine al_op rfl (g_move (p := .sc (.bool (((decide ((((msg_Encode (⟨4, (⟨0, 0, 0, (⟨false, 0, false, false, 0, false, false, false, 0⟩ : api_Caps)⟩ : api_Open), (⟨[], (⟨0, [], 0, 0, 0, [], []⟩ : api_Attrs), []⟩ : api_Update), (⟨0, 0, []⟩ : api_Note)⟩ : api_Msg)).length : Int) : Int) = 19)) && (decide ((((msg_DecodeA (msg_Encode (⟨4, (⟨0, 0, 0, (⟨false, 0, false, false, 0, false, false, false, 0⟩ : api_Caps)⟩ : api_Open), (⟨[], (⟨0, [], 0, 0, 0, [], []⟩ : api_Attrs), []⟩ : api_Update), (⟨0, 0, []⟩ : api_Note)⟩ : api_Msg))).2).fCode : Int) = 0))) && (decide ((((msg_DecodeA (msg_Encode (⟨4, (⟨0, 0, 0, (⟨false, 0, false, false, 0, false, false, false, 0⟩ : api_Caps)⟩ : api_Open), (⟨[], (⟨0, [], 0, 0, 0, [], []⟩ : api_Attrs), []⟩ : api_Update), (⟨0, 0, []⟩ : api_Note)⟩ : api_Msg))).1).fKind : Int) = 4))))) rfl rfl rfl rfl) ?_
  refine al_gW (C := ((decide ((((msg_Encode (⟨4, (⟨0, 0, 0, (⟨false, 0, false, false, 0, false, false, false, 0⟩ : api_Caps)⟩ : api_Open), (⟨[], (⟨0, [], 0, 0, 0, [], []⟩ : api_Attrs), []⟩ : api_Update), (⟨0, 0, []⟩ : api_Note)⟩ : api_Msg)).length : Int) : Int) = 19)) && (decide ((((msg_DecodeA (msg_Encode (⟨4, (⟨0, 0, 0, (⟨false, 0, false, false, 0, false, false, false, 0⟩ : api_Caps)⟩ : api_Open), (⟨[], (⟨0, [], 0, 0, 0, [], []⟩ : api_Attrs), []⟩ : api_Update), (⟨0, 0, []⟩ : api_Note)⟩ : api_Msg))).2).fCode : Int) = 0))) && (decide ((((msg_DecodeA (msg_Encode (⟨4, (⟨0, 0, 0, (⟨false, 0, false, false, 0, false, false, false, 0⟩ : api_Caps)⟩ : api_Open), (⟨[], (⟨0, [], 0, 0, 0, [], []⟩ : api_Attrs), []⟩ : api_Update), (⟨0, 0, []⟩ : api_Note)⟩ : api_Msg))).1).fKind : Int) = 4))) (p := .sc (.int .i64 ((msg_Head (msg_Encode (⟨4, (⟨0, 0, 0, (⟨false, 0, false, false, 0, false, false, false, 0⟩ : api_Caps)⟩ : api_Open), (⟨[], (⟨0, [], 0, 0, 0, [], []⟩ : api_Attrs), []⟩ : api_Update), (⟨0, 0, []⟩ : api_Note)⟩ : api_Msg))).1))) (gd_T rfl rfl rfl rfl rfl) rfl rfl (fun g7 => g_move (p := .sc (.int .i64 ((msg_Head (msg_Encode (⟨4, (⟨0, 0, 0, (⟨false, 0, false, false, 0, false, false, false, 0⟩ : api_Caps)⟩ : api_Open), (⟨[], (⟨0, [], 0, 0, 0, [], []⟩ : api_Attrs), []⟩ : api_Update), (⟨0, 0, []⟩ : api_Note)⟩ : api_Msg))).1))) rfl rfl rfl rfl) ?_
  refine al_gW (C := ((decide ((((msg_Encode (⟨4, (⟨0, 0, 0, (⟨false, 0, false, false, 0, false, false, false, 0⟩ : api_Caps)⟩ : api_Open), (⟨[], (⟨0, [], 0, 0, 0, [], []⟩ : api_Attrs), []⟩ : api_Update), (⟨0, 0, []⟩ : api_Note)⟩ : api_Msg)).length : Int) : Int) = 19)) && (decide ((((msg_DecodeA (msg_Encode (⟨4, (⟨0, 0, 0, (⟨false, 0, false, false, 0, false, false, false, 0⟩ : api_Caps)⟩ : api_Open), (⟨[], (⟨0, [], 0, 0, 0, [], []⟩ : api_Attrs), []⟩ : api_Update), (⟨0, 0, []⟩ : api_Note)⟩ : api_Msg))).2).fCode : Int) = 0))) && (decide ((((msg_DecodeA (msg_Encode (⟨4, (⟨0, 0, 0, (⟨false, 0, false, false, 0, false, false, false, 0⟩ : api_Caps)⟩ : api_Open), (⟨[], (⟨0, [], 0, 0, 0, [], []⟩ : api_Attrs), []⟩ : api_Update), (⟨0, 0, []⟩ : api_Note)⟩ : api_Msg))).1).fKind : Int) = 4))) (p := .sc (.bool (decide (((msg_Head (msg_Encode (⟨4, (⟨0, 0, 0, (⟨false, 0, false, false, 0, false, false, false, 0⟩ : api_Caps)⟩ : api_Open), (⟨[], (⟨0, [], 0, 0, 0, [], []⟩ : api_Attrs), []⟩ : api_Update), (⟨0, 0, []⟩ : api_Note)⟩ : api_Msg))).1 : Int) = 19)))) (gd_T rfl rfl rfl rfl rfl) rfl rfl (fun g8 => g_bin (u1 := .int .i64 ((msg_Head (msg_Encode (⟨4, (⟨0, 0, 0, (⟨false, 0, false, false, 0, false, false, false, 0⟩ : api_Caps)⟩ : api_Open), (⟨[], (⟨0, [], 0, 0, 0, [], []⟩ : api_Attrs), []⟩ : api_Update), (⟨0, 0, []⟩ : api_Note)⟩ : api_Msg))).1)) (u2 := .int .i64 19) (v := .bool (decide (((msg_Head (msg_Encode (⟨4, (⟨0, 0, 0, (⟨false, 0, false, false, 0, false, false, false, 0⟩ : api_Caps)⟩ : api_Open), (⟨[], (⟨0, [], 0, 0, 0, [], []⟩ : api_Attrs), []⟩ : api_Update), (⟨0, 0, []⟩ : api_Note)⟩ : api_Msg))).1 : Int) = 19))) rfl rfl rfl (gt (p := .sc (.int .i64 ((msg_Head (msg_Encode (⟨4, (⟨0, 0, 0, (⟨false, 0, false, false, 0, false, false, false, 0⟩ : api_Caps)⟩ : api_Open), (⟨[], (⟨0, [], 0, 0, 0, [], []⟩ : api_Attrs), []⟩ : api_Update), (⟨0, 0, []⟩ : api_Note)⟩ : api_Msg))).1))) (q := .sc undef) g8) rfl (fun _ => rfl)) ?_
  refine al_op rfl (g_andU (b := ((decide ((((msg_Encode (⟨4, (⟨0, 0, 0, (⟨false, 0, false, false, 0, false, false, false, 0⟩ : api_Caps)⟩ : api_Open), (⟨[], (⟨0, [], 0, 0, 0, [], []⟩ : api_Attrs), []⟩ : api_Update), (⟨0, 0, []⟩ : api_Note)⟩ : api_Msg)).length : Int) : Int) = 19)) && (decide ((((msg_DecodeA (msg_Encode (⟨4, (⟨0, 0, 0, (⟨false, 0, false, false, 0, false, false, false, 0⟩ : api_Caps)⟩ : api_Open), (⟨[], (⟨0, [], 0, 0, 0, [], []⟩ : api_Attrs), []⟩ : api_Update), (⟨0, 0, []⟩ : api_Note)⟩ : api_Msg))).2).fCode : Int) = 0))) && (decide ((((msg_DecodeA (msg_Encode (⟨4, (⟨0, 0, 0, (⟨false, 0, false, false, 0, false, false, false, 0⟩ : api_Caps)⟩ : api_Open), (⟨[], (⟨0, [], 0, 0, 0, [], []⟩ : api_Attrs), []⟩ : api_Update), (⟨0, 0, []⟩ : api_Note)⟩ : api_Msg))).1).fKind : Int) = 4))) (y := decide (((msg_Head (msg_Encode (⟨4, (⟨0, 0, 0, (⟨false, 0, false, false, 0, false, false, false, 0⟩ : api_Caps)⟩ : api_Open), (⟨[], (⟨0, [], 0, 0, 0, [], []⟩ : api_Attrs), []⟩ : api_Update), (⟨0, 0, []⟩ : api_Note)⟩ : api_Msg))).1 : Int) = 19)) rfl rfl rfl rfl rfl) ?_
  refine al_op rfl (g_move (p := .sc (.bool ((((decide ((((msg_Encode (⟨4, (⟨0, 0, 0, (⟨false, 0, false, false, 0, false, false, false, 0⟩ : api_Caps)⟩ : api_Open), (⟨[], (⟨0, [], 0, 0, 0, [], []⟩ : api_Attrs), []⟩ : api_Update), (⟨0, 0, []⟩ : api_Note)⟩ : api_Msg)).length : Int) : Int) = 19)) && (decide ((((msg_DecodeA (msg_Encode (⟨4, (⟨0, 0, 0, (⟨false, 0, false, false, 0, false, false, false, 0⟩ : api_Caps)⟩ : api_Open), (⟨[], (⟨0, [], 0, 0, 0, [], []⟩ : api_Attrs), []⟩ : api_Update), (⟨0, 0, []⟩ : api_Note)⟩ : api_Msg))).2).fCode : Int) = 0))) && (decide ((((msg_DecodeA (msg_Encode (⟨4, (⟨0, 0, 0, (⟨false, 0, false, false, 0, false, false, false, 0⟩ : api_Caps)⟩ : api_Open), (⟨[], (⟨0, [], 0, 0, 0, [], []⟩ : api_Attrs), []⟩ : api_Update), (⟨0, 0, []⟩ : api_Note)⟩ : api_Msg))).1).fKind : Int) = 4))) && (decide (((msg_Head (msg_Encode (⟨4, (⟨0, 0, 0, (⟨false, 0, false, false, 0, false, false, false, 0⟩ : api_Caps)⟩ : api_Open), (⟨[], (⟨0, [], 0, 0, 0, [], []⟩ : api_Attrs), []⟩ : api_Update), (⟨0, 0, []⟩ : api_Note)⟩ : api_Msg))).1 : Int) = 19))))) rfl rfl rfl rfl) ?_
  refine al_gW (C := (((decide ((((msg_Encode (⟨4, (⟨0, 0, 0, (⟨false, 0, false, false, 0, false, false, false, 0⟩ : api_Caps)⟩ : api_Open), (⟨[], (⟨0, [], 0, 0, 0, [], []⟩ : api_Attrs), []⟩ : api_Update), (⟨0, 0, []⟩ : api_Note)⟩ : api_Msg)).length : Int) : Int) = 19)) && (decide ((((msg_DecodeA (msg_Encode (⟨4, (⟨0, 0, 0, (⟨false, 0, false, false, 0, false, false, false, 0⟩ : api_Caps)⟩ : api_Open), (⟨[], (⟨0, [], 0, 0, 0, [], []⟩ : api_Attrs), []⟩ : api_Update), (⟨0, 0, []⟩ : api_Note)⟩ : api_Msg))).2).fCode : Int) = 0))) && (decide ((((msg_DecodeA (msg_Encode (⟨4, (⟨0, 0, 0, (⟨false, 0, false, false, 0, false, false, false, 0⟩ : api_Caps)⟩ : api_Open), (⟨[], (⟨0, [], 0, 0, 0, [], []⟩ : api_Attrs), []⟩ : api_Update), (⟨0, 0, []⟩ : api_Note)⟩ : api_Msg))).1).fKind : Int) = 4))) && (decide (((msg_Head (msg_Encode (⟨4, (⟨0, 0, 0, (⟨false, 0, false, false, 0, false, false, false, 0⟩ : api_Caps)⟩ : api_Open), (⟨[], (⟨0, [], 0, 0, 0, [], []⟩ : api_Attrs), []⟩ : api_Update), (⟨0, 0, []⟩ : api_Note)⟩ : api_Msg))).1 : Int) = 19))) (p := .loc 5 0) (gd_T rfl rfl rfl rfl rfl) rfl rfl (fun g9 => g_fieldAddr (b := 5) (k := 0) (m := 0) rfl rfl rfl fld38_0 rfl rfl) ?_
  refine al_gW (C := (((decide ((((msg_Encode (⟨4, (⟨0, 0, 0, (⟨false, 0, false, false, 0, false, false, false, 0⟩ : api_Caps)⟩ : api_Open), (⟨[], (⟨0, [], 0, 0, 0, [], []⟩ : api_Attrs), []⟩ : api_Update), (⟨0, 0, []⟩ : api_Note)⟩ : api_Msg)).length : Int) : Int) = 19)) && (decide ((((msg_DecodeA (msg_Encode (⟨4, (⟨0, 0, 0, (⟨false, 0, false, false, 0, false, false, false, 0⟩ : api_Caps)⟩ : api_Open), (⟨[], (⟨0, [], 0, 0, 0, [], []⟩ : api_Attrs), []⟩ : api_Update), (⟨0, 0, []⟩ : api_Note)⟩ : api_Msg))).2).fCode : Int) = 0))) && (decide ((((msg_DecodeA (msg_Encode (⟨4, (⟨0, 0, 0, (⟨false, 0, false, false, 0, false, false, false, 0⟩ : api_Caps)⟩ : api_Open), (⟨[], (⟨0, [], 0, 0, 0, [], []⟩ : api_Attrs), []⟩ : api_Update), (⟨0, 0, []⟩ : api_Note)⟩ : api_Msg))).1).fKind : Int) = 4))) && (decide (((msg_Head (msg_Encode (⟨4, (⟨0, 0, 0, (⟨false, 0, false, false, 0, false, false, false, 0⟩ : api_Caps)⟩ : api_Open), (⟨[], (⟨0, [], 0, 0, 0, [], []⟩ : api_Attrs), []⟩ : api_Update), (⟨0, 0, []⟩ : api_Note)⟩ : api_Msg))).1 : Int) = 19))) (p := .sc (.int .i64 (((msg_Head (msg_Encode (⟨4, (⟨0, 0, 0, (⟨false, 0, false, false, 0, false, false, false, 0⟩ : api_Caps)⟩ : api_Open), (⟨[], (⟨0, [], 0, 0, 0, [], []⟩ : api_Attrs), []⟩ : api_Update), (⟨0, 0, []⟩ : api_Note)⟩ : api_Msg))).2).fCode))) (gd_T rfl rfl rfl rfl rfl) rfl rfl (fun g10 => g_load (s := 5) (off := 0) (ps := (api_Note.cells ((msg_Head (msg_Encode (⟨4, (⟨0, 0, 0, (⟨false, 0, false, false, 0, false, false, false, 0⟩ : api_Caps)⟩ : api_Open), (⟨[], (⟨0, [], 0, 0, 0, [], []⟩ : api_Attrs), []⟩ : api_Update), (⟨0, 0, []⟩ : api_Note)⟩ : api_Msg))).2))) (p := .sc (.int .i64 (((msg_Head (msg_Encode (⟨4, (⟨0, 0, 0, (⟨false, 0, false, false, 0, false, false, false, 0⟩ : api_Caps)⟩ : api_Open), (⟨[], (⟨0, [], 0, 0, 0, [], []⟩ : api_Attrs), []⟩ : api_Update), (⟨0, 0, []⟩ : api_Note)⟩ : api_Msg))).2).fCode))) rfl rfl rfl ty3 (gt (p := .loc 5 0) (q := .sc undef) g10) rfl rfl rfl rfl) ?_
  refine al_gW (C := (((decide ((((msg_Encode (⟨4, (⟨0, 0, 0, (⟨false, 0, false, false, 0, false, false, false, 0⟩ : api_Caps)⟩ : api_Open), (⟨[], (⟨0, [], 0, 0, 0, [], []⟩ : api_Attrs), []⟩ : api_Update), (⟨0, 0, []⟩ : api_Note)⟩ : api_Msg)).length : Int) : Int) = 19)) && (decide ((((msg_DecodeA (msg_Encode (⟨4, (⟨0, 0, 0, (⟨false, 0, false, false, 0, false, false, false, 0⟩ : api_Caps)⟩ : api_Open), (⟨[], (⟨0, [], 0, 0, 0, [], []⟩ : api_Attrs), []⟩ : api_Update), (⟨0, 0, []⟩ : api_Note)⟩ : api_Msg))).2).fCode : Int) = 0))) && (decide ((((msg_DecodeA (msg_Encode (⟨4, (⟨0, 0, 0, (⟨false, 0, false, false, 0, false, false, false, 0⟩ : api_Caps)⟩ : api_Open), (⟨[], (⟨0, [], 0, 0, 0, [], []⟩ : api_Attrs), []⟩ : api_Update), (⟨0, 0, []⟩ : api_Note)⟩ : api_Msg))).1).fKind : Int) = 4))) && (decide (((msg_Head (msg_Encode (⟨4, (⟨0, 0, 0, (⟨false, 0, false, false, 0, false, false, false, 0⟩ : api_Caps)⟩ : api_Open), (⟨[], (⟨0, [], 0, 0, 0, [], []⟩ : api_Attrs), []⟩ : api_Update), (⟨0, 0, []⟩ : api_Note)⟩ : api_Msg))).1 : Int) = 19))) (p := .sc (.bool (decide ((((msg_Head (msg_Encode (⟨4, (⟨0, 0, 0, (⟨false, 0, false, false, 0, false, false, false, 0⟩ : api_Caps)⟩ : api_Open), (⟨[], (⟨0, [], 0, 0, 0, [], []⟩ : api_Attrs), []⟩ : api_Update), (⟨0, 0, []⟩ : api_Note)⟩ : api_Msg))).2).fCode : Int) = 0)))) (gd_T rfl rfl rfl rfl rfl) rfl rfl (fun g11 => g_bin (u1 := .int .i64 (((msg_Head (msg_Encode (⟨4, (⟨0, 0, 0, (⟨false, 0, false, false, 0, false, false, false, 0⟩ : api_Caps)⟩ : api_Open), (⟨[], (⟨0, [], 0, 0, 0, [], []⟩ : api_Attrs), []⟩ : api_Update), (⟨0, 0, []⟩ : api_Note)⟩ : api_Msg))).2).fCode)) (u2 := .int .i64 0) (v := .bool (decide ((((msg_Head (msg_Encode (⟨4, (⟨0, 0, 0, (⟨false, 0, false, false, 0, false, false, false, 0⟩ : api_Caps)⟩ : api_Open), (⟨[], (⟨0, [], 0, 0, 0, [], []⟩ : api_Attrs), []⟩ : api_Update), (⟨0, 0, []⟩ : api_Note)⟩ : api_Msg))).2).fCode : Int) = 0))) rfl rfl rfl (gt (p := .sc (.int .i64 (((msg_Head (msg_Encode (⟨4, (⟨0, 0, 0, (⟨false, 0, false, false, 0, false, false, false, 0⟩ : api_Caps)⟩ : api_Open), (⟨[], (⟨0, [], 0, 0, 0, [], []⟩ : api_Attrs), []⟩ : api_Update), (⟨0, 0, []⟩ : api_Note)⟩ : api_Msg))).2).fCode))) (q := .sc undef) g11) rfl (fun _ => rfl)) ?_
  refine al_op rfl (g_andU (b := (((decide ((((msg_Encode (⟨4, (⟨0, 0, 0, (⟨false, 0, false, false, 0, false, false, false, 0⟩ : api_Caps)⟩ : api_Open), (⟨[], (⟨0, [], 0, 0, 0, [], []⟩ : api_Attrs), []⟩ : api_Update), (⟨0, 0, []⟩ : api_Note)⟩ : api_Msg)).length : Int) : Int) = 19)) && (decide ((((msg_DecodeA (msg_Encode (⟨4, (⟨0, 0, 0, (⟨false, 0, false, false, 0, false, false, false, 0⟩ : api_Caps)⟩ : api_Open), (⟨[], (⟨0, [], 0, 0, 0, [], []⟩ : api_Attrs), []⟩ : api_Update), (⟨0, 0, []⟩ : api_Note)⟩ : api_Msg))).2).fCode : Int) = 0))) && (decide ((((msg_DecodeA (msg_Encode (⟨4, (⟨0, 0, 0, (⟨false, 0, false, false, 0, false, false, false, 0⟩ : api_Caps)⟩ : api_Open), (⟨[], (⟨0, [], 0, 0, 0, [], []⟩ : api_Attrs), []⟩ : api_Update), (⟨0, 0, []⟩ : api_Note)⟩ : api_Msg))).1).fKind : Int) = 4))) && (decide (((msg_Head (msg_Encode (⟨4, (⟨0, 0, 0, (⟨false, 0, false, false, 0, false, false, false, 0⟩ : api_Caps)⟩ : api_Open), (⟨[], (⟨0, [], 0, 0, 0, [], []⟩ : api_Attrs), []⟩ : api_Update), (⟨0, 0, []⟩ : api_Note)⟩ : api_Msg))).1 : Int) = 19))) (y := decide ((((msg_Head (msg_Encode (⟨4, (⟨0, 0, 0, (⟨false, 0, false, false, 0, false, false, false, 0⟩ : api_Caps)⟩ : api_Open), (⟨[], (⟨0, [], 0, 0, 0, [], []⟩ : api_Attrs), []⟩ : api_Update), (⟨0, 0, []⟩ : api_Note)⟩ : api_Msg))).2).fCode : Int) = 0)) rfl rfl rfl rfl rfl) ?_
  refine al_op rfl (g_assign (p := .sc (.bool (((((decide ((((msg_Encode (⟨4, (⟨0, 0, 0, (⟨false, 0, false, false, 0, false, false, false, 0⟩ : api_Caps)⟩ : api_Open), (⟨[], (⟨0, [], 0, 0, 0, [], []⟩ : api_Attrs), []⟩ : api_Update), (⟨0, 0, []⟩ : api_Note)⟩ : api_Msg)).length : Int) : Int) = 19)) && (decide ((((msg_DecodeA (msg_Encode (⟨4, (⟨0, 0, 0, (⟨false, 0, false, false, 0, false, false, false, 0⟩ : api_Caps)⟩ : api_Open), (⟨[], (⟨0, [], 0, 0, 0, [], []⟩ : api_Attrs), []⟩ : api_Update), (⟨0, 0, []⟩ : api_Note)⟩ : api_Msg))).2).fCode : Int) = 0))) && (decide ((((msg_DecodeA (msg_Encode (⟨4, (⟨0, 0, 0, (⟨false, 0, false, false, 0, false, false, false, 0⟩ : api_Caps)⟩ : api_Open), (⟨[], (⟨0, [], 0, 0, 0, [], []⟩ : api_Attrs), []⟩ : api_Update), (⟨0, 0, []⟩ : api_Note)⟩ : api_Msg))).1).fKind : Int) = 4))) && (decide (((msg_Head (msg_Encode (⟨4, (⟨0, 0, 0, (⟨false, 0, false, false, 0, false, false, false, 0⟩ : api_Caps)⟩ : api_Open), (⟨[], (⟨0, [], 0, 0, 0, [], []⟩ : api_Attrs), []⟩ : api_Update), (⟨0, 0, []⟩ : api_Note)⟩ : api_Msg))).1 : Int) = 19))) && (decide ((((msg_Head (msg_Encode (⟨4, (⟨0, 0, 0, (⟨false, 0, false, false, 0, false, false, false, 0⟩ : api_Caps)⟩ : api_Open), (⟨[], (⟨0, [], 0, 0, 0, [], []⟩ : api_Attrs), []⟩ : api_Update), (⟨0, 0, []⟩ : api_Note)⟩ : api_Msg))).2).fCode : Int) = 0))))) rfl rfl rfl rfl) ?_
  refine al_nil ?_
  refine aw_ret ?_
  exact endG_mk (F := (fun (z : Bool) => ⟨[], [], .sc (.bool z)⟩)) (z := law09_answers) (v := ((((decide ((((msg_Encode (⟨4, (⟨0, 0, 0, (⟨false, 0, false, false, 0, false, false, false, 0⟩ : api_Caps)⟩ : api_Open), (⟨[], (⟨0, [], 0, 0, 0, [], []⟩ : api_Attrs), []⟩ : api_Update), (⟨0, 0, []⟩ : api_Note)⟩ : api_Msg)).length : Int) : Int) = 19)) && (decide ((((msg_DecodeA (msg_Encode (⟨4, (⟨0, 0, 0, (⟨false, 0, false, false, 0, false, false, false, 0⟩ : api_Caps)⟩ : api_Open), (⟨[], (⟨0, [], 0, 0, 0, [], []⟩ : api_Attrs), []⟩ : api_Update), (⟨0, 0, []⟩ : api_Note)⟩ : api_Msg))).2).fCode : Int) = 0))) && (decide ((((msg_DecodeA (msg_Encode (⟨4, (⟨0, 0, 0, (⟨false, 0, false, false, 0, false, false, false, 0⟩ : api_Caps)⟩ : api_Open), (⟨[], (⟨0, [], 0, 0, 0, [], []⟩ : api_Attrs), []⟩ : api_Update), (⟨0, 0, []⟩ : api_Note)⟩ : api_Msg))).1).fKind : Int) = 4))) && (decide (((msg_Head (msg_Encode (⟨4, (⟨0, 0, 0, (⟨false, 0, false, false, 0, false, false, false, 0⟩ : api_Caps)⟩ : api_Open), (⟨[], (⟨0, [], 0, 0, 0, [], []⟩ : api_Attrs), []⟩ : api_Update), (⟨0, 0, []⟩ : api_Note)⟩ : api_Msg))).1 : Int) = 19))) && (decide ((((msg_Head (msg_Encode (⟨4, (⟨0, 0, 0, (⟨false, 0, false, false, 0, false, false, false, 0⟩ : api_Caps)⟩ : api_Open), (⟨[], (⟨0, [], 0, 0, 0, [], []⟩ : api_Attrs), []⟩ : api_Update), (⟨0, 0, []⟩ : api_Note)⟩ : api_Msg))).2).fCode : Int) = 0))) rfl rfl (.one (.tmp 0 (.sc (.bool (((((decide ((((msg_Encode (⟨4, (⟨0, 0, 0, (⟨false, 0, false, false, 0, false, false, false, 0⟩ : api_Caps)⟩ : api_Open), (⟨[], (⟨0, [], 0, 0, 0, [], []⟩ : api_Attrs), []⟩ : api_Update), (⟨0, 0, []⟩ : api_Note)⟩ : api_Msg)).length : Int) : Int) = 19)) && (decide ((((msg_DecodeA (msg_Encode (⟨4, (⟨0, 0, 0, (⟨false, 0, false, false, 0, false, false, false, 0⟩ : api_Caps)⟩ : api_Open), (⟨[], (⟨0, [], 0, 0, 0, [], []⟩ : api_Attrs), []⟩ : api_Update), (⟨0, 0, []⟩ : api_Note)⟩ : api_Msg))).2).fCode : Int) = 0))) && (decide ((((msg_DecodeA (msg_Encode (⟨4, (⟨0, 0, 0, (⟨false, 0, false, false, 0, false, false, false, 0⟩ : api_Caps)⟩ : api_Open), (⟨[], (⟨0, [], 0, 0, 0, [], []⟩ : api_Attrs), []⟩ : api_Update), (⟨0, 0, []⟩ : api_Note)⟩ : api_Msg))).1).fKind : Int) = 4))) && (decide (((msg_Head (msg_Encode (⟨4, (⟨0, 0, 0, (⟨false, 0, false, false, 0, false, false, false, 0⟩ : api_Caps)⟩ : api_Open), (⟨[], (⟨0, [], 0, 0, 0, [], []⟩ : api_Attrs), []⟩ : api_Update), (⟨0, 0, []⟩ : api_Note)⟩ : api_Msg))).1 : Int) = 19))) && (decide ((((msg_Head (msg_Encode (⟨4, (⟨0, 0, 0, (⟨false, 0, false, false, 0, false, false, false, 0⟩ : api_Caps)⟩ : api_Open), (⟨[], (⟨0, [], 0, 0, 0, [], []⟩ : api_Attrs), []⟩ : api_Update), (⟨0, 0, []⟩ : api_Note)⟩ : api_Msg))).2).fCode : Int) = 0))))) rfl) (.one (.rfl _)) rfl) trivial trivial
theorem law09_answers_pf  : PF Tryz.prog 6 [] (.sc (.bool law09_answers)) := pf_ofG (law09_answers_pf_g) rfl

/-- interregnum/interregnumref05.note -/
def ref05_note (code : Int) (sb : Int) (data : List Int) : api_Note :=
  (⟨code, sb, (([] : List Int) ++ data)⟩ : api_Note)
set_option maxRecDepth 100000 in
set_option maxHeartbeats 4000000 in
theorem ref05_note_pf_g (code : Int) (sb : Int) (data : List Int) (hn : data.length ≤ 1000000) : PG Tryz.prog 20 [] [] [.sc (.int .i64 code), .sc (.int .i64 sb), .sem (SL (eI .u8) data)] (fun _ : Unit => True) (fun _ => (fun (z : api_Note) => ⟨[], [], .agg (api_Note.cells z)⟩) (ref05_note code sb data)) := by
  refine pg_of (N := 13) (l := [.cell 6 38]) Tryz.func20 rfl rfl rfl (Nat.le_of_ble_eq_true rfl) fun w0 i0 F βs => ?_
  refine aw_seq ?_
  refine aw_region ?_
  refine al_op rfl (g_alloc (s := 6) (z := zv38) (qs := zc38) rfl rfl rfl rfl z38 rfl rfl) ?_
  refine al_nil ?_
  refine aw_seq ?_
  refine aw_region ?_
  refine al_op rfl (g_move (p := .sc (.int .i64 code)) rfl rfl rfl rfl) ?_
  refine al_op rfl (g_move (p := .sc (.int .i64 sb)) rfl rfl rfl rfl) ?_
  refine al_op rfl (g_buildSlice (E := (eI .u8)) (l := ([] : List Int)) (tp := 9) (parts := []) (qs := []) rfl rfl rfl el22 rfl rfl rfl rfl) ?_
  refine al_op rfl (g_move (p := .sem (SL (eI .u8) data)) rfl rfl rfl rfl) ?_
  refine al_op rfl (g_append (E := (eI .u8)) (l := ([] : List Int)) (ext := data) (tp := 9) rfl rfl rfl el22 rfl rfl (isSl_sem rfl) (by first | ((try simp only [zB, zC, zD, sub_len, msg_two_len, rep16_len]); omega) | ((try simp only [z1, z2, z3, z4, z5, z6, z7, z8, z9, zA, zB, zC, zD, wrap64, wrapu8, wrapu16, wrapu32, wrapu64, tmod_ite, tdiv_ite, sub_len, msg_two_len, rep16_len] at *); omega))) ?_
  refine al_op rfl (g_build (parts := [(0, .tmp 7), (1, .tmp 8), (2, .tmp 11)]) (pps := [(0, .sc (.int .i64 code)), (1, .sc (.int .i64 sb)), (2, .own 9 (List.length (α := Int) (([] : List Int) ++ data)) (SL (eI .u8) (([] : List Int) ++ data)))]) (qs := [.sc (.int .i64 code), .sc (.int .i64 sb), .own 9 (List.length (α := Int) (([] : List Int) ++ data)) (SL (eI .u8) (([] : List Int) ++ data))]) rfl rfl rfl bld38 rfl rfl (by kernel_rfl)) ?_
  refine al_op rfl (g_store (s := 6) (off := 0) (ps := zc38) (p := .agg [.sc (.int .i64 code), .sc (.int .i64 sb), .own 9 (List.length (α := Int) (([] : List Int) ++ data)) (SL (eI .u8) (([] : List Int) ++ data))]) (qs := [.sc (.int .i64 code), .sc (.int .i64 sb), .own 9 (List.length (α := Int) (([] : List Int) ++ data)) (SL (eI .u8) (([] : List Int) ++ data))]) rfl rfl ty38 rfl rfl rfl rfl rfl rfl rfl) ?_
  refine al_nil ?_
  refine aw_ret ?_
  exact endG_mk (F := (fun (z : api_Note) => ⟨[], [], .agg (api_Note.cells z)⟩)) (z := (ref05_note code sb data)) (v := (⟨code, sb, (([] : List Int) ++ data)⟩ : api_Note)) rfl rfl (.one (.cell 6 38 6 3 true [.sc (.int .i64 code), .sc (.int .i64 sb), .own 9 (List.length (α := Int) (([] : List Int) ++ data)) (SL (eI .u8) (([] : List Int) ++ data))] (.agg [.sc (.int .i64 code), .sc (.int .i64 sb), .sem (SL (eI .u8) (([] : List Int) ++ data))]) rfl rfl ty38 rfl rfl rfl) (.one (.rfl _)) rfl) trivial trivial
theorem ref05_note_pf (code : Int) (sb : Int) (data : List Int) (hn : data.length ≤ 1000000) : PF Tryz.prog 20 [.sc (.int .i64 code), .sc (.int .i64 sb), .sem (SL (eI .u8) data)] (.agg (api_Note.cells (ref05_note code sb data))) := pf_ofG (ref05_note_pf_g code sb data hn) rfl

def ref05_Head_l0 (b : List Int) : Nat → Int → (Int × api_Note) ⊕ (Int)
  | 0, _ => Sum.inr default
  | n0 + 1, x4_0 =>
    (bif decide ((x4_0 : Int) < 16) then
      (bif !(decide (((ix b x4_0) : Int) = 255)) then
        Sum.inl (0, (ref05_note 1 1 []))
      else
        ref05_Head_l0 b n0 (IntKind.wrap .i64 (x4_0 + 1)))
    else
      Sum.inr x4_0)
/-- interregnum/interregnumref05.Head -/
def ref05_Head (b : List Int) : Int × api_Note :=
  (bif decide (((b.length : Int) : Int) < 19) then
    (0, (⟨0, 0, []⟩ : api_Note))
  else
    (Sum.elim (fun z => z) (fun (x_0 : Int) =>
      (bif (decide (((IntKind.wrap .i64 ((IntKind.wrap .i64 (256 * (IntKind.wrap .i64 (ix b 16)))) + (IntKind.wrap .i64 (ix b 17)))) : Int) < 19)) || (decide ((4096 : Int) < (IntKind.wrap .i64 ((IntKind.wrap .i64 (256 * (IntKind.wrap .i64 (ix b 16)))) + (IntKind.wrap .i64 (ix b 17)))))) then
        (0, (ref05_note 1 2 (sub b 16 18)))
      else
        (bif (decide (((IntKind.wrap .i64 (ix b 18)) : Int) < 1)) || (decide ((4 : Int) < (IntKind.wrap .i64 (ix b 18)))) then
          (0, (ref05_note 1 3 (sub b 18 19)))
        else
          (bif ((((decide (((IntKind.wrap .i64 (ix b 18)) : Int) = 1)) && (decide (((IntKind.wrap .i64 ((IntKind.wrap .i64 (256 * (IntKind.wrap .i64 (ix b 16)))) + (IntKind.wrap .i64 (ix b 17)))) : Int) < 29))) || ((decide (((IntKind.wrap .i64 (ix b 18)) : Int) = 2)) && (decide (((IntKind.wrap .i64 ((IntKind.wrap .i64 (256 * (IntKind.wrap .i64 (ix b 16)))) + (IntKind.wrap .i64 (ix b 17)))) : Int) < 23)))) || ((decide (((IntKind.wrap .i64 (ix b 18)) : Int) = 3)) && (decide (((IntKind.wrap .i64 ((IntKind.wrap .i64 (256 * (IntKind.wrap .i64 (ix b 16)))) + (IntKind.wrap .i64 (ix b 17)))) : Int) < 21)))) || ((decide (((IntKind.wrap .i64 (ix b 18)) : Int) = 4)) && (!(decide (((IntKind.wrap .i64 ((IntKind.wrap .i64 (256 * (IntKind.wrap .i64 (ix b 16)))) + (IntKind.wrap .i64 (ix b 17)))) : Int) = 19)))) then
            (0, (ref05_note 1 2 (sub b 16 18)))
          else
            ((IntKind.wrap .i64 ((IntKind.wrap .i64 (256 * (IntKind.wrap .i64 (ix b 16)))) + (IntKind.wrap .i64 (ix b 17)))), (⟨0, 0, []⟩ : api_Note)))))) (ref05_Head_l0 b (((16 : Int) - 0).toNat + 1) 0)))
set_option maxRecDepth 100000 in
set_option maxHeartbeats 4000000 in
theorem ref05_Head_pf_g (b : List Int) : PG Tryz.prog 12 [] [] [.sem (SL (eI .u8) b)] (fun _ : Unit => True) (fun _ => (fun (z : Int × api_Note) => ⟨[], [], .tup [.sc (.int .i64 z.1), .agg (api_Note.cells z.2)]⟩) (ref05_Head b)) := by
  refine pg_of (N := 88) (l := [.tmp 2, .cell 3 38]) Tryz.func12 rfl rfl rfl (Nat.le_of_ble_eq_true rfl) fun w0 i0 F βs => ?_
  refine aw_len 0 rfl (fun hl1 => ?_)
  refine aw_seq ?_
  refine aw_region ?_
  refine al_op rfl (g_assign (p := .sc (.int .i64 0)) rfl rfl rfl rfl) ?_
  refine al_op rfl (g_alloc (s := 3) (z := zv38) (qs := zc38) rfl rfl rfl rfl z38 rfl rfl) ?_
  refine al_nil ?_
  refine aw_seq ?_
  refine aw_seq ?_
  refine aw_region ?_
  refine al_op rfl (g_move (p := .sem (SL (eI .u8) b)) rfl rfl rfl rfl) ?_
  refine al_op rfl (g_len rfl rfl rfl Tryz.underlying22 (isSl_sem rfl)) ?_
  refine al_op rfl (g_bin (u1 := .int .i64 (b.length : Int)) (u2 := .int .i64 19) (v := .bool (decide (((b.length : Int) : Int) < 19))) rfl rfl rfl rfl rfl (fun _ => rfl)) ?_
  refine al_nil ?_
  refine aw_cond (b := decide (((b.length : Int) : Int) < 19)) rfl (fun k2 => ?_) (fun k2 => ?_)
  · skip
    refine aw_seq ?_
    refine aw_region ?_
    refine al_op rfl (g_build (parts := []) (pps := []) (qs := zc38) rfl rfl rfl bld38 rfl rfl (by kernel_rfl)) ?_
    refine al_op rfl (g_assign (p := .sc (.int .i64 0)) rfl rfl rfl rfl) ?_
    refine al_op rfl (g_store (s := 3) (off := 0) (ps := zc38) (p := .agg zc38) (qs := zc38) rfl rfl ty38 rfl rfl rfl rfl rfl rfl rfl) ?_
    refine al_nil ?_
    refine aw_ret ?_
    exact endG_mk (F := (fun (z : Int × api_Note) => ⟨[], [], .tup [.sc (.int .i64 z.1), .agg (api_Note.cells z.2)]⟩)) (z := (ref05_Head b)) (v := (0, (⟨0, 0, []⟩ : api_Note))) (bT k2 rfl) rfl (.two (.tmp 2 (.sc (.int .i64 0)) rfl) (.one (.rfl _)) rfl (.cell 3 38 3 3 true zc38 (.agg zc38) rfl rfl ty38 rfl rfl rfl) (.agg (.cons (.rfl _) (.cons (.rfl _) (.cons (.nil _) .nil)))) rfl) trivial trivial
  · skip
    refine aw_skip ?_
    refine aw_seq ?_
    refine aw_seq ?_
    refine aw_region ?_
    refine al_op rfl (g_assign (p := .sc (.int .i64 0)) rfl rfl rfl rfl) ?_
    refine al_nil ?_
    refine aw_tailV (ι := Int) (p := fun x_0 => (ref05_Head_l0 b (((16 : Int) - 0).toNat + 1) 0) = .inr x_0) (S := fun x_0 => St.of 88 [(0, .sem (SL (eI .u8) b)), (2, .sc (.int .i64 0)), (3, .loc 3 0), (4, .sc (.int .i64 x_0))] [(3, zc38)] []) (by first | exact closedAW | exact closedV | exact closedS | exact closedJ) ?_ (fun x_0 e3 => ?_)
    · skip
      refine aw_block ?_
      refine aw_loopS (ι := Nat × Int) (S := fun i => St.of 88 [(0, .sem (SL (eI .u8) b)), (2, .sc (.int .i64 0)), (3, .loc 3 0), (4, .sc (.int .i64 i.2))] [(3, zc38)] []) (J := fun i => ref05_Head_l0 b i.1 i.2 = (ref05_Head_l0 b (((16 : Int) - 0).toNat + 1) 0) ∧ (((16 : Int) - i.2).toNat < i.1) ∧ (0 ≤ i.2)) (μ := fun i => i.1) (i₀ := ((((16 : Int) - 0).toNat + 1), 0)) (sub_of rfl ⟨⟨rfl, (.one (.rfl _))⟩, ⟨⟨rfl, (.one (.rfl _))⟩, ⟨⟨rfl, (.one (.rfl _))⟩, ⟨⟨rfl, (.one (.rfl _))⟩, trivial⟩⟩⟩⟩ ⟨⟨zc38, rfl, (.cons (.rfl _) (.cons (.rfl _) (.cons (.rfl _) .nil)))⟩, trivial⟩ trivial) ⟨rfl, (by first | omega | ((try simp only [z1, z2, z3, z4, z5, z6, z7, z8, z9, zA, zB, zC, zD, wrap64, wrapu8, wrapu16, wrapu32, wrapu64, tmod_ite, tdiv_ite, sub_len, msg_two_len, rep16_len] at *); omega) | ((try simp only [z1, z2, z3, z4, z5, z6, z7, z8, z9, zA, tmod_ite, tdiv_ite, sub_len, msg_two_len, rep16_len] at *); (try simp (disch := omega) only [wrap64_id]); (try simp only [z1, z2, z3, z4, z5, z6, z7, z8, z9, zA, zB, zC, zD, wrap64, wrapu8, wrapu16, wrapu32, wrapu64, tmod_ite, tdiv_ite, sub_len] at *); omega)), (by first | omega | ((try simp only [z1, z2, z3, z4, z5, z6, z7, z8, z9, zA, zB, zC, zD, wrap64, wrapu8, wrapu16, wrapu32, wrapu64, tmod_ite, tdiv_ite, sub_len, msg_two_len, rep16_len] at *); omega) | ((try simp only [z1, z2, z3, z4, z5, z6, z7, z8, z9, zA, tmod_ite, tdiv_ite, sub_len, msg_two_len, rep16_len] at *); (try simp (disch := omega) only [wrap64_id]); (try simp only [z1, z2, z3, z4, z5, z6, z7, z8, z9, zA, zB, zC, zD, wrap64, wrapu8, wrapu16, wrapu32, wrapu64, tmod_ite, tdiv_ite, sub_len] at *); omega))⟩ ?_
      rintro ⟨n0, x4_0⟩ ⟨hJ0, hm0_0, hm0_1⟩
      obtain ⟨n0, rfl⟩ : ∃ m, n0 = m + 1 := ⟨n0 - 1, by have : 0 < n0 := Nat.lt_of_le_of_lt (Nat.zero_le _) hm0_0; omega⟩
      replace hJ0 : ref05_Head_l0 b (n0 + 1) x4_0 = (ref05_Head_l0 b (((16 : Int) - 0).toNat + 1) 0) := hJ0
      replace hm0_0 : ((16 : Int) - x4_0).toNat < n0 + 1 := hm0_0
      replace hm0_1 : 0 ≤ x4_0 := hm0_1
      refine aw_len 0 rfl (fun hl4 => ?_)
      refine aw_seq ?_
      refine aw_seq ?_
      refine aw_region ?_
      refine al_op rfl (g_move (p := .sc (.int .i64 x4_0)) rfl rfl rfl rfl) ?_
      refine al_op rfl (g_bin (u1 := .int .i64 x4_0) (u2 := .int .i64 16) (v := .bool (decide ((x4_0 : Int) < 16))) rfl rfl rfl rfl rfl (fun _ => rfl)) ?_
      refine al_nil ?_
      refine aw_cond (b := decide ((x4_0 : Int) < 16)) rfl (fun k5 => ?_) (fun k5 => ?_)
      · skip
        refine aw_skip ?_
        refine aw_seq ?_
        refine aw_block ?_
        refine aw_seq ?_
        refine aw_region ?_
        refine al_op rfl (g_move (p := .sem (SL (eI .u8) b)) rfl rfl rfl rfl) ?_
        refine al_op rfl (g_move (p := .sc (.int .i64 x4_0)) rfl rfl rfl rfl) ?_
        refine al_op rfl (g_ix (E := (eI .u8)) (l := b) (n := x4_0) (ps := [.sc (.int .u8 (ix b x4_0))]) rfl rfl rfl Tryz.underlying22 ty5 (isSl_sem rfl) rfl (by first | omega | ((try simp only [z1, z2, z3, z4, z5, z6, z7, z8, z9, zA, zB, zC, zD, wrap64, wrapu8, wrapu16, wrapu32, wrapu64, tmod_ite, tdiv_ite, sub_len, msg_two_len, rep16_len] at *); omega) | ((try simp only [z1, z2, z3, z4, z5, z6, z7, z8, z9, zA, tmod_ite, tdiv_ite, sub_len, msg_two_len, rep16_len] at *); (try simp (disch := omega) only [wrap64_id]); (try simp only [z1, z2, z3, z4, z5, z6, z7, z8, z9, zA, zB, zC, zD, wrap64, wrapu8, wrapu16, wrapu32, wrapu64, tmod_ite, tdiv_ite, sub_len] at *); omega)) rfl) ?_
        refine al_op rfl (g_loadPT (ps := [.sc (.int .u8 (ix b x4_0))]) (p := .sc (.int .u8 (ix b x4_0))) rfl rfl rfl ty5 rfl rfl rfl rfl rfl) ?_
        refine al_op rfl (g_bin (u1 := .int .u8 (ix b x4_0)) (u2 := .int .u8 255) (v := .bool (!(decide (((ix b x4_0) : Int) = 255)))) rfl rfl rfl rfl rfl (fun _ => rfl)) ?_
        refine al_nil ?_
        refine aw_cond (b := !(decide (((ix b x4_0) : Int) = 255))) rfl (fun k6 => ?_) (fun k6 => ?_)
        · skip
          refine aw_seq ?_
          refine aw_region ?_
          refine al_op rfl (g_call (fn := Tryz.f20) (xs := [.const (.int .i64 1), .const (.int .i64 1), .const (.slice none 0 0)]) (args := [.sc (.int .i64 1), .sc (.int .i64 1), .sc (.slice none 0 0)]) (r := .agg (api_Note.cells (ref05_note 1 1 []))) rfl rfl rfl Tryz.func20 rfl rfl rfl rfl rfl (pf_weak (ref05_note_pf 1 1 [] (by first | omega | ((try simp only [z1, z2, z3, z4, z5, z6, z7, z8, z9, zA, zB, zC, zD, wrap64, wrapu8, wrapu16, wrapu32, wrapu64, tmod_ite, tdiv_ite, sub_len, msg_two_len, rep16_len] at *); omega) | ((try simp only [z1, z2, z3, z4, z5, z6, z7, z8, z9, zA, tmod_ite, tdiv_ite, sub_len, msg_two_len, rep16_len] at *); (try simp (disch := omega) only [wrap64_id]); (try simp only [z1, z2, z3, z4, z5, z6, z7, z8, z9, zA, zB, zC, zD, wrap64, wrapu8, wrapu16, wrapu32, wrapu64, tmod_ite, tdiv_ite, sub_len] at *); omega))) (.cons (.one (.rfl _)) (.cons (.one (.rfl _)) (.cons (.one (.nil _)) .nil))))) ?_
          refine al_op rfl (g_assign (p := .sc (.int .i64 0)) rfl rfl rfl rfl) ?_
          refine al_op rfl (g_store (s := 3) (off := 0) (ps := zc38) (p := .agg (api_Note.cells (ref05_note 1 1 []))) (qs := (api_Note.cells (ref05_note 1 1 []))) rfl rfl ty38 rfl rfl rfl rfl rfl rfl rfl) ?_
          refine al_nil ?_
          refine aw_ret ?_
          exact endG_mk (F := (fun (z : Int × api_Note) => ⟨[], [], .tup [.sc (.int .i64 z.1), .agg (api_Note.cells z.2)]⟩)) (z := (ref05_Head b)) (v := (0, (ref05_note 1 1 []))) (bF k2 (mL (hJ0.symm.trans (bT k5 (bT k6 rfl))) rfl)) rfl (.two (.tmp 2 (.sc (.int .i64 0)) rfl) (.one (.rfl _)) rfl (.cell 3 38 3 3 true (api_Note.cells (ref05_note 1 1 [])) (.agg (api_Note.cells (ref05_note 1 1 []))) rfl rfl ty38 rfl rfl rfl) (.one (.rfl _)) rfl) trivial trivial
        · skip
          refine aw_skip ?_
          refine aw_region ?_
          refine al_op rfl (g_move (p := .sc (.int .i64 x4_0)) rfl rfl rfl rfl) ?_
          refine al_op rfl (g_bin (u1 := .int .i64 x4_0) (u2 := .int .i64 1) (v := .int .i64 (IntKind.wrap .i64 (x4_0 + 1))) rfl rfl rfl rfl rfl (fun _ => rfl)) ?_
          refine al_op rfl (g_assign (p := .sc (.int .i64 (IntKind.wrap .i64 (x4_0 + 1)))) rfl rfl rfl rfl) ?_
          refine al_nil ?_
          exact ⟨(n0, (IntKind.wrap .i64 (x4_0 + 1))), (sub_of rfl ⟨⟨rfl, (.one (.rfl _))⟩, ⟨⟨rfl, (.one (.rfl _))⟩, ⟨⟨rfl, (.one (.rfl _))⟩, ⟨⟨rfl, (.one (.rfl _))⟩, trivial⟩⟩⟩⟩ ⟨⟨zc38, rfl, (.cons (.rfl _) (.cons (.rfl _) (.cons (.rfl _) .nil)))⟩, trivial⟩ trivial), ⟨Eq.trans (Eq.symm (bT k5 (bF k6 rfl))) hJ0, (by first | omega | ((try simp only [z1, z2, z3, z4, z5, z6, z7, z8, z9, zA, zB, zC, zD, wrap64, wrapu8, wrapu16, wrapu32, wrapu64, tmod_ite, tdiv_ite, sub_len, msg_two_len, rep16_len] at *); omega) | ((try simp only [z1, z2, z3, z4, z5, z6, z7, z8, z9, zA, tmod_ite, tdiv_ite, sub_len, msg_two_len, rep16_len] at *); (try simp (disch := omega) only [wrap64_id]); (try simp only [z1, z2, z3, z4, z5, z6, z7, z8, z9, zA, zB, zC, zD, wrap64, wrapu8, wrapu16, wrapu32, wrapu64, tmod_ite, tdiv_ite, sub_len] at *); omega)), (by first | omega | ((try simp only [z1, z2, z3, z4, z5, z6, z7, z8, z9, zA, zB, zC, zD, wrap64, wrapu8, wrapu16, wrapu32, wrapu64, tmod_ite, tdiv_ite, sub_len, msg_two_len, rep16_len] at *); omega) | ((try simp only [z1, z2, z3, z4, z5, z6, z7, z8, z9, zA, tmod_ite, tdiv_ite, sub_len, msg_two_len, rep16_len] at *); (try simp (disch := omega) only [wrap64_id]); (try simp only [z1, z2, z3, z4, z5, z6, z7, z8, z9, zA, zB, zC, zD, wrap64, wrapu8, wrapu16, wrapu32, wrapu64, tmod_ite, tdiv_ite, sub_len] at *); omega))⟩, Nat.lt_succ_self _⟩
      · skip
        refine aw_exit ?_
        exact ⟨x4_0, hJ0.symm.trans (bF k5 rfl), (sub_of rfl ⟨⟨rfl, (.one (.rfl _))⟩, ⟨⟨rfl, (.one (.rfl _))⟩, ⟨⟨rfl, (.one (.rfl _))⟩, ⟨⟨rfl, (.one (.rfl _))⟩, trivial⟩⟩⟩⟩ ⟨⟨zc38, rfl, (.cons (.rfl _) (.cons (.rfl _) (.cons (.rfl _) .nil)))⟩, trivial⟩ trivial)⟩
    · skip
      refine aw_len 0 rfl (fun hl7 => ?_)
      refine aw_seq ?_
      refine aw_plan { ds := [some 21, some 22, some 23, some 24, some 25, some 26, some 27, some 28, some 29, some 30, some 31, some 32, some 33, some 34, some 5, some 6], p := fun i => [.sem (SL (eI .u8) b), .sem (PT [.sc (.int .u8 (ix b 16))]), .sc (.int .u8 (ix b 16)), .sc (.int .i64 (IntKind.wrap .i64 (ix b 16))), .sc (.int .i64 (IntKind.wrap .i64 (256 * (IntKind.wrap .i64 (ix b 16))))), .sem (SL (eI .u8) b), .sem (PT [.sc (.int .u8 (ix b 17))]), .sc (.int .u8 (ix b 17)), .sc (.int .i64 (IntKind.wrap .i64 (ix b 17))), .sc (.int .i64 (IntKind.wrap .i64 ((IntKind.wrap .i64 (256 * (IntKind.wrap .i64 (ix b 16)))) + (IntKind.wrap .i64 (ix b 17))))), .sem (SL (eI .u8) b), .sem (PT [.sc (.int .u8 (ix b 18))]), .sc (.int .u8 (ix b 18)), .sc (.int .i64 (IntKind.wrap .i64 (ix b 18))), .sc (.int .i64 (IntKind.wrap .i64 ((IntKind.wrap .i64 (256 * (IntKind.wrap .i64 (ix b 16)))) + (IntKind.wrap .i64 (ix b 17))))), .sc (.int .i64 (IntKind.wrap .i64 (ix b 18)))].getD i .any, al := [], st := [] } rfl (by kernel_rfl) rfl rfl ?_ (fun bD hb => ?_)
      · refine ⟨fun bD hc hi hd => ?_, fun bD hc hi hd => ?_, fun bD hc hi hd => ?_, fun bD hc hi hd => ?_, fun bD hc hi hd => ?_, fun bD hc hi hd => ?_, fun bD hc hi hd => ?_, fun bD hc hi hd => ?_, fun bD hc hi hd => ?_, fun bD hc hi hd => ?_, fun bD hc hi hd => ?_, fun bD hc hi hd => ?_, fun bD hc hi hd => ?_, fun bD hc hi hd => ?_, fun bD hc hi hd => ?_, fun bD hc hi hd => ?_, trivial⟩
        · exact Plan.putStep (i := 0) (q := .sem (SL (eI .u8) b)) rfl rfl rfl (gs_plain rfl (g_move (p := .sem (SL (eI .u8) b)) rfl rfl rfl rfl))
        · exact Plan.putStep (i := 1) (q := .sem (PT [.sc (.int .u8 (ix b 16))])) rfl rfl rfl (gs_plain rfl (g_ix (E := (eI .u8)) (l := b) (n := 16) (ps := [.sc (.int .u8 (ix b 16))]) rfl rfl rfl Tryz.underlying22 ty5 (by exact (isSl_sem (by exact (gt (p := .sem (SL (eI .u8) b)) (q := .any) (hd 0 (by decide)))))) rfl (by first | omega | ((try simp only [z1, z2, z3, z4, z5, z6, z7, z8, z9, zA, zB, zC, zD, wrap64, wrapu8, wrapu16, wrapu32, wrapu64, tmod_ite, tdiv_ite, sub_len, msg_two_len, rep16_len] at *); omega) | ((try simp only [z1, z2, z3, z4, z5, z6, z7, z8, z9, zA, tmod_ite, tdiv_ite, sub_len, msg_two_len, rep16_len] at *); (try simp (disch := omega) only [wrap64_id]); (try simp only [z1, z2, z3, z4, z5, z6, z7, z8, z9, zA, zB, zC, zD, wrap64, wrapu8, wrapu16, wrapu32, wrapu64, tmod_ite, tdiv_ite, sub_len] at *); omega)) rfl))
        · exact Plan.putStep (i := 2) (q := .sc (.int .u8 (ix b 16))) rfl rfl rfl (gs_plain rfl (g_loadPT (ps := [.sc (.int .u8 (ix b 16))]) (p := .sc (.int .u8 (ix b 16))) rfl rfl rfl ty5 (gt (p := .sem (PT [.sc (.int .u8 (ix b 16))])) (q := .any) (hd 1 (by decide))) rfl rfl rfl rfl))
        · exact Plan.putStep (i := 3) (q := .sc (.int .i64 (IntKind.wrap .i64 (ix b 16)))) rfl rfl rfl (gs_plain rfl (g_conv (m := (IntKind.wrap .i64 (ix b 16))) rfl rfl rfl Tryz.underlying5 Tryz.underlying3 (gt (p := .sc (.int .u8 (ix b 16))) (q := .any) (hd 2 (by decide))) rfl))
        · exact Plan.putStep (i := 4) (q := .sc (.int .i64 (IntKind.wrap .i64 (256 * (IntKind.wrap .i64 (ix b 16)))))) rfl rfl rfl (gs_plain rfl (g_bin (u1 := .int .i64 256) (u2 := .int .i64 (IntKind.wrap .i64 (ix b 16))) (v := .int .i64 (IntKind.wrap .i64 (256 * (IntKind.wrap .i64 (ix b 16))))) rfl rfl rfl rfl (gt (p := .sc (.int .i64 (IntKind.wrap .i64 (ix b 16)))) (q := .any) (hd 3 (by decide))) (fun _ => rfl)))
        · exact Plan.putStep (i := 5) (q := .sem (SL (eI .u8) b)) rfl rfl rfl (gs_plain rfl (g_move (p := .sem (SL (eI .u8) b)) rfl rfl rfl rfl))
        · exact Plan.putStep (i := 6) (q := .sem (PT [.sc (.int .u8 (ix b 17))])) rfl rfl rfl (gs_plain rfl (g_ix (E := (eI .u8)) (l := b) (n := 17) (ps := [.sc (.int .u8 (ix b 17))]) rfl rfl rfl Tryz.underlying22 ty5 (by exact (isSl_sem (by exact (gt (p := .sem (SL (eI .u8) b)) (q := .any) (hd 5 (by decide)))))) rfl (by first | omega | ((try simp only [z1, z2, z3, z4, z5, z6, z7, z8, z9, zA, zB, zC, zD, wrap64, wrapu8, wrapu16, wrapu32, wrapu64, tmod_ite, tdiv_ite, sub_len, msg_two_len, rep16_len] at *); omega) | ((try simp only [z1, z2, z3, z4, z5, z6, z7, z8, z9, zA, tmod_ite, tdiv_ite, sub_len, msg_two_len, rep16_len] at *); (try simp (disch := omega) only [wrap64_id]); (try simp only [z1, z2, z3, z4, z5, z6, z7, z8, z9, zA, zB, zC, zD, wrap64, wrapu8, wrapu16, wrapu32, wrapu64, tmod_ite, tdiv_ite, sub_len] at *); omega)) rfl))
        · exact Plan.putStep (i := 7) (q := .sc (.int .u8 (ix b 17))) rfl rfl rfl (gs_plain rfl (g_loadPT (ps := [.sc (.int .u8 (ix b 17))]) (p := .sc (.int .u8 (ix b 17))) rfl rfl rfl ty5 (gt (p := .sem (PT [.sc (.int .u8 (ix b 17))])) (q := .any) (hd 6 (by decide))) rfl rfl rfl rfl))
        · exact Plan.putStep (i := 8) (q := .sc (.int .i64 (IntKind.wrap .i64 (ix b 17)))) rfl rfl rfl (gs_plain rfl (g_conv (m := (IntKind.wrap .i64 (ix b 17))) rfl rfl rfl Tryz.underlying5 Tryz.underlying3 (gt (p := .sc (.int .u8 (ix b 17))) (q := .any) (hd 7 (by decide))) rfl))
        · exact Plan.putStep (i := 9) (q := .sc (.int .i64 (IntKind.wrap .i64 ((IntKind.wrap .i64 (256 * (IntKind.wrap .i64 (ix b 16)))) + (IntKind.wrap .i64 (ix b 17)))))) rfl rfl rfl (gs_plain rfl (g_bin (u1 := .int .i64 (IntKind.wrap .i64 (256 * (IntKind.wrap .i64 (ix b 16))))) (u2 := .int .i64 (IntKind.wrap .i64 (ix b 17))) (v := .int .i64 (IntKind.wrap .i64 ((IntKind.wrap .i64 (256 * (IntKind.wrap .i64 (ix b 16)))) + (IntKind.wrap .i64 (ix b 17))))) rfl rfl rfl (gt (p := .sc (.int .i64 (IntKind.wrap .i64 (256 * (IntKind.wrap .i64 (ix b 16)))))) (q := .any) (hd 4 (by decide))) (gt (p := .sc (.int .i64 (IntKind.wrap .i64 (ix b 17)))) (q := .any) (hd 8 (by decide))) (fun _ => rfl)))
        · exact Plan.putStep (i := 10) (q := .sem (SL (eI .u8) b)) rfl rfl rfl (gs_plain rfl (g_move (p := .sem (SL (eI .u8) b)) rfl rfl rfl rfl))
        · exact Plan.putStep (i := 11) (q := .sem (PT [.sc (.int .u8 (ix b 18))])) rfl rfl rfl (gs_plain rfl (g_ix (E := (eI .u8)) (l := b) (n := 18) (ps := [.sc (.int .u8 (ix b 18))]) rfl rfl rfl Tryz.underlying22 ty5 (by exact (isSl_sem (by exact (gt (p := .sem (SL (eI .u8) b)) (q := .any) (hd 10 (by decide)))))) rfl (by first | omega | ((try simp only [z1, z2, z3, z4, z5, z6, z7, z8, z9, zA, zB, zC, zD, wrap64, wrapu8, wrapu16, wrapu32, wrapu64, tmod_ite, tdiv_ite, sub_len, msg_two_len, rep16_len] at *); omega) | ((try simp only [z1, z2, z3, z4, z5, z6, z7, z8, z9, zA, tmod_ite, tdiv_ite, sub_len, msg_two_len, rep16_len] at *); (try simp (disch := omega) only [wrap64_id]); (try simp only [z1, z2, z3, z4, z5, z6, z7, z8, z9, zA, zB, zC, zD, wrap64, wrapu8, wrapu16, wrapu32, wrapu64, tmod_ite, tdiv_ite, sub_len] at *); omega)) rfl))
        · exact Plan.putStep (i := 12) (q := .sc (.int .u8 (ix b 18))) rfl rfl rfl (gs_plain rfl (g_loadPT (ps := [.sc (.int .u8 (ix b 18))]) (p := .sc (.int .u8 (ix b 18))) rfl rfl rfl ty5 (gt (p := .sem (PT [.sc (.int .u8 (ix b 18))])) (q := .any) (hd 11 (by decide))) rfl rfl rfl rfl))
        · exact Plan.putStep (i := 13) (q := .sc (.int .i64 (IntKind.wrap .i64 (ix b 18)))) rfl rfl rfl (gs_plain rfl (g_conv (m := (IntKind.wrap .i64 (ix b 18))) rfl rfl rfl Tryz.underlying5 Tryz.underlying3 (gt (p := .sc (.int .u8 (ix b 18))) (q := .any) (hd 12 (by decide))) rfl))
        · exact Plan.putStep (i := 14) (q := .sc (.int .i64 (IntKind.wrap .i64 ((IntKind.wrap .i64 (256 * (IntKind.wrap .i64 (ix b 16)))) + (IntKind.wrap .i64 (ix b 17)))))) rfl rfl rfl (gs_plain rfl (g_assign (p := .sc (.int .i64 (IntKind.wrap .i64 ((IntKind.wrap .i64 (256 * (IntKind.wrap .i64 (ix b 16)))) + (IntKind.wrap .i64 (ix b 17)))))) rfl rfl rfl (gt (p := .sc (.int .i64 (IntKind.wrap .i64 ((IntKind.wrap .i64 (256 * (IntKind.wrap .i64 (ix b 16)))) + (IntKind.wrap .i64 (ix b 17)))))) (q := .any) (hd 9 (by decide)))))
        · exact Plan.putStep (i := 15) (q := .sc (.int .i64 (IntKind.wrap .i64 (ix b 18)))) rfl rfl rfl (gs_plain rfl (g_assign (p := .sc (.int .i64 (IntKind.wrap .i64 (ix b 18)))) rfl rfl rfl (gt (p := .sc (.int .i64 (IntKind.wrap .i64 (ix b 18)))) (q := .any) (hd 13 (by decide)))))
      obtain rfl : bD = fun _ => true := funext hb
      refine aw_seq ?_
      refine aw_seq ?_
      refine aw_region ?_
      refine al_op rfl (g_move (p := .sc (.int .i64 (IntKind.wrap .i64 ((IntKind.wrap .i64 (256 * (IntKind.wrap .i64 (ix b 16)))) + (IntKind.wrap .i64 (ix b 17)))))) rfl rfl rfl rfl) ?_
      refine al_op rfl (g_bin (u1 := .int .i64 (IntKind.wrap .i64 ((IntKind.wrap .i64 (256 * (IntKind.wrap .i64 (ix b 16)))) + (IntKind.wrap .i64 (ix b 17))))) (u2 := .int .i64 19) (v := .bool (decide (((IntKind.wrap .i64 ((IntKind.wrap .i64 (256 * (IntKind.wrap .i64 (ix b 16)))) + (IntKind.wrap .i64 (ix b 17)))) : Int) < 19))) rfl rfl rfl rfl rfl (fun _ => rfl)) ?_
      refine al_op rfl (g_move (p := .sc (.bool (decide (((IntKind.wrap .i64 ((IntKind.wrap .i64 (256 * (IntKind.wrap .i64 (ix b 16)))) + (IntKind.wrap .i64 (ix b 17)))) : Int) < 19)))) rfl rfl rfl rfl) ?_
      refine al_gW (C := !(decide (((IntKind.wrap .i64 ((IntKind.wrap .i64 (256 * (IntKind.wrap .i64 (ix b 16)))) + (IntKind.wrap .i64 (ix b 17)))) : Int) < 19))) (p := .sc (.int .i64 (IntKind.wrap .i64 ((IntKind.wrap .i64 (256 * (IntKind.wrap .i64 (ix b 16)))) + (IntKind.wrap .i64 (ix b 17)))))) (gd_F (b := decide (((IntKind.wrap .i64 ((IntKind.wrap .i64 (256 * (IntKind.wrap .i64 (ix b 16)))) + (IntKind.wrap .i64 (ix b 17)))) : Int) < 19)) (c := !(decide (((IntKind.wrap .i64 ((IntKind.wrap .i64 (256 * (IntKind.wrap .i64 (ix b 16)))) + (IntKind.wrap .i64 (ix b 17)))) : Int) < 19))) rfl rfl rfl rfl rfl rfl) rfl rfl (fun g8 => g_move (p := .sc (.int .i64 (IntKind.wrap .i64 ((IntKind.wrap .i64 (256 * (IntKind.wrap .i64 (ix b 16)))) + (IntKind.wrap .i64 (ix b 17)))))) rfl rfl rfl rfl) ?_
      refine al_gW (C := !(decide (((IntKind.wrap .i64 ((IntKind.wrap .i64 (256 * (IntKind.wrap .i64 (ix b 16)))) + (IntKind.wrap .i64 (ix b 17)))) : Int) < 19))) (p := .sc (.bool (decide ((4096 : Int) < (IntKind.wrap .i64 ((IntKind.wrap .i64 (256 * (IntKind.wrap .i64 (ix b 16)))) + (IntKind.wrap .i64 (ix b 17)))))))) (gd_F (b := decide (((IntKind.wrap .i64 ((IntKind.wrap .i64 (256 * (IntKind.wrap .i64 (ix b 16)))) + (IntKind.wrap .i64 (ix b 17)))) : Int) < 19)) (c := !(decide (((IntKind.wrap .i64 ((IntKind.wrap .i64 (256 * (IntKind.wrap .i64 (ix b 16)))) + (IntKind.wrap .i64 (ix b 17)))) : Int) < 19))) rfl rfl rfl rfl rfl rfl) rfl rfl (fun g9 => g_bin (u1 := .int .i64 (IntKind.wrap .i64 ((IntKind.wrap .i64 (256 * (IntKind.wrap .i64 (ix b 16)))) + (IntKind.wrap .i64 (ix b 17))))) (u2 := .int .i64 4096) (v := .bool (decide ((4096 : Int) < (IntKind.wrap .i64 ((IntKind.wrap .i64 (256 * (IntKind.wrap .i64 (ix b 16)))) + (IntKind.wrap .i64 (ix b 17))))))) rfl rfl rfl (gt (p := .sc (.int .i64 (IntKind.wrap .i64 ((IntKind.wrap .i64 (256 * (IntKind.wrap .i64 (ix b 16)))) + (IntKind.wrap .i64 (ix b 17)))))) (q := .sc undef) g9) rfl (fun _ => rfl)) ?_
      refine al_op rfl (g_orU (b := decide (((IntKind.wrap .i64 ((IntKind.wrap .i64 (256 * (IntKind.wrap .i64 (ix b 16)))) + (IntKind.wrap .i64 (ix b 17)))) : Int) < 19)) (y := decide ((4096 : Int) < (IntKind.wrap .i64 ((IntKind.wrap .i64 (256 * (IntKind.wrap .i64 (ix b 16)))) + (IntKind.wrap .i64 (ix b 17)))))) rfl rfl rfl rfl rfl rfl) ?_
      refine al_nil ?_
      refine aw_cond (b := (decide (((IntKind.wrap .i64 ((IntKind.wrap .i64 (256 * (IntKind.wrap .i64 (ix b 16)))) + (IntKind.wrap .i64 (ix b 17)))) : Int) < 19)) || (decide ((4096 : Int) < (IntKind.wrap .i64 ((IntKind.wrap .i64 (256 * (IntKind.wrap .i64 (ix b 16)))) + (IntKind.wrap .i64 (ix b 17))))))) rfl (fun k10 => ?_) (fun k10 => ?_)
      · skip
        refine aw_seq ?_
        refine aw_region ?_
        refine al_op rfl (g_move (p := .sem (SL (eI .u8) b)) rfl rfl rfl rfl) ?_
        refine al_op rfl (step_slice (E := (eI .u8)) (l := b) (i := 16) (j := 18) rfl rfl rfl Tryz.underlying22 ty5 (isSl_sem rfl) (isB_some rfl) (isB_some rfl) (show 0 ≤ 16 ∧ 16 ≤ 18 ∧ 18 ≤ (b.length : Int) from (by first | omega | ((try simp only [z1, z2, z3, z4, z5, z6, z7, z8, z9, zA, zB, zC, zD, wrap64, wrapu8, wrapu16, wrapu32, wrapu64, tmod_ite, tdiv_ite, sub_len, msg_two_len, rep16_len] at *); omega) | ((try simp only [z1, z2, z3, z4, z5, z6, z7, z8, z9, zA, tmod_ite, tdiv_ite, sub_len, msg_two_len, rep16_len] at *); (try simp (disch := omega) only [wrap64_id]); (try simp only [z1, z2, z3, z4, z5, z6, z7, z8, z9, zA, zB, zC, zD, wrap64, wrapu8, wrapu16, wrapu32, wrapu64, tmod_ite, tdiv_ite, sub_len] at *); omega)))) ?_
        refine al_op rfl (g_call (fn := Tryz.f20) (xs := [.const (.int .i64 1), .const (.int .i64 2), .tmp 42]) (args := [.sc (.int .i64 1), .sc (.int .i64 2), .sem (SL (eI .u8) (sub b 16 18))]) (r := .agg (api_Note.cells (ref05_note 1 2 (sub b 16 18)))) rfl rfl rfl Tryz.func20 rfl rfl rfl rfl rfl (ref05_note_pf 1 2 (sub b 16 18) (by first | omega | ((try simp only [z1, z2, z3, z4, z5, z6, z7, z8, z9, zA, zB, zC, zD, wrap64, wrapu8, wrapu16, wrapu32, wrapu64, tmod_ite, tdiv_ite, sub_len, msg_two_len, rep16_len] at *); omega) | ((try simp only [z1, z2, z3, z4, z5, z6, z7, z8, z9, zA, tmod_ite, tdiv_ite, sub_len, msg_two_len, rep16_len] at *); (try simp (disch := omega) only [wrap64_id]); (try simp only [z1, z2, z3, z4, z5, z6, z7, z8, z9, zA, zB, zC, zD, wrap64, wrapu8, wrapu16, wrapu32, wrapu64, tmod_ite, tdiv_ite, sub_len] at *); omega)))) ?_
        refine al_op rfl (g_assign (p := .sc (.int .i64 0)) rfl rfl rfl rfl) ?_
        refine al_op rfl (g_store (s := 3) (off := 0) (ps := zc38) (p := .agg (api_Note.cells (ref05_note 1 2 (sub b 16 18)))) (qs := (api_Note.cells (ref05_note 1 2 (sub b 16 18)))) rfl rfl ty38 rfl rfl rfl rfl rfl rfl rfl) ?_
        refine al_nil ?_
        refine aw_ret ?_
        exact endG_mk (F := (fun (z : Int × api_Note) => ⟨[], [], .tup [.sc (.int .i64 z.1), .agg (api_Note.cells z.2)]⟩)) (z := (ref05_Head b)) (v := (0, (ref05_note 1 2 (sub b 16 18)))) (bF k2 (mR e3 (bT k10 rfl))) rfl (.two (.tmp 2 (.sc (.int .i64 0)) rfl) (.one (.rfl _)) rfl (.cell 3 38 3 3 true (api_Note.cells (ref05_note 1 2 (sub b 16 18))) (.agg (api_Note.cells (ref05_note 1 2 (sub b 16 18)))) rfl rfl ty38 rfl rfl rfl) (.one (.rfl _)) rfl) trivial trivial
      · skip
        refine aw_skip ?_
        refine aw_seq ?_
        refine aw_seq ?_
        refine aw_region ?_
        refine al_op rfl (g_move (p := .sc (.int .i64 (IntKind.wrap .i64 (ix b 18)))) rfl rfl rfl rfl) ?_
        refine al_op rfl (g_bin (u1 := .int .i64 (IntKind.wrap .i64 (ix b 18))) (u2 := .int .i64 1) (v := .bool (decide (((IntKind.wrap .i64 (ix b 18)) : Int) < 1))) rfl rfl rfl rfl rfl (fun _ => rfl)) ?_
        refine al_op rfl (g_move (p := .sc (.bool (decide (((IntKind.wrap .i64 (ix b 18)) : Int) < 1)))) rfl rfl rfl rfl) ?_
        refine al_gW (C := !(decide (((IntKind.wrap .i64 (ix b 18)) : Int) < 1))) (p := .sc (.int .i64 (IntKind.wrap .i64 (ix b 18)))) (gd_F (b := decide (((IntKind.wrap .i64 (ix b 18)) : Int) < 1)) (c := !(decide (((IntKind.wrap .i64 (ix b 18)) : Int) < 1))) rfl rfl rfl rfl rfl rfl) rfl rfl (fun g11 => g_move (p := .sc (.int .i64 (IntKind.wrap .i64 (ix b 18)))) rfl rfl rfl rfl) ?_
        refine al_gW (C := !(decide (((IntKind.wrap .i64 (ix b 18)) : Int) < 1))) (p := .sc (.bool (decide ((4 : Int) < (IntKind.wrap .i64 (ix b 18)))))) (gd_F (b := decide (((IntKind.wrap .i64 (ix b 18)) : Int) < 1)) (c := !(decide (((IntKind.wrap .i64 (ix b 18)) : Int) < 1))) rfl rfl rfl rfl rfl rfl) rfl rfl (fun g12 => g_bin (u1 := .int .i64 (IntKind.wrap .i64 (ix b 18))) (u2 := .int .i64 4) (v := .bool (decide ((4 : Int) < (IntKind.wrap .i64 (ix b 18))))) rfl rfl rfl (gt (p := .sc (.int .i64 (IntKind.wrap .i64 (ix b 18)))) (q := .sc undef) g12) rfl (fun _ => rfl)) ?_
        refine al_op rfl (g_orU (b := decide (((IntKind.wrap .i64 (ix b 18)) : Int) < 1)) (y := decide ((4 : Int) < (IntKind.wrap .i64 (ix b 18)))) rfl rfl rfl rfl rfl rfl) ?_
        refine al_nil ?_
        refine aw_cond (b := (decide (((IntKind.wrap .i64 (ix b 18)) : Int) < 1)) || (decide ((4 : Int) < (IntKind.wrap .i64 (ix b 18))))) rfl (fun k13 => ?_) (fun k13 => ?_)
        · skip
          refine aw_seq ?_
          refine aw_region ?_
          refine al_op rfl (g_move (p := .sem (SL (eI .u8) b)) rfl rfl rfl rfl) ?_
          refine al_op rfl (step_slice (E := (eI .u8)) (l := b) (i := 18) (j := 19) rfl rfl rfl Tryz.underlying22 ty5 (isSl_sem rfl) (isB_some rfl) (isB_some rfl) (show 0 ≤ 18 ∧ 18 ≤ 19 ∧ 19 ≤ (b.length : Int) from (by first | omega | ((try simp only [z1, z2, z3, z4, z5, z6, z7, z8, z9, zA, zB, zC, zD, wrap64, wrapu8, wrapu16, wrapu32, wrapu64, tmod_ite, tdiv_ite, sub_len, msg_two_len, rep16_len] at *); omega) | ((try simp only [z1, z2, z3, z4, z5, z6, z7, z8, z9, zA, tmod_ite, tdiv_ite, sub_len, msg_two_len, rep16_len] at *); (try simp (disch := omega) only [wrap64_id]); (try simp only [z1, z2, z3, z4, z5, z6, z7, z8, z9, zA, zB, zC, zD, wrap64, wrapu8, wrapu16, wrapu32, wrapu64, tmod_ite, tdiv_ite, sub_len] at *); omega)))) ?_
          refine al_op rfl (g_call (fn := Tryz.f20) (xs := [.const (.int .i64 1), .const (.int .i64 3), .tmp 51]) (args := [.sc (.int .i64 1), .sc (.int .i64 3), .sem (SL (eI .u8) (sub b 18 19))]) (r := .agg (api_Note.cells (ref05_note 1 3 (sub b 18 19)))) rfl rfl rfl Tryz.func20 rfl rfl rfl rfl rfl (ref05_note_pf 1 3 (sub b 18 19) (by first | omega | ((try simp only [z1, z2, z3, z4, z5, z6, z7, z8, z9, zA, zB, zC, zD, wrap64, wrapu8, wrapu16, wrapu32, wrapu64, tmod_ite, tdiv_ite, sub_len, msg_two_len, rep16_len] at *); omega) | ((try simp only [z1, z2, z3, z4, z5, z6, z7, z8, z9, zA, tmod_ite, tdiv_ite, sub_len, msg_two_len, rep16_len] at *); (try simp (disch := omega) only [wrap64_id]); (try simp only [z1, z2, z3, z4, z5, z6, z7, z8, z9, zA, zB, zC, zD, wrap64, wrapu8, wrapu16, wrapu32, wrapu64, tmod_ite, tdiv_ite, sub_len] at *); omega)))) ?_
          refine al_op rfl (g_assign (p := .sc (.int .i64 0)) rfl rfl rfl rfl) ?_
          refine al_op rfl (g_store (s := 3) (off := 0) (ps := zc38) (p := .agg (api_Note.cells (ref05_note 1 3 (sub b 18 19)))) (qs := (api_Note.cells (ref05_note 1 3 (sub b 18 19)))) rfl rfl ty38 rfl rfl rfl rfl rfl rfl rfl) ?_
          refine al_nil ?_
          refine aw_ret ?_
          exact endG_mk (F := (fun (z : Int × api_Note) => ⟨[], [], .tup [.sc (.int .i64 z.1), .agg (api_Note.cells z.2)]⟩)) (z := (ref05_Head b)) (v := (0, (ref05_note 1 3 (sub b 18 19)))) (bF k2 (mR e3 (bF k10 (bT k13 rfl)))) rfl (.two (.tmp 2 (.sc (.int .i64 0)) rfl) (.one (.rfl _)) rfl (.cell 3 38 3 3 true (api_Note.cells (ref05_note 1 3 (sub b 18 19))) (.agg (api_Note.cells (ref05_note 1 3 (sub b 18 19)))) rfl rfl ty38 rfl rfl rfl) (.one (.rfl _)) rfl) trivial trivial
        · skip
          refine aw_skip ?_
          refine aw_seq ?_
          refine aw_seq ?_
          refine aw_region ?_
          refine al_op rfl (g_move (p := .sc (.int .i64 (IntKind.wrap .i64 (ix b 18)))) rfl rfl rfl rfl) ?_
          refine al_op rfl (g_bin (u1 := .int .i64 (IntKind.wrap .i64 (ix b 18))) (u2 := .int .i64 1) (v := .bool (decide (((IntKind.wrap .i64 (ix b 18)) : Int) = 1))) rfl rfl rfl rfl rfl (fun _ => rfl)) ?_
          refine al_op rfl (g_move (p := .sc (.bool (decide (((IntKind.wrap .i64 (ix b 18)) : Int) = 1)))) rfl rfl rfl rfl) ?_
          refine al_gW (C := decide (((IntKind.wrap .i64 (ix b 18)) : Int) = 1)) (p := .sc (.int .i64 (IntKind.wrap .i64 ((IntKind.wrap .i64 (256 * (IntKind.wrap .i64 (ix b 16)))) + (IntKind.wrap .i64 (ix b 17)))))) (gd_T rfl rfl rfl rfl rfl) rfl rfl (fun g14 => g_move (p := .sc (.int .i64 (IntKind.wrap .i64 ((IntKind.wrap .i64 (256 * (IntKind.wrap .i64 (ix b 16)))) + (IntKind.wrap .i64 (ix b 17)))))) rfl rfl rfl rfl) ?_
          refine al_gW (C := decide (((IntKind.wrap .i64 (ix b 18)) : Int) = 1)) (p := .sc (.bool (decide (((IntKind.wrap .i64 ((IntKind.wrap .i64 (256 * (IntKind.wrap .i64 (ix b 16)))) + (IntKind.wrap .i64 (ix b 17)))) : Int) < 29)))) (gd_T rfl rfl rfl rfl rfl) rfl rfl (fun g15 => g_bin (u1 := .int .i64 (IntKind.wrap .i64 ((IntKind.wrap .i64 (256 * (IntKind.wrap .i64 (ix b 16)))) + (IntKind.wrap .i64 (ix b 17))))) (u2 := .int .i64 29) (v := .bool (decide (((IntKind.wrap .i64 ((IntKind.wrap .i64 (256 * (IntKind.wrap .i64 (ix b 16)))) + (IntKind.wrap .i64 (ix b 17)))) : Int) < 29))) rfl rfl rfl (gt (p := .sc (.int .i64 (IntKind.wrap .i64 ((IntKind.wrap .i64 (256 * (IntKind.wrap .i64 (ix b 16)))) + (IntKind.wrap .i64 (ix b 17)))))) (q := .sc undef) g15) rfl (fun _ => rfl)) ?_
          refine al_op rfl (g_andU (b := decide (((IntKind.wrap .i64 (ix b 18)) : Int) = 1)) (y := decide (((IntKind.wrap .i64 ((IntKind.wrap .i64 (256 * (IntKind.wrap .i64 (ix b 16)))) + (IntKind.wrap .i64 (ix b 17)))) : Int) < 29)) rfl rfl rfl rfl rfl) ?_
          refine al_op rfl (g_move (p := .sc (.bool ((decide (((IntKind.wrap .i64 (ix b 18)) : Int) = 1)) && (decide (((IntKind.wrap .i64 ((IntKind.wrap .i64 (256 * (IntKind.wrap .i64 (ix b 16)))) + (IntKind.wrap .i64 (ix b 17)))) : Int) < 29))))) rfl rfl rfl rfl) ?_
          refine al_gW (C := !((decide (((IntKind.wrap .i64 (ix b 18)) : Int) = 1)) && (decide (((IntKind.wrap .i64 ((IntKind.wrap .i64 (256 * (IntKind.wrap .i64 (ix b 16)))) + (IntKind.wrap .i64 (ix b 17)))) : Int) < 29)))) (p := .sc (.int .i64 (IntKind.wrap .i64 (ix b 18)))) (gd_F (b := (decide (((IntKind.wrap .i64 (ix b 18)) : Int) = 1)) && (decide (((IntKind.wrap .i64 ((IntKind.wrap .i64 (256 * (IntKind.wrap .i64 (ix b 16)))) + (IntKind.wrap .i64 (ix b 17)))) : Int) < 29))) (c := !((decide (((IntKind.wrap .i64 (ix b 18)) : Int) = 1)) && (decide (((IntKind.wrap .i64 ((IntKind.wrap .i64 (256 * (IntKind.wrap .i64 (ix b 16)))) + (IntKind.wrap .i64 (ix b 17)))) : Int) < 29)))) rfl rfl rfl rfl rfl rfl) rfl rfl (fun g16 => g_move (p := .sc (.int .i64 (IntKind.wrap .i64 (ix b 18)))) rfl rfl rfl rfl) ?_
          refine al_gW (C := !((decide (((IntKind.wrap .i64 (ix b 18)) : Int) = 1)) && (decide (((IntKind.wrap .i64 ((IntKind.wrap .i64 (256 * (IntKind.wrap .i64 (ix b 16)))) + (IntKind.wrap .i64 (ix b 17)))) : Int) < 29)))) (p := .sc (.bool (decide (((IntKind.wrap .i64 (ix b 18)) : Int) = 2)))) (gd_F (b := (decide (((IntKind.wrap .i64 (ix b 18)) : Int) = 1)) && (decide (((IntKind.wrap .i64 ((IntKind.wrap .i64 (256 * (IntKind.wrap .i64 (ix b 16)))) + (IntKind.wrap .i64 (ix b 17)))) : Int) < 29))) (c := !((decide (((IntKind.wrap .i64 (ix b 18)) : Int) = 1)) && (decide (((IntKind.wrap .i64 ((IntKind.wrap .i64 (256 * (IntKind.wrap .i64 (ix b 16)))) + (IntKind.wrap .i64 (ix b 17)))) : Int) < 29)))) rfl rfl rfl rfl rfl rfl) rfl rfl (fun g17 => g_bin (u1 := .int .i64 (IntKind.wrap .i64 (ix b 18))) (u2 := .int .i64 2) (v := .bool (decide (((IntKind.wrap .i64 (ix b 18)) : Int) = 2))) rfl rfl rfl (gt (p := .sc (.int .i64 (IntKind.wrap .i64 (ix b 18)))) (q := .sc undef) g17) rfl (fun _ => rfl)) ?_
          refine al_gW (C := !((decide (((IntKind.wrap .i64 (ix b 18)) : Int) = 1)) && (decide (((IntKind.wrap .i64 ((IntKind.wrap .i64 (256 * (IntKind.wrap .i64 (ix b 16)))) + (IntKind.wrap .i64 (ix b 17)))) : Int) < 29)))) (p := .sc (.bool (decide (((IntKind.wrap .i64 (ix b 18)) : Int) = 2)))) (gd_F (b := (decide (((IntKind.wrap .i64 (ix b 18)) : Int) = 1)) && (decide (((IntKind.wrap .i64 ((IntKind.wrap .i64 (256 * (IntKind.wrap .i64 (ix b 16)))) + (IntKind.wrap .i64 (ix b 17)))) : Int) < 29))) (c := !((decide (((IntKind.wrap .i64 (ix b 18)) : Int) = 1)) && (decide (((IntKind.wrap .i64 ((IntKind.wrap .i64 (256 * (IntKind.wrap .i64 (ix b 16)))) + (IntKind.wrap .i64 (ix b 17)))) : Int) < 29)))) rfl rfl rfl rfl rfl rfl) rfl rfl (fun g18 => g_move (p := .sc (.bool (decide (((IntKind.wrap .i64 (ix b 18)) : Int) = 2)))) rfl rfl rfl (gt (p := .sc (.bool (decide (((IntKind.wrap .i64 (ix b 18)) : Int) = 2)))) (q := .sc undef) g18)) ?_
          refine al_gW (C := (!((decide (((IntKind.wrap .i64 (ix b 18)) : Int) = 1)) && (decide (((IntKind.wrap .i64 ((IntKind.wrap .i64 (256 * (IntKind.wrap .i64 (ix b 16)))) + (IntKind.wrap .i64 (ix b 17)))) : Int) < 29)))) && (decide (((IntKind.wrap .i64 (ix b 18)) : Int) = 2))) (p := .sc (.int .i64 (IntKind.wrap .i64 ((IntKind.wrap .i64 (256 * (IntKind.wrap .i64 (ix b 16)))) + (IntKind.wrap .i64 (ix b 17)))))) (gd_TN (E := !((decide (((IntKind.wrap .i64 (ix b 18)) : Int) = 1)) && (decide (((IntKind.wrap .i64 ((IntKind.wrap .i64 (256 * (IntKind.wrap .i64 (ix b 16)))) + (IntKind.wrap .i64 (ix b 17)))) : Int) < 29)))) (y := decide (((IntKind.wrap .i64 (ix b 18)) : Int) = 2)) rfl rfl rfl rfl rfl) rfl rfl (fun g19 => g_move (p := .sc (.int .i64 (IntKind.wrap .i64 ((IntKind.wrap .i64 (256 * (IntKind.wrap .i64 (ix b 16)))) + (IntKind.wrap .i64 (ix b 17)))))) rfl rfl rfl rfl) ?_
          refine al_gW (C := (!((decide (((IntKind.wrap .i64 (ix b 18)) : Int) = 1)) && (decide (((IntKind.wrap .i64 ((IntKind.wrap .i64 (256 * (IntKind.wrap .i64 (ix b 16)))) + (IntKind.wrap .i64 (ix b 17)))) : Int) < 29)))) && (decide (((IntKind.wrap .i64 (ix b 18)) : Int) = 2))) (p := .sc (.bool (decide (((IntKind.wrap .i64 ((IntKind.wrap .i64 (256 * (IntKind.wrap .i64 (ix b 16)))) + (IntKind.wrap .i64 (ix b 17)))) : Int) < 23)))) (gd_TN (E := !((decide (((IntKind.wrap .i64 (ix b 18)) : Int) = 1)) && (decide (((IntKind.wrap .i64 ((IntKind.wrap .i64 (256 * (IntKind.wrap .i64 (ix b 16)))) + (IntKind.wrap .i64 (ix b 17)))) : Int) < 29)))) (y := decide (((IntKind.wrap .i64 (ix b 18)) : Int) = 2)) rfl rfl rfl rfl rfl) rfl rfl (fun g20 => g_bin (u1 := .int .i64 (IntKind.wrap .i64 ((IntKind.wrap .i64 (256 * (IntKind.wrap .i64 (ix b 16)))) + (IntKind.wrap .i64 (ix b 17))))) (u2 := .int .i64 23) (v := .bool (decide (((IntKind.wrap .i64 ((IntKind.wrap .i64 (256 * (IntKind.wrap .i64 (ix b 16)))) + (IntKind.wrap .i64 (ix b 17)))) : Int) < 23))) rfl rfl rfl (gt (p := .sc (.int .i64 (IntKind.wrap .i64 ((IntKind.wrap .i64 (256 * (IntKind.wrap .i64 (ix b 16)))) + (IntKind.wrap .i64 (ix b 17)))))) (q := .sc undef) g20) rfl (fun _ => rfl)) ?_
          refine al_gW (C := !((decide (((IntKind.wrap .i64 (ix b 18)) : Int) = 1)) && (decide (((IntKind.wrap .i64 ((IntKind.wrap .i64 (256 * (IntKind.wrap .i64 (ix b 16)))) + (IntKind.wrap .i64 (ix b 17)))) : Int) < 29)))) (p := .sc (.bool ((decide (((IntKind.wrap .i64 (ix b 18)) : Int) = 2)) && (decide (((IntKind.wrap .i64 ((IntKind.wrap .i64 (256 * (IntKind.wrap .i64 (ix b 16)))) + (IntKind.wrap .i64 (ix b 17)))) : Int) < 23))))) (gd_F (b := (decide (((IntKind.wrap .i64 (ix b 18)) : Int) = 1)) && (decide (((IntKind.wrap .i64 ((IntKind.wrap .i64 (256 * (IntKind.wrap .i64 (ix b 16)))) + (IntKind.wrap .i64 (ix b 17)))) : Int) < 29))) (c := !((decide (((IntKind.wrap .i64 (ix b 18)) : Int) = 1)) && (decide (((IntKind.wrap .i64 ((IntKind.wrap .i64 (256 * (IntKind.wrap .i64 (ix b 16)))) + (IntKind.wrap .i64 (ix b 17)))) : Int) < 29)))) rfl rfl rfl rfl rfl rfl) rfl rfl (fun g21 => g_andU (b := decide (((IntKind.wrap .i64 (ix b 18)) : Int) = 2)) (y := decide (((IntKind.wrap .i64 ((IntKind.wrap .i64 (256 * (IntKind.wrap .i64 (ix b 16)))) + (IntKind.wrap .i64 (ix b 17)))) : Int) < 23)) rfl rfl rfl (gt (p := .sc (.bool (decide (((IntKind.wrap .i64 (ix b 18)) : Int) = 2)))) (q := .sc undef) g21) (gA (p := .sc (.bool (decide (((IntKind.wrap .i64 ((IntKind.wrap .i64 (256 * (IntKind.wrap .i64 (ix b 16)))) + (IntKind.wrap .i64 (ix b 17)))) : Int) < 23)))) (q := .sc undef) g21)) ?_
          refine al_op rfl (g_orU (b := (decide (((IntKind.wrap .i64 (ix b 18)) : Int) = 1)) && (decide (((IntKind.wrap .i64 ((IntKind.wrap .i64 (256 * (IntKind.wrap .i64 (ix b 16)))) + (IntKind.wrap .i64 (ix b 17)))) : Int) < 29))) (y := (decide (((IntKind.wrap .i64 (ix b 18)) : Int) = 2)) && (decide (((IntKind.wrap .i64 ((IntKind.wrap .i64 (256 * (IntKind.wrap .i64 (ix b 16)))) + (IntKind.wrap .i64 (ix b 17)))) : Int) < 23))) rfl rfl rfl rfl rfl rfl) ?_
          refine al_op rfl (g_move (p := .sc (.bool (((decide (((IntKind.wrap .i64 (ix b 18)) : Int) = 1)) && (decide (((IntKind.wrap .i64 ((IntKind.wrap .i64 (256 * (IntKind.wrap .i64 (ix b 16)))) + (IntKind.wrap .i64 (ix b 17)))) : Int) < 29))) || ((decide (((IntKind.wrap .i64 (ix b 18)) : Int) = 2)) && (decide (((IntKind.wrap .i64 ((IntKind.wrap .i64 (256 * (IntKind.wrap .i64 (ix b 16)))) + (IntKind.wrap .i64 (ix b 17)))) : Int) < 23)))))) rfl rfl rfl rfl) ?_
          refine al_gW (C := !(((decide (((IntKind.wrap .i64 (ix b 18)) : Int) = 1)) && (decide (((IntKind.wrap .i64 ((IntKind.wrap .i64 (256 * (IntKind.wrap .i64 (ix b 16)))) + (IntKind.wrap .i64 (ix b 17)))) : Int) < 29))) || ((decide (((IntKind.wrap .i64 (ix b 18)) : Int) = 2)) && (decide (((IntKind.wrap .i64 ((IntKind.wrap .i64 (256 * (IntKind.wrap .i64 (ix b 16)))) + (IntKind.wrap .i64 (ix b 17)))) : Int) < 23))))) (p := .sc (.int .i64 (IntKind.wrap .i64 (ix b 18)))) (gd_F (b := ((decide (((IntKind.wrap .i64 (ix b 18)) : Int) = 1)) && (decide (((IntKind.wrap .i64 ((IntKind.wrap .i64 (256 * (IntKind.wrap .i64 (ix b 16)))) + (IntKind.wrap .i64 (ix b 17)))) : Int) < 29))) || ((decide (((IntKind.wrap .i64 (ix b 18)) : Int) = 2)) && (decide (((IntKind.wrap .i64 ((IntKind.wrap .i64 (256 * (IntKind.wrap .i64 (ix b 16)))) + (IntKind.wrap .i64 (ix b 17)))) : Int) < 23)))) (c := !(((decide (((IntKind.wrap .i64 (ix b 18)) : Int) = 1)) && (decide (((IntKind.wrap .i64 ((IntKind.wrap .i64 (256 * (IntKind.wrap .i64 (ix b 16)))) + (IntKind.wrap .i64 (ix b 17)))) : Int) < 29))) || ((decide (((IntKind.wrap .i64 (ix b 18)) : Int) = 2)) && (decide (((IntKind.wrap .i64 ((IntKind.wrap .i64 (256 * (IntKind.wrap .i64 (ix b 16)))) + (IntKind.wrap .i64 (ix b 17)))) : Int) < 23))))) rfl rfl rfl rfl rfl rfl) rfl rfl (fun g22 => g_move (p := .sc (.int .i64 (IntKind.wrap .i64 (ix b 18)))) rfl rfl rfl rfl) ?_
          refine al_gW (C := !(((decide (((IntKind.wrap .i64 (ix b 18)) : Int) = 1)) && (decide (((IntKind.wrap .i64 ((IntKind.wrap .i64 (256 * (IntKind.wrap .i64 (ix b 16)))) + (IntKind.wrap .i64 (ix b 17)))) : Int) < 29))) || ((decide (((IntKind.wrap .i64 (ix b 18)) : Int) = 2)) && (decide (((IntKind.wrap .i64 ((IntKind.wrap .i64 (256 * (IntKind.wrap .i64 (ix b 16)))) + (IntKind.wrap .i64 (ix b 17)))) : Int) < 23))))) (p := .sc (.bool (decide (((IntKind.wrap .i64 (ix b 18)) : Int) = 3)))) (gd_F (b := ((decide (((IntKind.wrap .i64 (ix b 18)) : Int) = 1)) && (decide (((IntKind.wrap .i64 ((IntKind.wrap .i64 (256 * (IntKind.wrap .i64 (ix b 16)))) + (IntKind.wrap .i64 (ix b 17)))) : Int) < 29))) || ((decide (((IntKind.wrap .i64 (ix b 18)) : Int) = 2)) && (decide (((IntKind.wrap .i64 ((IntKind.wrap .i64 (256 * (IntKind.wrap .i64 (ix b 16)))) + (IntKind.wrap .i64 (ix b 17)))) : Int) < 23)))) (c := !(((decide (((IntKind.wrap .i64 (ix b 18)) : Int) = 1)) && (decide (((IntKind.wrap .i64 ((IntKind.wrap .i64 (256 * (IntKind.wrap .i64 (ix b 16)))) + (IntKind.wrap .i64 (ix b 17)))) : Int) < 29))) || ((decide (((IntKind.wrap .i64 (ix b 18)) : Int) = 2)) && (decide (((IntKind.wrap .i64 ((IntKind.wrap .i64 (256 * (IntKind.wrap .i64 (ix b 16)))) + (IntKind.wrap .i64 (ix b 17)))) : Int) < 23))))) rfl rfl rfl rfl rfl rfl) rfl rfl (fun g23 => g_bin (u1 := .int .i64 (IntKind.wrap .i64 (ix b 18))) (u2 := .int .i64 3) (v := .bool (decide (((IntKind.wrap .i64 (ix b 18)) : Int) = 3))) rfl rfl rfl (gt (p := .sc (.int .i64 (IntKind.wrap .i64 (ix b 18)))) (q := .sc undef) g23) rfl (fun _ => rfl)) ?_
          refine al_gW (C := !(((decide (((IntKind.wrap .i64 (ix b 18)) : Int) = 1)) && (decide (((IntKind.wrap .i64 ((IntKind.wrap .i64 (256 * (IntKind.wrap .i64 (ix b 16)))) + (IntKind.wrap .i64 (ix b 17)))) : Int) < 29))) || ((decide (((IntKind.wrap .i64 (ix b 18)) : Int) = 2)) && (decide (((IntKind.wrap .i64 ((IntKind.wrap .i64 (256 * (IntKind.wrap .i64 (ix b 16)))) + (IntKind.wrap .i64 (ix b 17)))) : Int) < 23))))) (p := .sc (.bool (decide (((IntKind.wrap .i64 (ix b 18)) : Int) = 3)))) (gd_F (b := ((decide (((IntKind.wrap .i64 (ix b 18)) : Int) = 1)) && (decide (((IntKind.wrap .i64 ((IntKind.wrap .i64 (256 * (IntKind.wrap .i64 (ix b 16)))) + (IntKind.wrap .i64 (ix b 17)))) : Int) < 29))) || ((decide (((IntKind.wrap .i64 (ix b 18)) : Int) = 2)) && (decide (((IntKind.wrap .i64 ((IntKind.wrap .i64 (256 * (IntKind.wrap .i64 (ix b 16)))) + (IntKind.wrap .i64 (ix b 17)))) : Int) < 23)))) (c := !(((decide (((IntKind.wrap .i64 (ix b 18)) : Int) = 1)) && (decide (((IntKind.wrap .i64 ((IntKind.wrap .i64 (256 * (IntKind.wrap .i64 (ix b 16)))) + (IntKind.wrap .i64 (ix b 17)))) : Int) < 29))) || ((decide (((IntKind.wrap .i64 (ix b 18)) : Int) = 2)) && (decide (((IntKind.wrap .i64 ((IntKind.wrap .i64 (256 * (IntKind.wrap .i64 (ix b 16)))) + (IntKind.wrap .i64 (ix b 17)))) : Int) < 23))))) rfl rfl rfl rfl rfl rfl) rfl rfl (fun g24 => g_move (p := .sc (.bool (decide (((IntKind.wrap .i64 (ix b 18)) : Int) = 3)))) rfl rfl rfl (gt (p := .sc (.bool (decide (((IntKind.wrap .i64 (ix b 18)) : Int) = 3)))) (q := .sc undef) g24)) ?_
          refine al_gW (C := (!(((decide (((IntKind.wrap .i64 (ix b 18)) : Int) = 1)) && (decide (((IntKind.wrap .i64 ((IntKind.wrap .i64 (256 * (IntKind.wrap .i64 (ix b 16)))) + (IntKind.wrap .i64 (ix b 17)))) : Int) < 29))) || ((decide (((IntKind.wrap .i64 (ix b 18)) : Int) = 2)) && (decide (((IntKind.wrap .i64 ((IntKind.wrap .i64 (256 * (IntKind.wrap .i64 (ix b 16)))) + (IntKind.wrap .i64 (ix b 17)))) : Int) < 23))))) && (decide (((IntKind.wrap .i64 (ix b 18)) : Int) = 3))) (p := .sc (.int .i64 (IntKind.wrap .i64 ((IntKind.wrap .i64 (256 * (IntKind.wrap .i64 (ix b 16)))) + (IntKind.wrap .i64 (ix b 17)))))) (gd_TN (E := !(((decide (((IntKind.wrap .i64 (ix b 18)) : Int) = 1)) && (decide (((IntKind.wrap .i64 ((IntKind.wrap .i64 (256 * (IntKind.wrap .i64 (ix b 16)))) + (IntKind.wrap .i64 (ix b 17)))) : Int) < 29))) || ((decide (((IntKind.wrap .i64 (ix b 18)) : Int) = 2)) && (decide (((IntKind.wrap .i64 ((IntKind.wrap .i64 (256 * (IntKind.wrap .i64 (ix b 16)))) + (IntKind.wrap .i64 (ix b 17)))) : Int) < 23))))) (y := decide (((IntKind.wrap .i64 (ix b 18)) : Int) = 3)) rfl rfl rfl rfl rfl) rfl rfl (fun g25 => g_move (p := .sc (.int .i64 (IntKind.wrap .i64 ((IntKind.wrap .i64 (256 * (IntKind.wrap .i64 (ix b 16)))) + (IntKind.wrap .i64 (ix b 17)))))) rfl rfl rfl rfl) ?_
          refine al_gW (C := (!(((decide (((IntKind.wrap .i64 (ix b 18)) : Int) = 1)) && (decide (((IntKind.wrap .i64 ((IntKind.wrap .i64 (256 * (IntKind.wrap .i64 (ix b 16)))) + (IntKind.wrap .i64 (ix b 17)))) : Int) < 29))) || ((decide (((IntKind.wrap .i64 (ix b 18)) : Int) = 2)) && (decide (((IntKind.wrap .i64 ((IntKind.wrap .i64 (256 * (IntKind.wrap .i64 (ix b 16)))) + (IntKind.wrap .i64 (ix b 17)))) : Int) < 23))))) && (decide (((IntKind.wrap .i64 (ix b 18)) : Int) = 3))) (p := .sc (.bool (decide (((IntKind.wrap .i64 ((IntKind.wrap .i64 (256 * (IntKind.wrap .i64 (ix b 16)))) + (IntKind.wrap .i64 (ix b 17)))) : Int) < 21)))) (gd_TN (E := !(((decide (((IntKind.wrap .i64 (ix b 18)) : Int) = 1)) && (decide (((IntKind.wrap .i64 ((IntKind.wrap .i64 (256 * (IntKind.wrap .i64 (ix b 16)))) + (IntKind.wrap .i64 (ix b 17)))) : Int) < 29))) || ((decide (((IntKind.wrap .i64 (ix b 18)) : Int) = 2)) && (decide (((IntKind.wrap .i64 ((IntKind.wrap .i64 (256 * (IntKind.wrap .i64 (ix b 16)))) + (IntKind.wrap .i64 (ix b 17)))) : Int) < 23))))) (y := decide (((IntKind.wrap .i64 (ix b 18)) : Int) = 3)) rfl rfl rfl rfl rfl) rfl rfl (fun g26 => g_bin (u1 := .int .i64 (IntKind.wrap .i64 ((IntKind.wrap .i64 (256 * (IntKind.wrap .i64 (ix b 16)))) + (IntKind.wrap .i64 (ix b 17))))) (u2 := .int .i64 21) (v := .bool (decide (((IntKind.wrap .i64 ((IntKind.wrap .i64 (256 * (IntKind.wrap .i64 (ix b 16)))) + (IntKind.wrap .i64 (ix b 17)))) : Int) < 21))) rfl rfl rfl (gt (p := .sc (.int .i64 (IntKind.wrap .i64 ((IntKind.wrap .i64 (256 * (IntKind.wrap .i64 (ix b 16)))) + (IntKind.wrap .i64 (ix b 17)))))) (q := .sc undef) g26) rfl (fun _ => rfl)) ?_
          refine al_gW (C := !(((decide (((IntKind.wrap .i64 (ix b 18)) : Int) = 1)) && (decide (((IntKind.wrap .i64 ((IntKind.wrap .i64 (256 * (IntKind.wrap .i64 (ix b 16)))) + (IntKind.wrap .i64 (ix b 17)))) : Int) < 29))) || ((decide (((IntKind.wrap .i64 (ix b 18)) : Int) = 2)) && (decide (((IntKind.wrap .i64 ((IntKind.wrap .i64 (256 * (IntKind.wrap .i64 (ix b 16)))) + (IntKind.wrap .i64 (ix b 17)))) : Int) < 23))))) (p := .sc (.bool ((decide (((IntKind.wrap .i64 (ix b 18)) : Int) = 3)) && (decide (((IntKind.wrap .i64 ((IntKind.wrap .i64 (256 * (IntKind.wrap .i64 (ix b 16)))) + (IntKind.wrap .i64 (ix b 17)))) : Int) < 21))))) (gd_F (b := ((decide (((IntKind.wrap .i64 (ix b 18)) : Int) = 1)) && (decide (((IntKind.wrap .i64 ((IntKind.wrap .i64 (256 * (IntKind.wrap .i64 (ix b 16)))) + (IntKind.wrap .i64 (ix b 17)))) : Int) < 29))) || ((decide (((IntKind.wrap .i64 (ix b 18)) : Int) = 2)) && (decide (((IntKind.wrap .i64 ((IntKind.wrap .i64 (256 * (IntKind.wrap .i64 (ix b 16)))) + (IntKind.wrap .i64 (ix b 17)))) : Int) < 23)))) (c := !(((decide (((IntKind.wrap .i64 (ix b 18)) : Int) = 1)) && (decide (((IntKind.wrap .i64 ((IntKind.wrap .i64 (256 * (IntKind.wrap .i64 (ix b 16)))) + (IntKind.wrap .i64 (ix b 17)))) : Int) < 29))) || ((decide (((IntKind.wrap .i64 (ix b 18)) : Int) = 2)) && (decide (((IntKind.wrap .i64 ((IntKind.wrap .i64 (256 * (IntKind.wrap .i64 (ix b 16)))) + (IntKind.wrap .i64 (ix b 17)))) : Int) < 23))))) rfl rfl rfl rfl rfl rfl) rfl rfl (fun g27 => g_andU (b := decide (((IntKind.wrap .i64 (ix b 18)) : Int) = 3)) (y := decide (((IntKind.wrap .i64 ((IntKind.wrap .i64 (256 * (IntKind.wrap .i64 (ix b 16)))) + (IntKind.wrap .i64 (ix b 17)))) : Int) < 21)) rfl rfl rfl (gt (p := .sc (.bool (decide (((IntKind.wrap .i64 (ix b 18)) : Int) = 3)))) (q := .sc undef) g27) (gA (p := .sc (.bool (decide (((IntKind.wrap .i64 ((IntKind.wrap .i64 (256 * (IntKind.wrap .i64 (ix b 16)))) + (IntKind.wrap .i64 (ix b 17)))) : Int) < 21)))) (q := .sc undef) g27)) ?_
          refine al_op rfl (g_orU (b := ((decide (((IntKind.wrap .i64 (ix b 18)) : Int) = 1)) && (decide (((IntKind.wrap .i64 ((IntKind.wrap .i64 (256 * (IntKind.wrap .i64 (ix b 16)))) + (IntKind.wrap .i64 (ix b 17)))) : Int) < 29))) || ((decide (((IntKind.wrap .i64 (ix b 18)) : Int) = 2)) && (decide (((IntKind.wrap .i64 ((IntKind.wrap .i64 (256 * (IntKind.wrap .i64 (ix b 16)))) + (IntKind.wrap .i64 (ix b 17)))) : Int) < 23)))) (y := (decide (((IntKind.wrap .i64 (ix b 18)) : Int) = 3)) && (decide (((IntKind.wrap .i64 ((IntKind.wrap .i64 (256 * (IntKind.wrap .i64 (ix b 16)))) + (IntKind.wrap .i64 (ix b 17)))) : Int) < 21))) rfl rfl rfl rfl rfl rfl) ?_
          refine al_op rfl (g_move (p := .sc (.bool ((((decide (((IntKind.wrap .i64 (ix b 18)) : Int) = 1)) && (decide (((IntKind.wrap .i64 ((IntKind.wrap .i64 (256 * (IntKind.wrap .i64 (ix b 16)))) + (IntKind.wrap .i64 (ix b 17)))) : Int) < 29))) || ((decide (((IntKind.wrap .i64 (ix b 18)) : Int) = 2)) && (decide (((IntKind.wrap .i64 ((IntKind.wrap .i64 (256 * (IntKind.wrap .i64 (ix b 16)))) + (IntKind.wrap .i64 (ix b 17)))) : Int) < 23)))) || ((decide (((IntKind.wrap .i64 (ix b 18)) : Int) = 3)) && (decide (((IntKind.wrap .i64 ((IntKind.wrap .i64 (256 * (IntKind.wrap .i64 (ix b 16)))) + (IntKind.wrap .i64 (ix b 17)))) : Int) < 21)))))) rfl rfl rfl rfl) ?_
          refine al_gW (C := !((((decide (((IntKind.wrap .i64 (ix b 18)) : Int) = 1)) && (decide (((IntKind.wrap .i64 ((IntKind.wrap .i64 (256 * (IntKind.wrap .i64 (ix b 16)))) + (IntKind.wrap .i64 (ix b 17)))) : Int) < 29))) || ((decide (((IntKind.wrap .i64 (ix b 18)) : Int) = 2)) && (decide (((IntKind.wrap .i64 ((IntKind.wrap .i64 (256 * (IntKind.wrap .i64 (ix b 16)))) + (IntKind.wrap .i64 (ix b 17)))) : Int) < 23)))) || ((decide (((IntKind.wrap .i64 (ix b 18)) : Int) = 3)) && (decide (((IntKind.wrap .i64 ((IntKind.wrap .i64 (256 * (IntKind.wrap .i64 (ix b 16)))) + (IntKind.wrap .i64 (ix b 17)))) : Int) < 21))))) (p := .sc (.int .i64 (IntKind.wrap .i64 (ix b 18)))) (gd_F (b := (((decide (((IntKind.wrap .i64 (ix b 18)) : Int) = 1)) && (decide (((IntKind.wrap .i64 ((IntKind.wrap .i64 (256 * (IntKind.wrap .i64 (ix b 16)))) + (IntKind.wrap .i64 (ix b 17)))) : Int) < 29))) || ((decide (((IntKind.wrap .i64 (ix b 18)) : Int) = 2)) && (decide (((IntKind.wrap .i64 ((IntKind.wrap .i64 (256 * (IntKind.wrap .i64 (ix b 16)))) + (IntKind.wrap .i64 (ix b 17)))) : Int) < 23)))) || ((decide (((IntKind.wrap .i64 (ix b 18)) : Int) = 3)) && (decide (((IntKind.wrap .i64 ((IntKind.wrap .i64 (256 * (IntKind.wrap .i64 (ix b 16)))) + (IntKind.wrap .i64 (ix b 17)))) : Int) < 21)))) (c := !((((decide (((IntKind.wrap .i64 (ix b 18)) : Int) = 1)) && (decide (((IntKind.wrap .i64 ((IntKind.wrap .i64 (256 * (IntKind.wrap .i64 (ix b 16)))) + (IntKind.wrap .i64 (ix b 17)))) : Int) < 29))) || ((decide (((IntKind.wrap .i64 (ix b 18)) : Int) = 2)) && (decide (((IntKind.wrap .i64 ((IntKind.wrap .i64 (256 * (IntKind.wrap .i64 (ix b 16)))) + (IntKind.wrap .i64 (ix b 17)))) : Int) < 23)))) || ((decide (((IntKind.wrap .i64 (ix b 18)) : Int) = 3)) && (decide (((IntKind.wrap .i64 ((IntKind.wrap .i64 (256 * (IntKind.wrap .i64 (ix b 16)))) + (IntKind.wrap .i64 (ix b 17)))) : Int) < 21))))) rfl rfl rfl rfl rfl rfl) rfl rfl (fun g28 => g_move (p := .sc (.int .i64 (IntKind.wrap .i64 (ix b 18)))) rfl rfl rfl rfl) ?_
          refine al_gW (C := !((((decide (((IntKind.wrap .i64 (ix b 18)) : Int) = 1)) && (decide (((IntKind.wrap .i64 ((IntKind.wrap .i64 (256 * (IntKind.wrap .i64 (ix b 16)))) + (IntKind.wrap .i64 (ix b 17)))) : Int) < 29))) || ((decide (((IntKind.wrap .i64 (ix b 18)) : Int) = 2)) && (decide (((IntKind.wrap .i64 ((IntKind.wrap .i64 (256 * (IntKind.wrap .i64 (ix b 16)))) + (IntKind.wrap .i64 (ix b 17)))) : Int) < 23)))) || ((decide (((IntKind.wrap .i64 (ix b 18)) : Int) = 3)) && (decide (((IntKind.wrap .i64 ((IntKind.wrap .i64 (256 * (IntKind.wrap .i64 (ix b 16)))) + (IntKind.wrap .i64 (ix b 17)))) : Int) < 21))))) (p := .sc (.bool (decide (((IntKind.wrap .i64 (ix b 18)) : Int) = 4)))) (gd_F (b := (((decide (((IntKind.wrap .i64 (ix b 18)) : Int) = 1)) && (decide (((IntKind.wrap .i64 ((IntKind.wrap .i64 (256 * (IntKind.wrap .i64 (ix b 16)))) + (IntKind.wrap .i64 (ix b 17)))) : Int) < 29))) || ((decide (((IntKind.wrap .i64 (ix b 18)) : Int) = 2)) && (decide (((IntKind.wrap .i64 ((IntKind.wrap .i64 (256 * (IntKind.wrap .i64 (ix b 16)))) + (IntKind.wrap .i64 (ix b 17)))) : Int) < 23)))) || ((decide (((IntKind.wrap .i64 (ix b 18)) : Int) = 3)) && (decide (((IntKind.wrap .i64 ((IntKind.wrap .i64 (256 * (IntKind.wrap .i64 (ix b 16)))) + (IntKind.wrap .i64 (ix b 17)))) : Int) < 21)))) (c := !((((decide (((IntKind.wrap .i64 (ix b 18)) : Int) = 1)) && (decide (((IntKind.wrap .i64 ((IntKind.wrap .i64 (256 * (IntKind.wrap .i64 (ix b 16)))) + (IntKind.wrap .i64 (ix b 17)))) : Int) < 29))) || ((decide (((IntKind.wrap .i64 (ix b 18)) : Int) = 2)) && (decide (((IntKind.wrap .i64 ((IntKind.wrap .i64 (256 * (IntKind.wrap .i64 (ix b 16)))) + (IntKind.wrap .i64 (ix b 17)))) : Int) < 23)))) || ((decide (((IntKind.wrap .i64 (ix b 18)) : Int) = 3)) && (decide (((IntKind.wrap .i64 ((IntKind.wrap .i64 (256 * (IntKind.wrap .i64 (ix b 16)))) + (IntKind.wrap .i64 (ix b 17)))) : Int) < 21))))) rfl rfl rfl rfl rfl rfl) rfl rfl (fun g29 => g_bin (u1 := .int .i64 (IntKind.wrap .i64 (ix b 18))) (u2 := .int .i64 4) (v := .bool (decide (((IntKind.wrap .i64 (ix b 18)) : Int) = 4))) rfl rfl rfl (gt (p := .sc (.int .i64 (IntKind.wrap .i64 (ix b 18)))) (q := .sc undef) g29) rfl (fun _ => rfl)) ?_
          refine al_gW (C := !((((decide (((IntKind.wrap .i64 (ix b 18)) : Int) = 1)) && (decide (((IntKind.wrap .i64 ((IntKind.wrap .i64 (256 * (IntKind.wrap .i64 (ix b 16)))) + (IntKind.wrap .i64 (ix b 17)))) : Int) < 29))) || ((decide (((IntKind.wrap .i64 (ix b 18)) : Int) = 2)) && (decide (((IntKind.wrap .i64 ((IntKind.wrap .i64 (256 * (IntKind.wrap .i64 (ix b 16)))) + (IntKind.wrap .i64 (ix b 17)))) : Int) < 23)))) || ((decide (((IntKind.wrap .i64 (ix b 18)) : Int) = 3)) && (decide (((IntKind.wrap .i64 ((IntKind.wrap .i64 (256 * (IntKind.wrap .i64 (ix b 16)))) + (IntKind.wrap .i64 (ix b 17)))) : Int) < 21))))) (p := .sc (.bool (decide (((IntKind.wrap .i64 (ix b 18)) : Int) = 4)))) (gd_F (b := (((decide (((IntKind.wrap .i64 (ix b 18)) : Int) = 1)) && (decide (((IntKind.wrap .i64 ((IntKind.wrap .i64 (256 * (IntKind.wrap .i64 (ix b 16)))) + (IntKind.wrap .i64 (ix b 17)))) : Int) < 29))) || ((decide (((IntKind.wrap .i64 (ix b 18)) : Int) = 2)) && (decide (((IntKind.wrap .i64 ((IntKind.wrap .i64 (256 * (IntKind.wrap .i64 (ix b 16)))) + (IntKind.wrap .i64 (ix b 17)))) : Int) < 23)))) || ((decide (((IntKind.wrap .i64 (ix b 18)) : Int) = 3)) && (decide (((IntKind.wrap .i64 ((IntKind.wrap .i64 (256 * (IntKind.wrap .i64 (ix b 16)))) + (IntKind.wrap .i64 (ix b 17)))) : Int) < 21)))) (c := !((((decide (((IntKind.wrap .i64 (ix b 18)) : Int) = 1)) && (decide (((IntKind.wrap .i64 ((IntKind.wrap .i64 (256 * (IntKind.wrap .i64 (ix b 16)))) + (IntKind.wrap .i64 (ix b 17)))) : Int) < 29))) || ((decide (((IntKind.wrap .i64 (ix b 18)) : Int) = 2)) && (decide (((IntKind.wrap .i64 ((IntKind.wrap .i64 (256 * (IntKind.wrap .i64 (ix b 16)))) + (IntKind.wrap .i64 (ix b 17)))) : Int) < 23)))) || ((decide (((IntKind.wrap .i64 (ix b 18)) : Int) = 3)) && (decide (((IntKind.wrap .i64 ((IntKind.wrap .i64 (256 * (IntKind.wrap .i64 (ix b 16)))) + (IntKind.wrap .i64 (ix b 17)))) : Int) < 21))))) rfl rfl rfl rfl rfl rfl) rfl rfl (fun g30 => g_move (p := .sc (.bool (decide (((IntKind.wrap .i64 (ix b 18)) : Int) = 4)))) rfl rfl rfl (gt (p := .sc (.bool (decide (((IntKind.wrap .i64 (ix b 18)) : Int) = 4)))) (q := .sc undef) g30)) ?_
          refine al_gW (C := (!((((decide (((IntKind.wrap .i64 (ix b 18)) : Int) = 1)) && (decide (((IntKind.wrap .i64 ((IntKind.wrap .i64 (256 * (IntKind.wrap .i64 (ix b 16)))) + (IntKind.wrap .i64 (ix b 17)))) : Int) < 29))) || ((decide (((IntKind.wrap .i64 (ix b 18)) : Int) = 2)) && (decide (((IntKind.wrap .i64 ((IntKind.wrap .i64 (256 * (IntKind.wrap .i64 (ix b 16)))) + (IntKind.wrap .i64 (ix b 17)))) : Int) < 23)))) || ((decide (((IntKind.wrap .i64 (ix b 18)) : Int) = 3)) && (decide (((IntKind.wrap .i64 ((IntKind.wrap .i64 (256 * (IntKind.wrap .i64 (ix b 16)))) + (IntKind.wrap .i64 (ix b 17)))) : Int) < 21))))) && (decide (((IntKind.wrap .i64 (ix b 18)) : Int) = 4))) (p := .sc (.int .i64 (IntKind.wrap .i64 ((IntKind.wrap .i64 (256 * (IntKind.wrap .i64 (ix b 16)))) + (IntKind.wrap .i64 (ix b 17)))))) (gd_TN (E := !((((decide (((IntKind.wrap .i64 (ix b 18)) : Int) = 1)) && (decide (((IntKind.wrap .i64 ((IntKind.wrap .i64 (256 * (IntKind.wrap .i64 (ix b 16)))) + (IntKind.wrap .i64 (ix b 17)))) : Int) < 29))) || ((decide (((IntKind.wrap .i64 (ix b 18)) : Int) = 2)) && (decide (((IntKind.wrap .i64 ((IntKind.wrap .i64 (256 * (IntKind.wrap .i64 (ix b 16)))) + (IntKind.wrap .i64 (ix b 17)))) : Int) < 23)))) || ((decide (((IntKind.wrap .i64 (ix b 18)) : Int) = 3)) && (decide (((IntKind.wrap .i64 ((IntKind.wrap .i64 (256 * (IntKind.wrap .i64 (ix b 16)))) + (IntKind.wrap .i64 (ix b 17)))) : Int) < 21))))) (y := decide (((IntKind.wrap .i64 (ix b 18)) : Int) = 4)) rfl rfl rfl rfl rfl) rfl rfl (fun g31 => g_move (p := .sc (.int .i64 (IntKind.wrap .i64 ((IntKind.wrap .i64 (256 * (IntKind.wrap .i64 (ix b 16)))) + (IntKind.wrap .i64 (ix b 17)))))) rfl rfl rfl rfl) ?_
          refine al_gW (C := (!((((decide (((IntKind.wrap .i64 (ix b 18)) : Int) = 1)) && (decide (((IntKind.wrap .i64 ((IntKind.wrap .i64 (256 * (IntKind.wrap .i64 (ix b 16)))) + (IntKind.wrap .i64 (ix b 17)))) : Int) < 29))) || ((decide (((IntKind.wrap .i64 (ix b 18)) : Int) = 2)) && (decide (((IntKind.wrap .i64 ((IntKind.wrap .i64 (256 * (IntKind.wrap .i64 (ix b 16)))) + (IntKind.wrap .i64 (ix b 17)))) : Int) < 23)))) || ((decide (((IntKind.wrap .i64 (ix b 18)) : Int) = 3)) && (decide (((IntKind.wrap .i64 ((IntKind.wrap .i64 (256 * (IntKind.wrap .i64 (ix b 16)))) + (IntKind.wrap .i64 (ix b 17)))) : Int) < 21))))) && (decide (((IntKind.wrap .i64 (ix b 18)) : Int) = 4))) (p := .sc (.bool (!(decide (((IntKind.wrap .i64 ((IntKind.wrap .i64 (256 * (IntKind.wrap .i64 (ix b 16)))) + (IntKind.wrap .i64 (ix b 17)))) : Int) = 19))))) (gd_TN (E := !((((decide (((IntKind.wrap .i64 (ix b 18)) : Int) = 1)) && (decide (((IntKind.wrap .i64 ((IntKind.wrap .i64 (256 * (IntKind.wrap .i64 (ix b 16)))) + (IntKind.wrap .i64 (ix b 17)))) : Int) < 29))) || ((decide (((IntKind.wrap .i64 (ix b 18)) : Int) = 2)) && (decide (((IntKind.wrap .i64 ((IntKind.wrap .i64 (256 * (IntKind.wrap .i64 (ix b 16)))) + (IntKind.wrap .i64 (ix b 17)))) : Int) < 23)))) || ((decide (((IntKind.wrap .i64 (ix b 18)) : Int) = 3)) && (decide (((IntKind.wrap .i64 ((IntKind.wrap .i64 (256 * (IntKind.wrap .i64 (ix b 16)))) + (IntKind.wrap .i64 (ix b 17)))) : Int) < 21))))) (y := decide (((IntKind.wrap .i64 (ix b 18)) : Int) = 4)) rfl rfl rfl rfl rfl) rfl rfl (fun g32 => g_bin (u1 := .int .i64 (IntKind.wrap .i64 ((IntKind.wrap .i64 (256 * (IntKind.wrap .i64 (ix b 16)))) + (IntKind.wrap .i64 (ix b 17))))) (u2 := .int .i64 19) (v := .bool (!(decide (((IntKind.wrap .i64 ((IntKind.wrap .i64 (256 * (IntKind.wrap .i64 (ix b 16)))) + (IntKind.wrap .i64 (ix b 17)))) : Int) = 19)))) rfl rfl rfl (gt (p := .sc (.int .i64 (IntKind.wrap .i64 ((IntKind.wrap .i64 (256 * (IntKind.wrap .i64 (ix b 16)))) + (IntKind.wrap .i64 (ix b 17)))))) (q := .sc undef) g32) rfl (fun _ => rfl)) ?_
          refine al_gW (C := !((((decide (((IntKind.wrap .i64 (ix b 18)) : Int) = 1)) && (decide (((IntKind.wrap .i64 ((IntKind.wrap .i64 (256 * (IntKind.wrap .i64 (ix b 16)))) + (IntKind.wrap .i64 (ix b 17)))) : Int) < 29))) || ((decide (((IntKind.wrap .i64 (ix b 18)) : Int) = 2)) && (decide (((IntKind.wrap .i64 ((IntKind.wrap .i64 (256 * (IntKind.wrap .i64 (ix b 16)))) + (IntKind.wrap .i64 (ix b 17)))) : Int) < 23)))) || ((decide (((IntKind.wrap .i64 (ix b 18)) : Int) = 3)) && (decide (((IntKind.wrap .i64 ((IntKind.wrap .i64 (256 * (IntKind.wrap .i64 (ix b 16)))) + (IntKind.wrap .i64 (ix b 17)))) : Int) < 21))))) (p := .sc (.bool ((decide (((IntKind.wrap .i64 (ix b 18)) : Int) = 4)) && (!(decide (((IntKind.wrap .i64 ((IntKind.wrap .i64 (256 * (IntKind.wrap .i64 (ix b 16)))) + (IntKind.wrap .i64 (ix b 17)))) : Int) = 19)))))) (gd_F (b := (((decide (((IntKind.wrap .i64 (ix b 18)) : Int) = 1)) && (decide (((IntKind.wrap .i64 ((IntKind.wrap .i64 (256 * (IntKind.wrap .i64 (ix b 16)))) + (IntKind.wrap .i64 (ix b 17)))) : Int) < 29))) || ((decide (((IntKind.wrap .i64 (ix b 18)) : Int) = 2)) && (decide (((IntKind.wrap .i64 ((IntKind.wrap .i64 (256 * (IntKind.wrap .i64 (ix b 16)))) + (IntKind.wrap .i64 (ix b 17)))) : Int) < 23)))) || ((decide (((IntKind.wrap .i64 (ix b 18)) : Int) = 3)) && (decide (((IntKind.wrap .i64 ((IntKind.wrap .i64 (256 * (IntKind.wrap .i64 (ix b 16)))) + (IntKind.wrap .i64 (ix b 17)))) : Int) < 21)))) (c := !((((decide (((IntKind.wrap .i64 (ix b 18)) : Int) = 1)) && (decide (((IntKind.wrap .i64 ((IntKind.wrap .i64 (256 * (IntKind.wrap .i64 (ix b 16)))) + (IntKind.wrap .i64 (ix b 17)))) : Int) < 29))) || ((decide (((IntKind.wrap .i64 (ix b 18)) : Int) = 2)) && (decide (((IntKind.wrap .i64 ((IntKind.wrap .i64 (256 * (IntKind.wrap .i64 (ix b 16)))) + (IntKind.wrap .i64 (ix b 17)))) : Int) < 23)))) || ((decide (((IntKind.wrap .i64 (ix b 18)) : Int) = 3)) && (decide (((IntKind.wrap .i64 ((IntKind.wrap .i64 (256 * (IntKind.wrap .i64 (ix b 16)))) + (IntKind.wrap .i64 (ix b 17)))) : Int) < 21))))) rfl rfl rfl rfl rfl rfl) rfl rfl (fun g33 => g_andU (b := decide (((IntKind.wrap .i64 (ix b 18)) : Int) = 4)) (y := !(decide (((IntKind.wrap .i64 ((IntKind.wrap .i64 (256 * (IntKind.wrap .i64 (ix b 16)))) + (IntKind.wrap .i64 (ix b 17)))) : Int) = 19))) rfl rfl rfl (gt (p := .sc (.bool (decide (((IntKind.wrap .i64 (ix b 18)) : Int) = 4)))) (q := .sc undef) g33) (gA (p := .sc (.bool (!(decide (((IntKind.wrap .i64 ((IntKind.wrap .i64 (256 * (IntKind.wrap .i64 (ix b 16)))) + (IntKind.wrap .i64 (ix b 17)))) : Int) = 19))))) (q := .sc undef) g33)) ?_
          refine al_op rfl (g_orU (b := (((decide (((IntKind.wrap .i64 (ix b 18)) : Int) = 1)) && (decide (((IntKind.wrap .i64 ((IntKind.wrap .i64 (256 * (IntKind.wrap .i64 (ix b 16)))) + (IntKind.wrap .i64 (ix b 17)))) : Int) < 29))) || ((decide (((IntKind.wrap .i64 (ix b 18)) : Int) = 2)) && (decide (((IntKind.wrap .i64 ((IntKind.wrap .i64 (256 * (IntKind.wrap .i64 (ix b 16)))) + (IntKind.wrap .i64 (ix b 17)))) : Int) < 23)))) || ((decide (((IntKind.wrap .i64 (ix b 18)) : Int) = 3)) && (decide (((IntKind.wrap .i64 ((IntKind.wrap .i64 (256 * (IntKind.wrap .i64 (ix b 16)))) + (IntKind.wrap .i64 (ix b 17)))) : Int) < 21)))) (y := (decide (((IntKind.wrap .i64 (ix b 18)) : Int) = 4)) && (!(decide (((IntKind.wrap .i64 ((IntKind.wrap .i64 (256 * (IntKind.wrap .i64 (ix b 16)))) + (IntKind.wrap .i64 (ix b 17)))) : Int) = 19)))) rfl rfl rfl rfl rfl rfl) ?_
          refine al_nil ?_
          refine aw_cond (b := ((((decide (((IntKind.wrap .i64 (ix b 18)) : Int) = 1)) && (decide (((IntKind.wrap .i64 ((IntKind.wrap .i64 (256 * (IntKind.wrap .i64 (ix b 16)))) + (IntKind.wrap .i64 (ix b 17)))) : Int) < 29))) || ((decide (((IntKind.wrap .i64 (ix b 18)) : Int) = 2)) && (decide (((IntKind.wrap .i64 ((IntKind.wrap .i64 (256 * (IntKind.wrap .i64 (ix b 16)))) + (IntKind.wrap .i64 (ix b 17)))) : Int) < 23)))) || ((decide (((IntKind.wrap .i64 (ix b 18)) : Int) = 3)) && (decide (((IntKind.wrap .i64 ((IntKind.wrap .i64 (256 * (IntKind.wrap .i64 (ix b 16)))) + (IntKind.wrap .i64 (ix b 17)))) : Int) < 21)))) || ((decide (((IntKind.wrap .i64 (ix b 18)) : Int) = 4)) && (!(decide (((IntKind.wrap .i64 ((IntKind.wrap .i64 (256 * (IntKind.wrap .i64 (ix b 16)))) + (IntKind.wrap .i64 (ix b 17)))) : Int) = 19))))) rfl (fun k34 => ?_) (fun k34 => ?_)
          · skip
            refine aw_seq ?_
            refine aw_region ?_
            refine al_op rfl (g_move (p := .sem (SL (eI .u8) b)) rfl rfl rfl rfl) ?_
            refine al_op rfl (step_slice (E := (eI .u8)) (l := b) (i := 16) (j := 18) rfl rfl rfl Tryz.underlying22 ty5 (isSl_sem rfl) (isB_some rfl) (isB_some rfl) (show 0 ≤ 16 ∧ 16 ≤ 18 ∧ 18 ≤ (b.length : Int) from (by first | omega | ((try simp only [z1, z2, z3, z4, z5, z6, z7, z8, z9, zA, zB, zC, zD, wrap64, wrapu8, wrapu16, wrapu32, wrapu64, tmod_ite, tdiv_ite, sub_len, msg_two_len, rep16_len] at *); omega) | ((try simp only [z1, z2, z3, z4, z5, z6, z7, z8, z9, zA, tmod_ite, tdiv_ite, sub_len, msg_two_len, rep16_len] at *); (try simp (disch := omega) only [wrap64_id]); (try simp only [z1, z2, z3, z4, z5, z6, z7, z8, z9, zA, zB, zC, zD, wrap64, wrapu8, wrapu16, wrapu32, wrapu64, tmod_ite, tdiv_ite, sub_len] at *); omega)))) ?_
            refine al_op rfl (g_call (fn := Tryz.f20) (xs := [.const (.int .i64 1), .const (.int .i64 2), .tmp 84]) (args := [.sc (.int .i64 1), .sc (.int .i64 2), .sem (SL (eI .u8) (sub b 16 18))]) (r := .agg (api_Note.cells (ref05_note 1 2 (sub b 16 18)))) rfl rfl rfl Tryz.func20 rfl rfl rfl rfl rfl (ref05_note_pf 1 2 (sub b 16 18) (by first | omega | ((try simp only [z1, z2, z3, z4, z5, z6, z7, z8, z9, zA, zB, zC, zD, wrap64, wrapu8, wrapu16, wrapu32, wrapu64, tmod_ite, tdiv_ite, sub_len, msg_two_len, rep16_len] at *); omega) | ((try simp only [z1, z2, z3, z4, z5, z6, z7, z8, z9, zA, tmod_ite, tdiv_ite, sub_len, msg_two_len, rep16_len] at *); (try simp (disch := omega) only [wrap64_id]); (try simp only [z1, z2, z3, z4, z5, z6, z7, z8, z9, zA, zB, zC, zD, wrap64, wrapu8, wrapu16, wrapu32, wrapu64, tmod_ite, tdiv_ite, sub_len] at *); omega)))) ?_
            refine al_op rfl (g_assign (p := .sc (.int .i64 0)) rfl rfl rfl rfl) ?_
            refine al_op rfl (g_store (s := 3) (off := 0) (ps := zc38) (p := .agg (api_Note.cells (ref05_note 1 2 (sub b 16 18)))) (qs := (api_Note.cells (ref05_note 1 2 (sub b 16 18)))) rfl rfl ty38 rfl rfl rfl rfl rfl rfl rfl) ?_
            refine al_nil ?_
            refine aw_ret ?_
            exact endG_mk (F := (fun (z : Int × api_Note) => ⟨[], [], .tup [.sc (.int .i64 z.1), .agg (api_Note.cells z.2)]⟩)) (z := (ref05_Head b)) (v := (0, (ref05_note 1 2 (sub b 16 18)))) (bF k2 (mR e3 (bF k10 (bF k13 (bT k34 rfl))))) rfl (.two (.tmp 2 (.sc (.int .i64 0)) rfl) (.one (.rfl _)) rfl (.cell 3 38 3 3 true (api_Note.cells (ref05_note 1 2 (sub b 16 18))) (.agg (api_Note.cells (ref05_note 1 2 (sub b 16 18)))) rfl rfl ty38 rfl rfl rfl) (.one (.rfl _)) rfl) trivial trivial
          · skip
            refine aw_skip ?_
            refine aw_seq ?_
            refine aw_region ?_
            refine al_op rfl (g_move (p := .sc (.int .i64 (IntKind.wrap .i64 ((IntKind.wrap .i64 (256 * (IntKind.wrap .i64 (ix b 16)))) + (IntKind.wrap .i64 (ix b 17)))))) rfl rfl rfl rfl) ?_
            refine al_op rfl (g_build (parts := []) (pps := []) (qs := zc38) rfl rfl rfl bld38 rfl rfl (by kernel_rfl)) ?_
            refine al_op rfl (g_assign (p := .sc (.int .i64 (IntKind.wrap .i64 ((IntKind.wrap .i64 (256 * (IntKind.wrap .i64 (ix b 16)))) + (IntKind.wrap .i64 (ix b 17)))))) rfl rfl rfl rfl) ?_
            refine al_op rfl (g_store (s := 3) (off := 0) (ps := zc38) (p := .agg zc38) (qs := zc38) rfl rfl ty38 rfl rfl rfl rfl rfl rfl rfl) ?_
            refine al_nil ?_
            refine aw_ret ?_
            exact endG_mk (F := (fun (z : Int × api_Note) => ⟨[], [], .tup [.sc (.int .i64 z.1), .agg (api_Note.cells z.2)]⟩)) (z := (ref05_Head b)) (v := ((IntKind.wrap .i64 ((IntKind.wrap .i64 (256 * (IntKind.wrap .i64 (ix b 16)))) + (IntKind.wrap .i64 (ix b 17)))), (⟨0, 0, []⟩ : api_Note))) (bF k2 (mR e3 (bF k10 (bF k13 (bF k34 rfl))))) rfl (.two (.tmp 2 (.sc (.int .i64 (IntKind.wrap .i64 ((IntKind.wrap .i64 (256 * (IntKind.wrap .i64 (ix b 16)))) + (IntKind.wrap .i64 (ix b 17)))))) rfl) (.one (.rfl _)) rfl (.cell 3 38 3 3 true zc38 (.agg zc38) rfl rfl ty38 rfl rfl rfl) (.agg (.cons (.rfl _) (.cons (.rfl _) (.cons (.nil _) .nil)))) rfl) trivial trivial
theorem ref05_Head_pf (b : List Int) : PF Tryz.prog 12 [.sem (SL (eI .u8) b)] (.tup [.sc (.int .i64 ((ref05_Head b).1)), .agg (api_Note.cells ((ref05_Head b).2))]) := pf_ofG (ref05_Head_pf_g b) rfl
end Go.Proofs.YtepnimdjcnjlfaaGreatDoor
