import Derived.Test.YtnpipeihomebhaaRaFnCaps
namespace Go.Proofs.Ytnpipeihomebhaa
open Go.Ab
set_option linter.unusedSimpArgs false
set_option linter.unusedVariables false
def caps_restart_l0 (c : api_Caps) (b : List Int) : Nat → api_Caps → List Int → api_Caps × (List Int)
  | 0, _, _ => default
  | n0 + 1, x1000_0, x1_0 =>
    (bif decide ((0 : Int) < (x1_0.length : Int)) then
      (thn (bif (caps_ipv4 x1_0) && !x1000_0.fFamily then (⟨x1000_0.fFour, x1000_0.fAS4, x1000_0.fGR, x1000_0.fRestarting, x1000_0.fTime, true, !(decide (((iand .u8 (ix x1_0 3) 128) : Int) = 0)), x1000_0.fLL, x1000_0.fLLTime⟩ : api_Caps) else x1000_0) fun (y_11 : api_Caps) =>
        caps_restart_l0 c b n0 y_11 (sub x1_0 4 (x1_0.length : Int)))
    else
      (x1000_0, x1_0))
/-- interregnum/caps.restart -/
def caps_restart (c : api_Caps) (b : List Int) : Bool × api_Caps :=
  (bif (decide (((b.length : Int) : Int) < 2)) || (!(decide (((Int.tmod (IntKind.wrap .i64 ((b.length : Int) - 2)) 4) : Int) = 0))) then
    (false, c)
  else
    (thn (caps_restart_l0 c b ((sub b 2 (b.length : Int)).length + 1) (⟨c.fFour, c.fAS4, true, !(decide (((iand .u8 (ix b 0) 128) : Int) = 0)), (iand .i64 (ior .i64 (IntKind.wrap .i64 ((IntKind.wrap .i64 (ix b 0)) * 2 ^ 8)) (IntKind.wrap .i64 (ix b 1))) 4095), false, false, c.fLL, c.fLLTime⟩ : api_Caps) (sub b 2 (b.length : Int))) fun (x_0 : api_Caps × (List Int)) =>
      (true, x_0.1)))
set_option maxRecDepth 100000 in
set_option maxHeartbeats 4000000 in
theorem caps_restart_pf (c : api_Caps) (b : List Int) : PG Try.prog 47 [(1000, (api_Caps.cells c))] [] [.loc 1000 0, .sem (SL (eI .u8) b)] (fun _ : Unit => True) (fun _ => (fun (z : Bool × api_Caps) => ⟨[(1000, [.sc (.bool z.2.fFour), .sc (.int .i64 z.2.fAS4), .sc (.bool z.2.fGR), .sc (.bool z.2.fRestarting), .sc (.int .i64 z.2.fTime), .sc (.bool z.2.fFamily), .sc (.bool z.2.fForward), .sc (.bool z.2.fLL), .sc (.int .i64 z.2.fLLTime)])], [], .sc (.bool z.1)⟩) (caps_restart c b)) := by
  refine pg_of (N := 73) (l := [.tmp 4]) Try.func47 rfl rfl rfl (Nat.le_of_ble_eq_true rfl) fun w0 i0 F βs => ?_
  refine aw_len 1 rfl (fun hl1 => ?_)
  refine aw_seq ?_
  refine aw_region ?_
  refine al_op rfl (g_assign (p := .sc (.bool false)) rfl rfl rfl rfl) ?_
  refine al_nil ?_
  refine aw_seq ?_
  refine aw_seq ?_
  refine aw_region ?_
  refine al_op rfl (g_move (p := .sem (SL (eI .u8) b)) rfl rfl rfl rfl) ?_
  refine al_op rfl (g_len rfl rfl rfl Try.underlying36 (isSl_sem rfl)) ?_
  refine al_op rfl (g_bin (u1 := .int .i64 (b.length : Int)) (u2 := .int .i64 2) (v := .bool (decide (((b.length : Int) : Int) < 2))) rfl rfl rfl rfl rfl (fun _ => rfl)) ?_
  refine al_op rfl (g_move (p := .sc (.bool (decide (((b.length : Int) : Int) < 2)))) rfl rfl rfl rfl) ?_
  refine al_gW (C := !(decide (((b.length : Int) : Int) < 2))) (p := .sem (SL (eI .u8) b)) (gd_F (b := decide (((b.length : Int) : Int) < 2)) (c := !(decide (((b.length : Int) : Int) < 2))) rfl rfl rfl rfl rfl rfl) rfl rfl (fun g2 => g_move (p := .sem (SL (eI .u8) b)) rfl rfl rfl rfl) ?_
  refine al_gW (C := !(decide (((b.length : Int) : Int) < 2))) (p := .sc (.int .i64 (b.length : Int))) (gd_F (b := decide (((b.length : Int) : Int) < 2)) (c := !(decide (((b.length : Int) : Int) < 2))) rfl rfl rfl rfl rfl rfl) rfl rfl (fun g3 => g_len rfl rfl rfl Try.underlying36 (by exact (isSl_sem (by exact (gt (p := .sem (SL (eI .u8) b)) (q := .sc undef) g3))))) ?_
  refine al_gW (C := !(decide (((b.length : Int) : Int) < 2))) (p := .sc (.int .i64 (IntKind.wrap .i64 ((b.length : Int) - 2)))) (gd_F (b := decide (((b.length : Int) : Int) < 2)) (c := !(decide (((b.length : Int) : Int) < 2))) rfl rfl rfl rfl rfl rfl) rfl rfl (fun g4 => g_bin (u1 := .int .i64 (b.length : Int)) (u2 := .int .i64 2) (v := .int .i64 (IntKind.wrap .i64 ((b.length : Int) - 2))) rfl rfl rfl (gt (p := .sc (.int .i64 (b.length : Int))) (q := .sc undef) g4) rfl (fun _ => rfl)) ?_
  refine al_gW (C := !(decide (((b.length : Int) : Int) < 2))) (p := .sc (.int .i64 (Int.tmod (IntKind.wrap .i64 ((b.length : Int) - 2)) 4))) (gd_F (b := decide (((b.length : Int) : Int) < 2)) (c := !(decide (((b.length : Int) : Int) < 2))) rfl rfl rfl rfl rfl rfl) rfl rfl (fun g5 => g_bin (u1 := .int .i64 (IntKind.wrap .i64 ((b.length : Int) - 2))) (u2 := .int .i64 4) (v := .int .i64 (Int.tmod (IntKind.wrap .i64 ((b.length : Int) - 2)) 4)) rfl rfl rfl (gt (p := .sc (.int .i64 (IntKind.wrap .i64 ((b.length : Int) - 2)))) (q := .sc undef) g5) rfl (fun _ => rfl)) ?_
  refine al_gW (C := !(decide (((b.length : Int) : Int) < 2))) (p := .sc (.bool (!(decide (((Int.tmod (IntKind.wrap .i64 ((b.length : Int) - 2)) 4) : Int) = 0))))) (gd_F (b := decide (((b.length : Int) : Int) < 2)) (c := !(decide (((b.length : Int) : Int) < 2))) rfl rfl rfl rfl rfl rfl) rfl rfl (fun g6 => g_bin (u1 := .int .i64 (Int.tmod (IntKind.wrap .i64 ((b.length : Int) - 2)) 4)) (u2 := .int .i64 0) (v := .bool (!(decide (((Int.tmod (IntKind.wrap .i64 ((b.length : Int) - 2)) 4) : Int) = 0)))) rfl rfl rfl (gt (p := .sc (.int .i64 (Int.tmod (IntKind.wrap .i64 ((b.length : Int) - 2)) 4))) (q := .sc undef) g6) rfl (fun _ => rfl)) ?_
  refine al_op rfl (g_orU (b := decide (((b.length : Int) : Int) < 2)) (y := !(decide (((Int.tmod (IntKind.wrap .i64 ((b.length : Int) - 2)) 4) : Int) = 0))) rfl rfl rfl rfl rfl rfl) ?_
  refine al_nil ?_
  refine aw_cond (b := (decide (((b.length : Int) : Int) < 2)) || (!(decide (((Int.tmod (IntKind.wrap .i64 ((b.length : Int) - 2)) 4) : Int) = 0)))) rfl (fun k7 => ?_) (fun k7 => ?_)
  · skip
    refine aw_seq ?_
    refine aw_region ?_
    refine al_op rfl (g_assign (p := .sc (.bool false)) rfl rfl rfl rfl) ?_
    refine al_nil ?_
    refine aw_ret ?_
    exact endG_mk (F := (fun (z : Bool × api_Caps) => ⟨[(1000, [.sc (.bool z.2.fFour), .sc (.int .i64 z.2.fAS4), .sc (.bool z.2.fGR), .sc (.bool z.2.fRestarting), .sc (.int .i64 z.2.fTime), .sc (.bool z.2.fFamily), .sc (.bool z.2.fForward), .sc (.bool z.2.fLL), .sc (.int .i64 z.2.fLLTime)])], [], .sc (.bool z.1)⟩)) (z := (caps_restart c b)) (v := (false, c)) (bT k7 rfl) rfl (.one (.tmp 4 (.sc (.bool false)) rfl) (.one (.rfl _)) rfl) ⟨⟨(api_Caps.cells c), rfl, (.cons (.rfl _) (.cons (.rfl _) (.cons (.rfl _) (.cons (.rfl _) (.cons (.rfl _) (.cons (.rfl _) (.cons (.rfl _) (.cons (.rfl _) (.cons (.rfl _) .nil)))))))))⟩, trivial⟩ trivial
  · skip
    refine aw_skip ?_
    refine aw_seq ?_
    refine aw_plan { ds := [some 15, some 16, some 17, some 18, some 19, some 20, some 21, some 22, some 23, some 24, some 25, some 26, some 27, some 28, some 29, some 30, some 31, some 32, some 33, some 34, some 35, some 36, some 37, none, some 38, some 39, none, some 40, some 41, none, some 42, some 43, none, some 44, some 45, none], p := fun i => [.loc 1000 0, .loc 1000 0, .loc 1000 0, .loc 1000 0, .loc 1000 0, .sem (SL (eI .u8) b), .sem (PT [.sc (.int .u8 (ix b 0))]), .sc (.int .u8 (ix b 0)), .sc (.int .u8 (iand .u8 (ix b 0) 128)), .sc (.bool (!(decide (((iand .u8 (ix b 0) 128) : Int) = 0)))), .sem (SL (eI .u8) b), .sem (PT [.sc (.int .u8 (ix b 0))]), .sc (.int .u8 (ix b 0)), .sc (.int .i64 (IntKind.wrap .i64 (ix b 0))), .sc (.int .i64 (IntKind.wrap .i64 ((IntKind.wrap .i64 (ix b 0)) * 2 ^ 8))), .sem (SL (eI .u8) b), .sem (PT [.sc (.int .u8 (ix b 1))]), .sc (.int .u8 (ix b 1)), .sc (.int .i64 (IntKind.wrap .i64 (ix b 1))), .sc (.int .i64 (ior .i64 (IntKind.wrap .i64 ((IntKind.wrap .i64 (ix b 0)) * 2 ^ 8)) (IntKind.wrap .i64 (ix b 1)))), .sc (.int .i64 (iand .i64 (ior .i64 (IntKind.wrap .i64 ((IntKind.wrap .i64 (ix b 0)) * 2 ^ 8)) (IntKind.wrap .i64 (ix b 1))) 4095)), .loc 1000 0, .loc 1000 2, .any, .loc 1000 0, .loc 1000 3, .any, .loc 1000 0, .loc 1000 4, .any, .loc 1000 0, .loc 1000 5, .any, .loc 1000 0, .loc 1000 6, .any].getD i .any, al := [], st := [(23, 1000, 2, [.sc (.bool true)]), (26, 1000, 3, [.sc (.bool (!(decide (((iand .u8 (ix b 0) 128) : Int) = 0))))]), (29, 1000, 4, [.sc (.int .i64 (iand .i64 (ior .i64 (IntKind.wrap .i64 ((IntKind.wrap .i64 (ix b 0)) * 2 ^ 8)) (IntKind.wrap .i64 (ix b 1))) 4095))]), (32, 1000, 5, [.sc (.bool false)]), (35, 1000, 6, [.sc (.bool false)])] } rfl rfl rfl rfl ?_ (fun bD hb => ?_)
    · refine ⟨fun bD hc hi hd => ?_, fun bD hc hi hd => ?_, fun bD hc hi hd => ?_, fun bD hc hi hd => ?_, fun bD hc hi hd => ?_, fun bD hc hi hd => ?_, fun bD hc hi hd => ?_, fun bD hc hi hd => ?_, fun bD hc hi hd => ?_, fun bD hc hi hd => ?_, fun bD hc hi hd => ?_, fun bD hc hi hd => ?_, fun bD hc hi hd => ?_, fun bD hc hi hd => ?_, fun bD hc hi hd => ?_, fun bD hc hi hd => ?_, fun bD hc hi hd => ?_, fun bD hc hi hd => ?_, fun bD hc hi hd => ?_, fun bD hc hi hd => ?_, fun bD hc hi hd => ?_, fun bD hc hi hd => ?_, fun bD hc hi hd => ?_, fun bD hc hi hd => ?_, fun bD hc hi hd => ?_, fun bD hc hi hd => ?_, fun bD hc hi hd => ?_, fun bD hc hi hd => ?_, fun bD hc hi hd => ?_, fun bD hc hi hd => ?_, fun bD hc hi hd => ?_, fun bD hc hi hd => ?_, fun bD hc hi hd => ?_, fun bD hc hi hd => ?_, fun bD hc hi hd => ?_, fun bD hc hi hd => ?_, trivial⟩
      · exact Plan.putStep (i := 0) (q := .loc 1000 0) rfl rfl rfl (gs_plain rfl (g_move (p := .loc 1000 0) rfl rfl rfl rfl))
      · exact Plan.putStep (i := 1) (q := .loc 1000 0) rfl rfl rfl (gs_plain rfl (g_move (p := .loc 1000 0) rfl rfl rfl rfl))
      · exact Plan.putStep (i := 2) (q := .loc 1000 0) rfl rfl rfl (gs_plain rfl (g_move (p := .loc 1000 0) rfl rfl rfl rfl))
      · exact Plan.putStep (i := 3) (q := .loc 1000 0) rfl rfl rfl (gs_plain rfl (g_move (p := .loc 1000 0) rfl rfl rfl rfl))
      · exact Plan.putStep (i := 4) (q := .loc 1000 0) rfl rfl rfl (gs_plain rfl (g_move (p := .loc 1000 0) rfl rfl rfl rfl))
      · exact Plan.putStep (i := 5) (q := .sem (SL (eI .u8) b)) rfl rfl rfl (gs_plain rfl (g_move (p := .sem (SL (eI .u8) b)) rfl rfl rfl rfl))
      · exact Plan.putStep (i := 6) (q := .sem (PT [.sc (.int .u8 (ix b 0))])) rfl rfl rfl (gs_plain rfl (g_ix (E := (eI .u8)) (l := b) (n := 0) (ps := [.sc (.int .u8 (ix b 0))]) rfl rfl rfl Try.underlying36 ty5 (by exact (isSl_sem (by exact (gt (p := .sem (SL (eI .u8) b)) (q := .any) (hd 5 (by decide)))))) rfl (by first | omega | ((try simp only [z1, z2, z3, z4, z5, z6, z7, z8, z9, zA, zB, zC, zD, wrap64, wrapu8, wrapu16, wrapu32, wrapu64, tmod_ite, tdiv_ite, sub_len, region_Put_len, ref01_Four_len] at *); omega) | ((try simp only [z1, z2, z3, z4, z5, z6, z7, z8, z9, zA, tmod_ite, tdiv_ite, sub_len, region_Put_len, ref01_Four_len] at *); (try simp (disch := omega) only [wrap64_id]); (try simp only [z1, z2, z3, z4, z5, z6, z7, z8, z9, zA, zB, zC, zD, wrap64, wrapu8, wrapu16, wrapu32, wrapu64, tmod_ite, tdiv_ite, sub_len] at *); omega)) rfl))
      · exact Plan.putStep (i := 7) (q := .sc (.int .u8 (ix b 0))) rfl rfl rfl (gs_plain rfl (g_loadPT (ps := [.sc (.int .u8 (ix b 0))]) (p := .sc (.int .u8 (ix b 0))) rfl rfl rfl ty5 (gt (p := .sem (PT [.sc (.int .u8 (ix b 0))])) (q := .any) (hd 6 (by decide))) rfl rfl rfl rfl))
      · exact Plan.putStep (i := 8) (q := .sc (.int .u8 (iand .u8 (ix b 0) 128))) rfl rfl rfl (gs_plain rfl (g_bin (u1 := .int .u8 (ix b 0)) (u2 := .int .u8 128) (v := .int .u8 (iand .u8 (ix b 0) 128)) rfl rfl rfl (gt (p := .sc (.int .u8 (ix b 0))) (q := .any) (hd 7 (by decide))) rfl (fun _ => rfl)))
      · exact Plan.putStep (i := 9) (q := .sc (.bool (!(decide (((iand .u8 (ix b 0) 128) : Int) = 0))))) rfl rfl rfl (gs_plain rfl (g_bin (u1 := .int .u8 (iand .u8 (ix b 0) 128)) (u2 := .int .u8 0) (v := .bool (!(decide (((iand .u8 (ix b 0) 128) : Int) = 0)))) rfl rfl rfl (gt (p := .sc (.int .u8 (iand .u8 (ix b 0) 128))) (q := .any) (hd 8 (by decide))) rfl (fun _ => rfl)))
      · exact Plan.putStep (i := 10) (q := .sem (SL (eI .u8) b)) rfl rfl rfl (gs_plain rfl (g_move (p := .sem (SL (eI .u8) b)) rfl rfl rfl rfl))
      · exact Plan.putStep (i := 11) (q := .sem (PT [.sc (.int .u8 (ix b 0))])) rfl rfl rfl (gs_plain rfl (g_ix (E := (eI .u8)) (l := b) (n := 0) (ps := [.sc (.int .u8 (ix b 0))]) rfl rfl rfl Try.underlying36 ty5 (by exact (isSl_sem (by exact (gt (p := .sem (SL (eI .u8) b)) (q := .any) (hd 10 (by decide)))))) rfl (by first | omega | ((try simp only [z1, z2, z3, z4, z5, z6, z7, z8, z9, zA, zB, zC, zD, wrap64, wrapu8, wrapu16, wrapu32, wrapu64, tmod_ite, tdiv_ite, sub_len, region_Put_len, ref01_Four_len] at *); omega) | ((try simp only [z1, z2, z3, z4, z5, z6, z7, z8, z9, zA, tmod_ite, tdiv_ite, sub_len, region_Put_len, ref01_Four_len] at *); (try simp (disch := omega) only [wrap64_id]); (try simp only [z1, z2, z3, z4, z5, z6, z7, z8, z9, zA, zB, zC, zD, wrap64, wrapu8, wrapu16, wrapu32, wrapu64, tmod_ite, tdiv_ite, sub_len] at *); omega)) rfl))
      · exact Plan.putStep (i := 12) (q := .sc (.int .u8 (ix b 0))) rfl rfl rfl (gs_plain rfl (g_loadPT (ps := [.sc (.int .u8 (ix b 0))]) (p := .sc (.int .u8 (ix b 0))) rfl rfl rfl ty5 (gt (p := .sem (PT [.sc (.int .u8 (ix b 0))])) (q := .any) (hd 11 (by decide))) rfl rfl rfl rfl))
      · exact Plan.putStep (i := 13) (q := .sc (.int .i64 (IntKind.wrap .i64 (ix b 0)))) rfl rfl rfl (gs_plain rfl (g_conv (m := (IntKind.wrap .i64 (ix b 0))) rfl rfl rfl Try.underlying5 Try.underlying3 (gt (p := .sc (.int .u8 (ix b 0))) (q := .any) (hd 12 (by decide))) rfl))
      · exact Plan.putStep (i := 14) (q := .sc (.int .i64 (IntKind.wrap .i64 ((IntKind.wrap .i64 (ix b 0)) * 2 ^ 8)))) rfl rfl rfl (gs_plain rfl (g_bin (u1 := .int .i64 (IntKind.wrap .i64 (ix b 0))) (u2 := .int .u64 8) (v := .int .i64 (IntKind.wrap .i64 ((IntKind.wrap .i64 (ix b 0)) * 2 ^ 8))) rfl rfl rfl (gt (p := .sc (.int .i64 (IntKind.wrap .i64 (ix b 0)))) (q := .any) (hd 13 (by decide))) rfl (fun _ => rfl)))
      · exact Plan.putStep (i := 15) (q := .sem (SL (eI .u8) b)) rfl rfl rfl (gs_plain rfl (g_move (p := .sem (SL (eI .u8) b)) rfl rfl rfl rfl))
      · exact Plan.putStep (i := 16) (q := .sem (PT [.sc (.int .u8 (ix b 1))])) rfl rfl rfl (gs_plain rfl (g_ix (E := (eI .u8)) (l := b) (n := 1) (ps := [.sc (.int .u8 (ix b 1))]) rfl rfl rfl Try.underlying36 ty5 (by exact (isSl_sem (by exact (gt (p := .sem (SL (eI .u8) b)) (q := .any) (hd 15 (by decide)))))) rfl (by first | omega | ((try simp only [z1, z2, z3, z4, z5, z6, z7, z8, z9, zA, zB, zC, zD, wrap64, wrapu8, wrapu16, wrapu32, wrapu64, tmod_ite, tdiv_ite, sub_len, region_Put_len, ref01_Four_len] at *); omega) | ((try simp only [z1, z2, z3, z4, z5, z6, z7, z8, z9, zA, tmod_ite, tdiv_ite, sub_len, region_Put_len, ref01_Four_len] at *); (try simp (disch := omega) only [wrap64_id]); (try simp only [z1, z2, z3, z4, z5, z6, z7, z8, z9, zA, zB, zC, zD, wrap64, wrapu8, wrapu16, wrapu32, wrapu64, tmod_ite, tdiv_ite, sub_len] at *); omega)) rfl))
      · exact Plan.putStep (i := 17) (q := .sc (.int .u8 (ix b 1))) rfl rfl rfl (gs_plain rfl (g_loadPT (ps := [.sc (.int .u8 (ix b 1))]) (p := .sc (.int .u8 (ix b 1))) rfl rfl rfl ty5 (gt (p := .sem (PT [.sc (.int .u8 (ix b 1))])) (q := .any) (hd 16 (by decide))) rfl rfl rfl rfl))
      · exact Plan.putStep (i := 18) (q := .sc (.int .i64 (IntKind.wrap .i64 (ix b 1)))) rfl rfl rfl (gs_plain rfl (g_conv (m := (IntKind.wrap .i64 (ix b 1))) rfl rfl rfl Try.underlying5 Try.underlying3 (gt (p := .sc (.int .u8 (ix b 1))) (q := .any) (hd 17 (by decide))) rfl))
      · exact Plan.putStep (i := 19) (q := .sc (.int .i64 (ior .i64 (IntKind.wrap .i64 ((IntKind.wrap .i64 (ix b 0)) * 2 ^ 8)) (IntKind.wrap .i64 (ix b 1))))) rfl rfl rfl (gs_plain rfl (g_bin (u1 := .int .i64 (IntKind.wrap .i64 ((IntKind.wrap .i64 (ix b 0)) * 2 ^ 8))) (u2 := .int .i64 (IntKind.wrap .i64 (ix b 1))) (v := .int .i64 (ior .i64 (IntKind.wrap .i64 ((IntKind.wrap .i64 (ix b 0)) * 2 ^ 8)) (IntKind.wrap .i64 (ix b 1)))) rfl rfl rfl (gt (p := .sc (.int .i64 (IntKind.wrap .i64 ((IntKind.wrap .i64 (ix b 0)) * 2 ^ 8)))) (q := .any) (hd 14 (by decide))) (gt (p := .sc (.int .i64 (IntKind.wrap .i64 (ix b 1)))) (q := .any) (hd 18 (by decide))) (fun _ => rfl)))
      · exact Plan.putStep (i := 20) (q := .sc (.int .i64 (iand .i64 (ior .i64 (IntKind.wrap .i64 ((IntKind.wrap .i64 (ix b 0)) * 2 ^ 8)) (IntKind.wrap .i64 (ix b 1))) 4095))) rfl rfl rfl (gs_plain rfl (g_bin (u1 := .int .i64 (ior .i64 (IntKind.wrap .i64 ((IntKind.wrap .i64 (ix b 0)) * 2 ^ 8)) (IntKind.wrap .i64 (ix b 1)))) (u2 := .int .i64 4095) (v := .int .i64 (iand .i64 (ior .i64 (IntKind.wrap .i64 ((IntKind.wrap .i64 (ix b 0)) * 2 ^ 8)) (IntKind.wrap .i64 (ix b 1))) 4095)) rfl rfl rfl (gt (p := .sc (.int .i64 (ior .i64 (IntKind.wrap .i64 ((IntKind.wrap .i64 (ix b 0)) * 2 ^ 8)) (IntKind.wrap .i64 (ix b 1))))) (q := .any) (hd 19 (by decide))) rfl (fun _ => rfl)))
      · exact Plan.putStep (i := 21) (q := .loc 1000 0) rfl rfl rfl (gs_plain rfl (g_nilCheck (s := 1000) (off := 0) rfl rfl rfl (gt (p := .loc 1000 0) (q := .any) (hd 0 (by decide)))))
      · exact Plan.putStep (i := 22) (q := .loc 1000 2) rfl rfl rfl (gs_plain rfl (g_fieldAddr (b := 1000) (k := 0) (m := 2) rfl rfl rfl fld27_2 (gt (p := .loc 1000 0) (q := .any) (hd 21 (by decide))) rfl))
      · exact pl_store (i := 23) (s := 1000) (off := 2) (ps0 := (api_Caps.cells c)) (ps := (api_Caps.cells c)) (qs := [.sc (.bool true)]) (p := .sc (.bool true)) 0 hc hd rfl rfl rfl ty4 (gt (p := .loc 1000 2) (q := .any) (hd 22 (by decide))) rfl (by exact planL0_old (ps := (api_Caps.cells c)) rfl rfl) rfl rfl rfl rfl rfl rfl rfl hi rfl rfl rfl rfl
      · exact Plan.putStep (i := 24) (q := .loc 1000 0) rfl rfl rfl (gs_plain rfl (g_nilCheck (s := 1000) (off := 0) rfl rfl rfl (gt (p := .loc 1000 0) (q := .any) (hd 1 (by decide)))))
      · exact Plan.putStep (i := 25) (q := .loc 1000 3) rfl rfl rfl (gs_plain rfl (g_fieldAddr (b := 1000) (k := 0) (m := 3) rfl rfl rfl fld27_3 (gt (p := .loc 1000 0) (q := .any) (hd 24 (by decide))) rfl))
      · exact pl_store (i := 26) (s := 1000) (off := 3) (ps0 := (api_Caps.cells c)) (ps := [.sc (.bool c.fFour), .sc (.int .i64 c.fAS4), .sc (.bool true), .sc (.bool c.fRestarting), .sc (.int .i64 c.fTime), .sc (.bool c.fFamily), .sc (.bool c.fForward), .sc (.bool c.fLL), .sc (.int .i64 c.fLLTime)]) (qs := [.sc (.bool (!(decide (((iand .u8 (ix b 0) 128) : Int) = 0))))]) (p := .sc (.bool (!(decide (((iand .u8 (ix b 0) 128) : Int) = 0))))) 1 hc hd rfl rfl rfl ty4 (gt (p := .loc 1000 3) (q := .any) (hd 25 (by decide))) (gt (p := .sc (.bool (!(decide (((iand .u8 (ix b 0) 128) : Int) = 0))))) (q := .any) (hd 9 (by decide))) (by exact planL0_old (ps := (api_Caps.cells c)) rfl rfl) rfl rfl rfl rfl rfl rfl rfl hi rfl rfl rfl rfl
      · exact Plan.putStep (i := 27) (q := .loc 1000 0) rfl rfl rfl (gs_plain rfl (g_nilCheck (s := 1000) (off := 0) rfl rfl rfl (gt (p := .loc 1000 0) (q := .any) (hd 2 (by decide)))))
      · exact Plan.putStep (i := 28) (q := .loc 1000 4) rfl rfl rfl (gs_plain rfl (g_fieldAddr (b := 1000) (k := 0) (m := 4) rfl rfl rfl fld27_4 (gt (p := .loc 1000 0) (q := .any) (hd 27 (by decide))) rfl))
      · exact pl_store (i := 29) (s := 1000) (off := 4) (ps0 := (api_Caps.cells c)) (ps := [.sc (.bool c.fFour), .sc (.int .i64 c.fAS4), .sc (.bool true), .sc (.bool (!(decide (((iand .u8 (ix b 0) 128) : Int) = 0)))), .sc (.int .i64 c.fTime), .sc (.bool c.fFamily), .sc (.bool c.fForward), .sc (.bool c.fLL), .sc (.int .i64 c.fLLTime)]) (qs := [.sc (.int .i64 (iand .i64 (ior .i64 (IntKind.wrap .i64 ((IntKind.wrap .i64 (ix b 0)) * 2 ^ 8)) (IntKind.wrap .i64 (ix b 1))) 4095))]) (p := .sc (.int .i64 (iand .i64 (ior .i64 (IntKind.wrap .i64 ((IntKind.wrap .i64 (ix b 0)) * 2 ^ 8)) (IntKind.wrap .i64 (ix b 1))) 4095))) 2 hc hd rfl rfl rfl ty3 (gt (p := .loc 1000 4) (q := .any) (hd 28 (by decide))) (gt (p := .sc (.int .i64 (iand .i64 (ior .i64 (IntKind.wrap .i64 ((IntKind.wrap .i64 (ix b 0)) * 2 ^ 8)) (IntKind.wrap .i64 (ix b 1))) 4095))) (q := .any) (hd 20 (by decide))) (by exact planL0_old (ps := (api_Caps.cells c)) rfl rfl) rfl rfl rfl rfl rfl rfl rfl hi rfl rfl rfl rfl
      · exact Plan.putStep (i := 30) (q := .loc 1000 0) rfl rfl rfl (gs_plain rfl (g_nilCheck (s := 1000) (off := 0) rfl rfl rfl (gt (p := .loc 1000 0) (q := .any) (hd 3 (by decide)))))
      · exact Plan.putStep (i := 31) (q := .loc 1000 5) rfl rfl rfl (gs_plain rfl (g_fieldAddr (b := 1000) (k := 0) (m := 5) rfl rfl rfl fld27_5 (gt (p := .loc 1000 0) (q := .any) (hd 30 (by decide))) rfl))
      · exact pl_store (i := 32) (s := 1000) (off := 5) (ps0 := (api_Caps.cells c)) (ps := [.sc (.bool c.fFour), .sc (.int .i64 c.fAS4), .sc (.bool true), .sc (.bool (!(decide (((iand .u8 (ix b 0) 128) : Int) = 0)))), .sc (.int .i64 (iand .i64 (ior .i64 (IntKind.wrap .i64 ((IntKind.wrap .i64 (ix b 0)) * 2 ^ 8)) (IntKind.wrap .i64 (ix b 1))) 4095)), .sc (.bool c.fFamily), .sc (.bool c.fForward), .sc (.bool c.fLL), .sc (.int .i64 c.fLLTime)]) (qs := [.sc (.bool false)]) (p := .sc (.bool false)) 3 hc hd rfl rfl rfl ty4 (gt (p := .loc 1000 5) (q := .any) (hd 31 (by decide))) rfl (by exact planL0_old (ps := (api_Caps.cells c)) rfl rfl) rfl rfl rfl rfl rfl rfl rfl hi rfl rfl rfl rfl
      · exact Plan.putStep (i := 33) (q := .loc 1000 0) rfl rfl rfl (gs_plain rfl (g_nilCheck (s := 1000) (off := 0) rfl rfl rfl (gt (p := .loc 1000 0) (q := .any) (hd 4 (by decide)))))
      · exact Plan.putStep (i := 34) (q := .loc 1000 6) rfl rfl rfl (gs_plain rfl (g_fieldAddr (b := 1000) (k := 0) (m := 6) rfl rfl rfl fld27_6 (gt (p := .loc 1000 0) (q := .any) (hd 33 (by decide))) rfl))
      · exact pl_store (i := 35) (s := 1000) (off := 6) (ps0 := (api_Caps.cells c)) (ps := [.sc (.bool c.fFour), .sc (.int .i64 c.fAS4), .sc (.bool true), .sc (.bool (!(decide (((iand .u8 (ix b 0) 128) : Int) = 0)))), .sc (.int .i64 (iand .i64 (ior .i64 (IntKind.wrap .i64 ((IntKind.wrap .i64 (ix b 0)) * 2 ^ 8)) (IntKind.wrap .i64 (ix b 1))) 4095)), .sc (.bool false), .sc (.bool c.fForward), .sc (.bool c.fLL), .sc (.int .i64 c.fLLTime)]) (qs := [.sc (.bool false)]) (p := .sc (.bool false)) 4 hc hd rfl rfl rfl ty4 (gt (p := .loc 1000 6) (q := .any) (hd 34 (by decide))) rfl (by exact planL0_old (ps := (api_Caps.cells c)) rfl rfl) rfl rfl rfl rfl rfl rfl rfl hi rfl rfl rfl rfl
    obtain rfl : bD = fun _ => true := funext hb
    refine aw_seq ?_
    refine aw_seq ?_
    refine aw_region ?_
    refine al_op rfl (g_move (p := .sem (SL (eI .u8) b)) rfl rfl rfl rfl) ?_
    refine al_op rfl (step_slice (E := (eI .u8)) (l := b) (i := 2) (j := (b.length : Int)) rfl rfl rfl Try.underlying36 ty5 (isSl_sem rfl) (isB_some rfl) (isB_none rfl) (show 0 ≤ 2 ∧ 2 ≤ (b.length : Int) ∧ (b.length : Int) ≤ (b.length : Int) from (by first | omega | ((try simp only [z1, z2, z3, z4, z5, z6, z7, z8, z9, zA, zB, zC, zD, wrap64, wrapu8, wrapu16, wrapu32, wrapu64, tmod_ite, tdiv_ite, sub_len, region_Put_len, ref01_Four_len] at *); omega) | ((try simp only [z1, z2, z3, z4, z5, z6, z7, z8, z9, zA, tmod_ite, tdiv_ite, sub_len, region_Put_len, ref01_Four_len] at *); (try simp (disch := omega) only [wrap64_id]); (try simp only [z1, z2, z3, z4, z5, z6, z7, z8, z9, zA, zB, zC, zD, wrap64, wrapu8, wrapu16, wrapu32, wrapu64, tmod_ite, tdiv_ite, sub_len] at *); omega)))) ?_
    refine al_op rfl (g_assign (p := .sem (SL (eI .u8) (sub b 2 (b.length : Int)))) rfl rfl rfl rfl) ?_
    refine al_nil ?_
    refine aw_tailV (ι := api_Caps × (List Int)) (p := fun x_0 => (caps_restart_l0 c b ((sub b 2 (b.length : Int)).length + 1) (⟨c.fFour, c.fAS4, true, !(decide (((iand .u8 (ix b 0) 128) : Int) = 0)), (iand .i64 (ior .i64 (IntKind.wrap .i64 ((IntKind.wrap .i64 (ix b 0)) * 2 ^ 8)) (IntKind.wrap .i64 (ix b 1))) 4095), false, false, c.fLL, c.fLLTime⟩ : api_Caps) (sub b 2 (b.length : Int))) = x_0) (S := fun x_0 => St.of 73 [(0, .loc 1000 0), (1, .sem (SL (eI .u8) x_0.2)), (4, .sc (.bool false))] [(1000, [.sc (.bool x_0.1.fFour), .sc (.int .i64 x_0.1.fAS4), .sc (.bool x_0.1.fGR), .sc (.bool x_0.1.fRestarting), .sc (.int .i64 x_0.1.fTime), .sc (.bool x_0.1.fFamily), .sc (.bool x_0.1.fForward), .sc (.bool x_0.1.fLL), .sc (.int .i64 x_0.1.fLLTime)])] []) (by first | exact closedAW | exact closedV | exact closedS | exact closedJ) ?_ (fun x_0 e8 => ?_)
    · skip
      refine aw_block ?_
      refine aw_loopS (ι := Nat × api_Caps × (List Int)) (S := fun i => St.of 73 [(0, .loc 1000 0), (1, .sem (SL (eI .u8) i.2.2)), (4, .sc (.bool false))] [(1000, [.sc (.bool i.2.1.fFour), .sc (.int .i64 i.2.1.fAS4), .sc (.bool i.2.1.fGR), .sc (.bool i.2.1.fRestarting), .sc (.int .i64 i.2.1.fTime), .sc (.bool i.2.1.fFamily), .sc (.bool i.2.1.fForward), .sc (.bool i.2.1.fLL), .sc (.int .i64 i.2.1.fLLTime)])] []) (J := fun i => caps_restart_l0 c b i.1 i.2.1 i.2.2 = (caps_restart_l0 c b ((sub b 2 (b.length : Int)).length + 1) (⟨c.fFour, c.fAS4, true, !(decide (((iand .u8 (ix b 0) 128) : Int) = 0)), (iand .i64 (ior .i64 (IntKind.wrap .i64 ((IntKind.wrap .i64 (ix b 0)) * 2 ^ 8)) (IntKind.wrap .i64 (ix b 1))) 4095), false, false, c.fLL, c.fLLTime⟩ : api_Caps) (sub b 2 (b.length : Int))) ∧ (i.2.2.length < i.1) ∧ ((i.2.2.length : Int) % 4 = 0)) (μ := fun i => i.1) (i₀ := (((sub b 2 (b.length : Int)).length + 1), (⟨c.fFour, c.fAS4, true, !(decide (((iand .u8 (ix b 0) 128) : Int) = 0)), (iand .i64 (ior .i64 (IntKind.wrap .i64 ((IntKind.wrap .i64 (ix b 0)) * 2 ^ 8)) (IntKind.wrap .i64 (ix b 1))) 4095), false, false, c.fLL, c.fLLTime⟩ : api_Caps), (sub b 2 (b.length : Int)))) (sub_of rfl ⟨⟨rfl, (.one (.rfl _))⟩, ⟨⟨rfl, (.one (.rfl _))⟩, ⟨⟨rfl, (.one (.rfl _))⟩, trivial⟩⟩⟩ ⟨⟨[.sc (.bool c.fFour), .sc (.int .i64 c.fAS4), .sc (.bool true), .sc (.bool (!(decide (((iand .u8 (ix b 0) 128) : Int) = 0)))), .sc (.int .i64 (iand .i64 (ior .i64 (IntKind.wrap .i64 ((IntKind.wrap .i64 (ix b 0)) * 2 ^ 8)) (IntKind.wrap .i64 (ix b 1))) 4095)), .sc (.bool false), .sc (.bool false), .sc (.bool c.fLL), .sc (.int .i64 c.fLLTime)], rfl, (.cons (wkE (f := (fun z => .sc (.bool z))) rfl) (.cons (wkE (f := (fun z => .sc (.int .i64 z))) rfl) (.cons (wkE (f := (fun z => .sc (.bool z))) rfl) (.cons (wkE (f := (fun z => .sc (.bool z))) rfl) (.cons (wkE (f := (fun z => .sc (.int .i64 z))) rfl) (.cons (wkE (f := (fun z => .sc (.bool z))) rfl) (.cons (wkE (f := (fun z => .sc (.bool z))) rfl) (.cons (wkE (f := (fun z => .sc (.bool z))) rfl) (.cons (wkE (f := (fun z => .sc (.int .i64 z))) rfl) .nil)))))))))⟩, trivial⟩ trivial) ⟨rfl, (by first | omega | ((try simp only [z1, z2, z3, z4, z5, z6, z7, z8, z9, zA, zB, zC, zD, wrap64, wrapu8, wrapu16, wrapu32, wrapu64, tmod_ite, tdiv_ite, sub_len, region_Put_len, ref01_Four_len] at *); omega) | ((try simp only [z1, z2, z3, z4, z5, z6, z7, z8, z9, zA, tmod_ite, tdiv_ite, sub_len, region_Put_len, ref01_Four_len] at *); (try simp (disch := omega) only [wrap64_id]); (try simp only [z1, z2, z3, z4, z5, z6, z7, z8, z9, zA, zB, zC, zD, wrap64, wrapu8, wrapu16, wrapu32, wrapu64, tmod_ite, tdiv_ite, sub_len] at *); omega)), (by first | omega | ((try simp only [z1, z2, z3, z4, z5, z6, z7, z8, z9, zA, zB, zC, zD, wrap64, wrapu8, wrapu16, wrapu32, wrapu64, tmod_ite, tdiv_ite, sub_len, region_Put_len, ref01_Four_len] at *); omega) | ((try simp only [z1, z2, z3, z4, z5, z6, z7, z8, z9, zA, tmod_ite, tdiv_ite, sub_len, region_Put_len, ref01_Four_len] at *); (try simp (disch := omega) only [wrap64_id]); (try simp only [z1, z2, z3, z4, z5, z6, z7, z8, z9, zA, zB, zC, zD, wrap64, wrapu8, wrapu16, wrapu32, wrapu64, tmod_ite, tdiv_ite, sub_len] at *); omega))⟩ ?_
      rintro ⟨n0, x1000_0, x1_0⟩ ⟨hJ0, hm0_0, hm0_1⟩
      obtain ⟨n0, rfl⟩ : ∃ m, n0 = m + 1 := ⟨n0 - 1, by have : 0 < n0 := Nat.lt_of_le_of_lt (Nat.zero_le _) hm0_0; omega⟩
      replace hJ0 : caps_restart_l0 c b (n0 + 1) x1000_0 x1_0 = (caps_restart_l0 c b ((sub b 2 (b.length : Int)).length + 1) (⟨c.fFour, c.fAS4, true, !(decide (((iand .u8 (ix b 0) 128) : Int) = 0)), (iand .i64 (ior .i64 (IntKind.wrap .i64 ((IntKind.wrap .i64 (ix b 0)) * 2 ^ 8)) (IntKind.wrap .i64 (ix b 1))) 4095), false, false, c.fLL, c.fLLTime⟩ : api_Caps) (sub b 2 (b.length : Int))) := hJ0
      replace hm0_0 : x1_0.length < n0 + 1 := hm0_0
      replace hm0_1 : (x1_0.length : Int) % 4 = 0 := hm0_1
      refine aw_len 1 rfl (fun hl9 => ?_)
      refine aw_seq ?_
      refine aw_seq ?_
      refine aw_region ?_
      refine al_op rfl (g_move (p := .sem (SL (eI .u8) x1_0)) rfl rfl rfl rfl) ?_
      refine al_op rfl (g_len rfl rfl rfl Try.underlying36 (isSl_sem rfl)) ?_
      refine al_op rfl (g_bin (u1 := .int .i64 (x1_0.length : Int)) (u2 := .int .i64 0) (v := .bool (decide ((0 : Int) < (x1_0.length : Int)))) rfl rfl rfl rfl rfl (fun _ => rfl)) ?_
      refine al_nil ?_
      refine aw_cond (b := decide ((0 : Int) < (x1_0.length : Int))) rfl (fun k10 => ?_) (fun k10 => ?_)
      · skip
        refine aw_skip ?_
        refine aw_joinV (ι := api_Caps) (p := fun y_11 => ((bif (caps_ipv4 x1_0) && !x1000_0.fFamily then (⟨x1000_0.fFour, x1000_0.fAS4, x1000_0.fGR, x1000_0.fRestarting, x1000_0.fTime, true, !(decide (((iand .u8 (ix x1_0 3) 128) : Int) = 0)), x1000_0.fLL, x1000_0.fLLTime⟩ : api_Caps) else x1000_0)) = y_11) (S := fun y_11 => St.of 73 [(0, .loc 1000 0), (1, .sem (SL (eI .u8) x1_0)), (4, .sc (.bool false))] [(1000, [.sc (.bool y_11.fFour), .sc (.int .i64 y_11.fAS4), .sc (.bool y_11.fGR), .sc (.bool y_11.fRestarting), .sc (.int .i64 y_11.fTime), .sc (.bool y_11.fFamily), .sc (.bool y_11.fForward), .sc (.bool y_11.fLL), .sc (.int .i64 y_11.fLLTime)])] []) ?_ (fun y_11 e11 => ?_)
        · skip
          refine aw_block ?_
          refine aw_seq ?_
          refine aw_region ?_
          refine al_op rfl (g_move (p := .sem (SL (eI .u8) x1_0)) rfl rfl rfl rfl) ?_
          refine al_op rfl (g_call (fn := Try.f50) (xs := [.tmp 53]) (args := [.sem (SL (eI .u8) x1_0)]) (r := .sc (.bool (caps_ipv4 x1_0))) rfl rfl rfl Try.func50 rfl rfl rfl rfl rfl (caps_ipv4_pf x1_0 (by first | omega | ((try simp only [z1, z2, z3, z4, z5, z6, z7, z8, z9, zA, zB, zC, zD, wrap64, wrapu8, wrapu16, wrapu32, wrapu64, tmod_ite, tdiv_ite, sub_len, region_Put_len, ref01_Four_len] at *); omega) | ((try simp only [z1, z2, z3, z4, z5, z6, z7, z8, z9, zA, tmod_ite, tdiv_ite, sub_len, region_Put_len, ref01_Four_len] at *); (try simp (disch := omega) only [wrap64_id]); (try simp only [z1, z2, z3, z4, z5, z6, z7, z8, z9, zA, zB, zC, zD, wrap64, wrapu8, wrapu16, wrapu32, wrapu64, tmod_ite, tdiv_ite, sub_len] at *); omega)))) ?_
          refine al_op rfl (g_move (p := .sc (.bool (caps_ipv4 x1_0))) rfl rfl rfl rfl) ?_
          refine al_gW (C := (caps_ipv4 x1_0)) (p := .loc 1000 0) (gd_T rfl rfl rfl rfl rfl) rfl rfl (fun g12 => g_move (p := .loc 1000 0) rfl rfl rfl rfl) ?_
          refine al_gW (C := (caps_ipv4 x1_0)) (p := .loc 1000 0) (gd_T rfl rfl rfl rfl rfl) rfl rfl (fun g13 => g_nilCheck (s := 1000) (off := 0) rfl rfl rfl (gt (p := .loc 1000 0) (q := .sc undef) g13)) ?_
          refine al_gW (C := (caps_ipv4 x1_0)) (p := .loc 1000 5) (gd_T rfl rfl rfl rfl rfl) rfl rfl (fun g14 => g_fieldAddr (b := 1000) (k := 0) (m := 5) rfl rfl rfl fld27_5 (gt (p := .loc 1000 0) (q := .sc undef) g14) rfl) ?_
          refine al_gW (C := (caps_ipv4 x1_0)) (p := .sc (.bool x1000_0.fFamily)) (gd_T rfl rfl rfl rfl rfl) rfl rfl (fun g15 => g_load (s := 1000) (off := 5) (ps := [.sc (.bool x1000_0.fFour), .sc (.int .i64 x1000_0.fAS4), .sc (.bool x1000_0.fGR), .sc (.bool x1000_0.fRestarting), .sc (.int .i64 x1000_0.fTime), .sc (.bool x1000_0.fFamily), .sc (.bool x1000_0.fForward), .sc (.bool x1000_0.fLL), .sc (.int .i64 x1000_0.fLLTime)]) (p := .sc (.bool x1000_0.fFamily)) rfl rfl rfl ty4 (gt (p := .loc 1000 5) (q := .sc undef) g15) rfl rfl rfl rfl) ?_
          refine al_gW (C := (caps_ipv4 x1_0)) (p := .sc (.bool !x1000_0.fFamily)) (gd_T rfl rfl rfl rfl rfl) rfl rfl (fun g16 => g_un (u := .bool x1000_0.fFamily) (v := .bool (!x1000_0.fFamily)) rfl rfl rfl (gt (p := .sc (.bool x1000_0.fFamily)) (q := .sc undef) g16) (fun _ => rfl)) ?_
          refine al_op rfl (g_andU (b := (caps_ipv4 x1_0)) (y := !x1000_0.fFamily) rfl rfl rfl rfl rfl) ?_
          refine al_nil ?_
          refine aw_cond (b := (caps_ipv4 x1_0) && !x1000_0.fFamily) rfl (fun k17 => ?_) (fun k17 => ?_)
          · skip
            refine aw_region ?_
            refine al_op rfl (g_move (p := .loc 1000 0) rfl rfl rfl rfl) ?_
            refine al_op rfl (g_move (p := .loc 1000 0) rfl rfl rfl rfl) ?_
            refine al_op rfl (g_move (p := .sem (SL (eI .u8) x1_0)) rfl rfl rfl rfl) ?_
            refine al_op rfl (g_ix (E := (eI .u8)) (l := x1_0) (n := 3) (ps := [.sc (.int .u8 (ix x1_0 3))]) rfl rfl rfl Try.underlying36 ty5 (isSl_sem rfl) rfl (by first | omega | ((try simp only [z1, z2, z3, z4, z5, z6, z7, z8, z9, zA, zB, zC, zD, wrap64, wrapu8, wrapu16, wrapu32, wrapu64, tmod_ite, tdiv_ite, sub_len, region_Put_len, ref01_Four_len] at *); omega) | ((try simp only [z1, z2, z3, z4, z5, z6, z7, z8, z9, zA, tmod_ite, tdiv_ite, sub_len, region_Put_len, ref01_Four_len] at *); (try simp (disch := omega) only [wrap64_id]); (try simp only [z1, z2, z3, z4, z5, z6, z7, z8, z9, zA, zB, zC, zD, wrap64, wrapu8, wrapu16, wrapu32, wrapu64, tmod_ite, tdiv_ite, sub_len] at *); omega)) rfl) ?_
            refine al_op rfl (g_loadPT (ps := [.sc (.int .u8 (ix x1_0 3))]) (p := .sc (.int .u8 (ix x1_0 3))) rfl rfl rfl ty5 rfl rfl rfl rfl rfl) ?_
            refine al_op rfl (g_bin (u1 := .int .u8 (ix x1_0 3)) (u2 := .int .u8 128) (v := .int .u8 (iand .u8 (ix x1_0 3) 128)) rfl rfl rfl rfl rfl (fun _ => rfl)) ?_
            refine al_op rfl (g_bin (u1 := .int .u8 (iand .u8 (ix x1_0 3) 128)) (u2 := .int .u8 0) (v := .bool (!(decide (((iand .u8 (ix x1_0 3) 128) : Int) = 0)))) rfl rfl rfl rfl rfl (fun _ => rfl)) ?_
            refine al_op rfl (g_nilCheck (s := 1000) (off := 0) rfl rfl rfl rfl) ?_
            refine al_op rfl (g_fieldAddr (b := 1000) (k := 0) (m := 5) rfl rfl rfl fld27_5 rfl rfl) ?_
            refine al_op rfl (g_store (s := 1000) (off := 5) (ps := [.sc (.bool x1000_0.fFour), .sc (.int .i64 x1000_0.fAS4), .sc (.bool x1000_0.fGR), .sc (.bool x1000_0.fRestarting), .sc (.int .i64 x1000_0.fTime), .sc (.bool x1000_0.fFamily), .sc (.bool x1000_0.fForward), .sc (.bool x1000_0.fLL), .sc (.int .i64 x1000_0.fLLTime)]) (p := .sc (.bool true)) (qs := [.sc (.bool x1000_0.fFour), .sc (.int .i64 x1000_0.fAS4), .sc (.bool x1000_0.fGR), .sc (.bool x1000_0.fRestarting), .sc (.int .i64 x1000_0.fTime), .sc (.bool true), .sc (.bool x1000_0.fForward), .sc (.bool x1000_0.fLL), .sc (.int .i64 x1000_0.fLLTime)]) rfl rfl ty4 rfl rfl rfl rfl rfl rfl rfl) ?_
            refine al_op rfl (g_nilCheck (s := 1000) (off := 0) rfl rfl rfl rfl) ?_
            refine al_op rfl (g_fieldAddr (b := 1000) (k := 0) (m := 6) rfl rfl rfl fld27_6 rfl rfl) ?_
            refine al_op rfl (g_store (s := 1000) (off := 6) (ps := [.sc (.bool x1000_0.fFour), .sc (.int .i64 x1000_0.fAS4), .sc (.bool x1000_0.fGR), .sc (.bool x1000_0.fRestarting), .sc (.int .i64 x1000_0.fTime), .sc (.bool true), .sc (.bool x1000_0.fForward), .sc (.bool x1000_0.fLL), .sc (.int .i64 x1000_0.fLLTime)]) (p := .sc (.bool (!(decide (((iand .u8 (ix x1_0 3) 128) : Int) = 0))))) (qs := [.sc (.bool x1000_0.fFour), .sc (.int .i64 x1000_0.fAS4), .sc (.bool x1000_0.fGR), .sc (.bool x1000_0.fRestarting), .sc (.int .i64 x1000_0.fTime), .sc (.bool true), .sc (.bool (!(decide (((iand .u8 (ix x1_0 3) 128) : Int) = 0)))), .sc (.bool x1000_0.fLL), .sc (.int .i64 x1000_0.fLLTime)]) rfl rfl ty4 rfl rfl rfl rfl rfl rfl rfl) ?_
            refine al_nil ?_
            exact ⟨(⟨x1000_0.fFour, x1000_0.fAS4, x1000_0.fGR, x1000_0.fRestarting, x1000_0.fTime, true, !(decide (((iand .u8 (ix x1_0 3) 128) : Int) = 0)), x1000_0.fLL, x1000_0.fLLTime⟩ : api_Caps), (bT k17 rfl), (sub_of rfl ⟨⟨rfl, (.one (.rfl _))⟩, ⟨⟨rfl, (.one (.rfl _))⟩, ⟨⟨rfl, (.one (.rfl _))⟩, trivial⟩⟩⟩ ⟨⟨[.sc (.bool x1000_0.fFour), .sc (.int .i64 x1000_0.fAS4), .sc (.bool x1000_0.fGR), .sc (.bool x1000_0.fRestarting), .sc (.int .i64 x1000_0.fTime), .sc (.bool true), .sc (.bool (!(decide (((iand .u8 (ix x1_0 3) 128) : Int) = 0)))), .sc (.bool x1000_0.fLL), .sc (.int .i64 x1000_0.fLLTime)], rfl, (.cons (wkE (f := (fun z => .sc (.bool z))) rfl) (.cons (wkE (f := (fun z => .sc (.int .i64 z))) rfl) (.cons (wkE (f := (fun z => .sc (.bool z))) rfl) (.cons (wkE (f := (fun z => .sc (.bool z))) rfl) (.cons (wkE (f := (fun z => .sc (.int .i64 z))) rfl) (.cons (wkE (f := (fun z => .sc (.bool z))) rfl) (.cons (wkE (f := (fun z => .sc (.bool z))) rfl) (.cons (wkE (f := (fun z => .sc (.bool z))) rfl) (.cons (wkE (f := (fun z => .sc (.int .i64 z))) rfl) .nil)))))))))⟩, trivial⟩ trivial)⟩
          · skip
            refine aw_skip ?_
            exact ⟨x1000_0, (bF k17 rfl), (sub_of rfl ⟨⟨rfl, (.one (.rfl _))⟩, ⟨⟨rfl, (.one (.rfl _))⟩, ⟨⟨rfl, (.one (.rfl _))⟩, trivial⟩⟩⟩ ⟨⟨[.sc (.bool x1000_0.fFour), .sc (.int .i64 x1000_0.fAS4), .sc (.bool x1000_0.fGR), .sc (.bool x1000_0.fRestarting), .sc (.int .i64 x1000_0.fTime), .sc (.bool x1000_0.fFamily), .sc (.bool x1000_0.fForward), .sc (.bool x1000_0.fLL), .sc (.int .i64 x1000_0.fLLTime)], rfl, (.cons (.rfl _) (.cons (.rfl _) (.cons (.rfl _) (.cons (.rfl _) (.cons (.rfl _) (.cons (.rfl _) (.cons (.rfl _) (.cons (.rfl _) (.cons (.rfl _) .nil)))))))))⟩, trivial⟩ trivial)⟩
        · skip
          refine aw_len 1 rfl (fun hl18 => ?_)
          refine aw_region ?_
          refine al_op rfl (g_move (p := .sem (SL (eI .u8) x1_0)) rfl rfl rfl rfl) ?_
          refine al_op rfl (step_slice (E := (eI .u8)) (l := x1_0) (i := 4) (j := (x1_0.length : Int)) rfl rfl rfl Try.underlying36 ty5 (isSl_sem rfl) (isB_some rfl) (isB_none rfl) (show 0 ≤ 4 ∧ 4 ≤ (x1_0.length : Int) ∧ (x1_0.length : Int) ≤ (x1_0.length : Int) from (by first | omega | ((try simp only [z1, z2, z3, z4, z5, z6, z7, z8, z9, zA, zB, zC, zD, wrap64, wrapu8, wrapu16, wrapu32, wrapu64, tmod_ite, tdiv_ite, sub_len, region_Put_len, ref01_Four_len] at *); omega) | ((try simp only [z1, z2, z3, z4, z5, z6, z7, z8, z9, zA, tmod_ite, tdiv_ite, sub_len, region_Put_len, ref01_Four_len] at *); (try simp (disch := omega) only [wrap64_id]); (try simp only [z1, z2, z3, z4, z5, z6, z7, z8, z9, zA, zB, zC, zD, wrap64, wrapu8, wrapu16, wrapu32, wrapu64, tmod_ite, tdiv_ite, sub_len] at *); omega)))) ?_
          refine al_op rfl (g_assign (p := .sem (SL (eI .u8) (sub x1_0 4 (x1_0.length : Int)))) rfl rfl rfl rfl) ?_
          refine al_nil ?_
          exact ⟨(n0, y_11, (sub x1_0 4 (x1_0.length : Int))), (sub_of rfl ⟨⟨rfl, (.one (.rfl _))⟩, ⟨⟨rfl, (.one (.rfl _))⟩, ⟨⟨rfl, (.one (.rfl _))⟩, trivial⟩⟩⟩ ⟨⟨[.sc (.bool y_11.fFour), .sc (.int .i64 y_11.fAS4), .sc (.bool y_11.fGR), .sc (.bool y_11.fRestarting), .sc (.int .i64 y_11.fTime), .sc (.bool y_11.fFamily), .sc (.bool y_11.fForward), .sc (.bool y_11.fLL), .sc (.int .i64 y_11.fLLTime)], rfl, (.cons (.rfl _) (.cons (.rfl _) (.cons (.rfl _) (.cons (.rfl _) (.cons (.rfl _) (.cons (.rfl _) (.cons (.rfl _) (.cons (.rfl _) (.cons (.rfl _) .nil)))))))))⟩, trivial⟩ trivial), ⟨Eq.trans (Eq.symm (bT k10 (mB e11 rfl))) hJ0, (by first | omega | ((try simp only [z1, z2, z3, z4, z5, z6, z7, z8, z9, zA, zB, zC, zD, wrap64, wrapu8, wrapu16, wrapu32, wrapu64, tmod_ite, tdiv_ite, sub_len, region_Put_len, ref01_Four_len] at *); omega) | ((try simp only [z1, z2, z3, z4, z5, z6, z7, z8, z9, zA, tmod_ite, tdiv_ite, sub_len, region_Put_len, ref01_Four_len] at *); (try simp (disch := omega) only [wrap64_id]); (try simp only [z1, z2, z3, z4, z5, z6, z7, z8, z9, zA, zB, zC, zD, wrap64, wrapu8, wrapu16, wrapu32, wrapu64, tmod_ite, tdiv_ite, sub_len] at *); omega)), (by first | omega | ((try simp only [z1, z2, z3, z4, z5, z6, z7, z8, z9, zA, zB, zC, zD, wrap64, wrapu8, wrapu16, wrapu32, wrapu64, tmod_ite, tdiv_ite, sub_len, region_Put_len, ref01_Four_len] at *); omega) | ((try simp only [z1, z2, z3, z4, z5, z6, z7, z8, z9, zA, tmod_ite, tdiv_ite, sub_len, region_Put_len, ref01_Four_len] at *); (try simp (disch := omega) only [wrap64_id]); (try simp only [z1, z2, z3, z4, z5, z6, z7, z8, z9, zA, zB, zC, zD, wrap64, wrapu8, wrapu16, wrapu32, wrapu64, tmod_ite, tdiv_ite, sub_len] at *); omega))⟩, Nat.lt_succ_self _⟩
      · skip
        refine aw_exit ?_
        exact ⟨(x1000_0, x1_0), hJ0.symm.trans (bF k10 rfl), (sub_of rfl ⟨⟨rfl, (.one (.rfl _))⟩, ⟨⟨rfl, (.one (.rfl _))⟩, ⟨⟨rfl, (.one (.rfl _))⟩, trivial⟩⟩⟩ ⟨⟨[.sc (.bool x1000_0.fFour), .sc (.int .i64 x1000_0.fAS4), .sc (.bool x1000_0.fGR), .sc (.bool x1000_0.fRestarting), .sc (.int .i64 x1000_0.fTime), .sc (.bool x1000_0.fFamily), .sc (.bool x1000_0.fForward), .sc (.bool x1000_0.fLL), .sc (.int .i64 x1000_0.fLLTime)], rfl, (.cons (.rfl _) (.cons (.rfl _) (.cons (.rfl _) (.cons (.rfl _) (.cons (.rfl _) (.cons (.rfl _) (.cons (.rfl _) (.cons (.rfl _) (.cons (.rfl _) .nil)))))))))⟩, trivial⟩ trivial)⟩
    · skip
      refine aw_len 1 rfl (fun hl19 => ?_)
      refine aw_seq ?_
      refine aw_region ?_
      refine al_op rfl (g_assign (p := .sc (.bool true)) rfl rfl rfl rfl) ?_
      refine al_nil ?_
      refine aw_ret ?_
      exact endG_mk (F := (fun (z : Bool × api_Caps) => ⟨[(1000, [.sc (.bool z.2.fFour), .sc (.int .i64 z.2.fAS4), .sc (.bool z.2.fGR), .sc (.bool z.2.fRestarting), .sc (.int .i64 z.2.fTime), .sc (.bool z.2.fFamily), .sc (.bool z.2.fForward), .sc (.bool z.2.fLL), .sc (.int .i64 z.2.fLLTime)])], [], .sc (.bool z.1)⟩)) (z := (caps_restart c b)) (v := (true, x_0.1)) (bF k7 (mB e8 rfl)) rfl (.one (.tmp 4 (.sc (.bool true)) rfl) (.one (.rfl _)) rfl) ⟨⟨[.sc (.bool x_0.1.fFour), .sc (.int .i64 x_0.1.fAS4), .sc (.bool x_0.1.fGR), .sc (.bool x_0.1.fRestarting), .sc (.int .i64 x_0.1.fTime), .sc (.bool x_0.1.fFamily), .sc (.bool x_0.1.fForward), .sc (.bool x_0.1.fLL), .sc (.int .i64 x_0.1.fLLTime)], rfl, (.cons (.rfl _) (.cons (.rfl _) (.cons (.rfl _) (.cons (.rfl _) (.cons (.rfl _) (.cons (.rfl _) (.cons (.rfl _) (.cons (.rfl _) (.cons (.rfl _) .nil)))))))))⟩, trivial⟩ trivial

def caps_lived_l0 (c : api_Caps) (b : List Int) : Nat → api_Caps → List Int → api_Caps × (List Int)
  | 0, _, _ => default
  | n0 + 1, x1000_0, b_0 =>
    (bif decide ((0 : Int) < (b_0.length : Int)) then
      (thn (bif (caps_ipv4 b_0) && !x1000_0.fLL then (⟨x1000_0.fFour, x1000_0.fAS4, x1000_0.fGR, x1000_0.fRestarting, x1000_0.fTime, x1000_0.fFamily, x1000_0.fForward, true, (ior .i64 (ior .i64 (IntKind.wrap .i64 ((IntKind.wrap .i64 (ix b_0 4)) * 2 ^ 16)) (IntKind.wrap .i64 ((IntKind.wrap .i64 (ix b_0 5)) * 2 ^ 8))) (IntKind.wrap .i64 (ix b_0 6)))⟩ : api_Caps) else x1000_0) fun (y_6 : api_Caps) =>
        caps_lived_l0 c b n0 y_6 (sub b_0 7 (b_0.length : Int)))
    else
      (x1000_0, b_0))
/-- interregnum/caps.lived -/
def caps_lived (c : api_Caps) (b : List Int) : Bool × api_Caps :=
  (bif !(decide (((Int.tmod (b.length : Int) 7) : Int) = 0)) then
    (false, c)
  else
    (thn (caps_lived_l0 c b (b.length + 1) (⟨c.fFour, c.fAS4, c.fGR, c.fRestarting, c.fTime, c.fFamily, c.fForward, false, 0⟩ : api_Caps) b) fun (x_0 : api_Caps × (List Int)) =>
      (true, x_0.1)))
set_option maxRecDepth 100000 in
set_option maxHeartbeats 4000000 in
theorem caps_lived_pf (c : api_Caps) (b : List Int) : PG Try.prog 48 [(1000, (api_Caps.cells c))] [] [.loc 1000 0, .sem (SL (eI .u8) b)] (fun _ : Unit => True) (fun _ => (fun (z : Bool × api_Caps) => ⟨[(1000, [.sc (.bool z.2.fFour), .sc (.int .i64 z.2.fAS4), .sc (.bool z.2.fGR), .sc (.bool z.2.fRestarting), .sc (.int .i64 z.2.fTime), .sc (.bool z.2.fFamily), .sc (.bool z.2.fForward), .sc (.bool z.2.fLL), .sc (.int .i64 z.2.fLLTime)])], [], .sc (.bool z.1)⟩) (caps_lived c b)) := by
  refine pg_of (N := 51) (l := [.tmp 4]) Try.func48 rfl rfl rfl (Nat.le_of_ble_eq_true rfl) fun w0 i0 F βs => ?_
  refine aw_len 1 rfl (fun hl1 => ?_)
  refine aw_seq ?_
  refine aw_region ?_
  refine al_op rfl (g_assign (p := .sc (.bool false)) rfl rfl rfl rfl) ?_
  refine al_nil ?_
  refine aw_seq ?_
  refine aw_seq ?_
  refine aw_region ?_
  refine al_op rfl (g_move (p := .sem (SL (eI .u8) b)) rfl rfl rfl rfl) ?_
  refine al_op rfl (g_len rfl rfl rfl Try.underlying36 (isSl_sem rfl)) ?_
  refine al_op rfl (g_bin (u1 := .int .i64 (b.length : Int)) (u2 := .int .i64 7) (v := .int .i64 (Int.tmod (b.length : Int) 7)) rfl rfl rfl rfl rfl (fun _ => rfl)) ?_
  refine al_op rfl (g_bin (u1 := .int .i64 (Int.tmod (b.length : Int) 7)) (u2 := .int .i64 0) (v := .bool (!(decide (((Int.tmod (b.length : Int) 7) : Int) = 0)))) rfl rfl rfl rfl rfl (fun _ => rfl)) ?_
  refine al_nil ?_
  refine aw_cond (b := !(decide (((Int.tmod (b.length : Int) 7) : Int) = 0))) rfl (fun k2 => ?_) (fun k2 => ?_)
  · skip
    refine aw_seq ?_
    refine aw_region ?_
    refine al_op rfl (g_assign (p := .sc (.bool false)) rfl rfl rfl rfl) ?_
    refine al_nil ?_
    refine aw_ret ?_
    exact endG_mk (F := (fun (z : Bool × api_Caps) => ⟨[(1000, [.sc (.bool z.2.fFour), .sc (.int .i64 z.2.fAS4), .sc (.bool z.2.fGR), .sc (.bool z.2.fRestarting), .sc (.int .i64 z.2.fTime), .sc (.bool z.2.fFamily), .sc (.bool z.2.fForward), .sc (.bool z.2.fLL), .sc (.int .i64 z.2.fLLTime)])], [], .sc (.bool z.1)⟩)) (z := (caps_lived c b)) (v := (false, c)) (bT k2 rfl) rfl (.one (.tmp 4 (.sc (.bool false)) rfl) (.one (.rfl _)) rfl) ⟨⟨(api_Caps.cells c), rfl, (.cons (.rfl _) (.cons (.rfl _) (.cons (.rfl _) (.cons (.rfl _) (.cons (.rfl _) (.cons (.rfl _) (.cons (.rfl _) (.cons (.rfl _) (.cons (.rfl _) .nil)))))))))⟩, trivial⟩ trivial
  · skip
    refine aw_skip ?_
    refine aw_seq ?_
    refine aw_region ?_
    refine al_op rfl (g_move (p := .loc 1000 0) rfl rfl rfl rfl) ?_
    refine al_op rfl (g_move (p := .loc 1000 0) rfl rfl rfl rfl) ?_
    refine al_op rfl (g_nilCheck (s := 1000) (off := 0) rfl rfl rfl rfl) ?_
    refine al_op rfl (g_fieldAddr (b := 1000) (k := 0) (m := 7) rfl rfl rfl fld27_7 rfl rfl) ?_
    refine al_op rfl (g_store (s := 1000) (off := 7) (ps := (api_Caps.cells c)) (p := .sc (.bool false)) (qs := [.sc (.bool c.fFour), .sc (.int .i64 c.fAS4), .sc (.bool c.fGR), .sc (.bool c.fRestarting), .sc (.int .i64 c.fTime), .sc (.bool c.fFamily), .sc (.bool c.fForward), .sc (.bool false), .sc (.int .i64 c.fLLTime)]) rfl rfl ty4 rfl rfl rfl rfl rfl rfl rfl) ?_
    refine al_op rfl (g_nilCheck (s := 1000) (off := 0) rfl rfl rfl rfl) ?_
    refine al_op rfl (g_fieldAddr (b := 1000) (k := 0) (m := 8) rfl rfl rfl fld27_8 rfl rfl) ?_
    refine al_op rfl (g_store (s := 1000) (off := 8) (ps := [.sc (.bool c.fFour), .sc (.int .i64 c.fAS4), .sc (.bool c.fGR), .sc (.bool c.fRestarting), .sc (.int .i64 c.fTime), .sc (.bool c.fFamily), .sc (.bool c.fForward), .sc (.bool false), .sc (.int .i64 c.fLLTime)]) (p := .sc (.int .i64 0)) (qs := [.sc (.bool c.fFour), .sc (.int .i64 c.fAS4), .sc (.bool c.fGR), .sc (.bool c.fRestarting), .sc (.int .i64 c.fTime), .sc (.bool c.fFamily), .sc (.bool c.fForward), .sc (.bool false), .sc (.int .i64 0)]) rfl rfl ty3 rfl rfl rfl rfl rfl rfl rfl) ?_
    refine al_nil ?_
    refine aw_joinV (ι := api_Caps × (List Int)) (p := fun x_0 => (caps_lived_l0 c b (b.length + 1) (⟨c.fFour, c.fAS4, c.fGR, c.fRestarting, c.fTime, c.fFamily, c.fForward, false, 0⟩ : api_Caps) b) = x_0) (S := fun x_0 => St.of 51 [(0, .loc 1000 0), (1, .sem (SL (eI .u8) x_0.2)), (4, .sc (.bool false))] [(1000, [.sc (.bool x_0.1.fFour), .sc (.int .i64 x_0.1.fAS4), .sc (.bool x_0.1.fGR), .sc (.bool x_0.1.fRestarting), .sc (.int .i64 x_0.1.fTime), .sc (.bool x_0.1.fFamily), .sc (.bool x_0.1.fForward), .sc (.bool x_0.1.fLL), .sc (.int .i64 x_0.1.fLLTime)])] []) ?_ (fun x_0 e3 => ?_)
    · skip
      refine aw_block ?_
      refine aw_loopS (ι := Nat × api_Caps × (List Int)) (S := fun i => St.of 51 [(0, .loc 1000 0), (1, .sem (SL (eI .u8) i.2.2)), (4, .sc (.bool false))] [(1000, [.sc (.bool i.2.1.fFour), .sc (.int .i64 i.2.1.fAS4), .sc (.bool i.2.1.fGR), .sc (.bool i.2.1.fRestarting), .sc (.int .i64 i.2.1.fTime), .sc (.bool i.2.1.fFamily), .sc (.bool i.2.1.fForward), .sc (.bool i.2.1.fLL), .sc (.int .i64 i.2.1.fLLTime)])] []) (J := fun i => caps_lived_l0 c b i.1 i.2.1 i.2.2 = (caps_lived_l0 c b (b.length + 1) (⟨c.fFour, c.fAS4, c.fGR, c.fRestarting, c.fTime, c.fFamily, c.fForward, false, 0⟩ : api_Caps) b) ∧ (i.2.2.length < i.1) ∧ ((i.2.2.length : Int) % 7 = 0)) (μ := fun i => i.1) (i₀ := ((b.length + 1), (⟨c.fFour, c.fAS4, c.fGR, c.fRestarting, c.fTime, c.fFamily, c.fForward, false, 0⟩ : api_Caps), b)) (sub_of rfl ⟨⟨rfl, (.one (.rfl _))⟩, ⟨⟨rfl, (.one (.rfl _))⟩, ⟨⟨rfl, (.one (.rfl _))⟩, trivial⟩⟩⟩ ⟨⟨[.sc (.bool c.fFour), .sc (.int .i64 c.fAS4), .sc (.bool c.fGR), .sc (.bool c.fRestarting), .sc (.int .i64 c.fTime), .sc (.bool c.fFamily), .sc (.bool c.fForward), .sc (.bool false), .sc (.int .i64 0)], rfl, (.cons (wkE (f := (fun z => .sc (.bool z))) rfl) (.cons (wkE (f := (fun z => .sc (.int .i64 z))) rfl) (.cons (wkE (f := (fun z => .sc (.bool z))) rfl) (.cons (wkE (f := (fun z => .sc (.bool z))) rfl) (.cons (wkE (f := (fun z => .sc (.int .i64 z))) rfl) (.cons (wkE (f := (fun z => .sc (.bool z))) rfl) (.cons (wkE (f := (fun z => .sc (.bool z))) rfl) (.cons (wkE (f := (fun z => .sc (.bool z))) rfl) (.cons (wkE (f := (fun z => .sc (.int .i64 z))) rfl) .nil)))))))))⟩, trivial⟩ trivial) ⟨rfl, (by first | omega | ((try simp only [z1, z2, z3, z4, z5, z6, z7, z8, z9, zA, zB, zC, zD, wrap64, wrapu8, wrapu16, wrapu32, wrapu64, tmod_ite, tdiv_ite, sub_len, region_Put_len, ref01_Four_len] at *); omega) | ((try simp only [z1, z2, z3, z4, z5, z6, z7, z8, z9, zA, tmod_ite, tdiv_ite, sub_len, region_Put_len, ref01_Four_len] at *); (try simp (disch := omega) only [wrap64_id]); (try simp only [z1, z2, z3, z4, z5, z6, z7, z8, z9, zA, zB, zC, zD, wrap64, wrapu8, wrapu16, wrapu32, wrapu64, tmod_ite, tdiv_ite, sub_len] at *); omega)), (by first | omega | ((try simp only [z1, z2, z3, z4, z5, z6, z7, z8, z9, zA, zB, zC, zD, wrap64, wrapu8, wrapu16, wrapu32, wrapu64, tmod_ite, tdiv_ite, sub_len, region_Put_len, ref01_Four_len] at *); omega) | ((try simp only [z1, z2, z3, z4, z5, z6, z7, z8, z9, zA, tmod_ite, tdiv_ite, sub_len, region_Put_len, ref01_Four_len] at *); (try simp (disch := omega) only [wrap64_id]); (try simp only [z1, z2, z3, z4, z5, z6, z7, z8, z9, zA, zB, zC, zD, wrap64, wrapu8, wrapu16, wrapu32, wrapu64, tmod_ite, tdiv_ite, sub_len] at *); omega))⟩ ?_
      rintro ⟨n0, x1000_0, b_0⟩ ⟨hJ0, hm0_0, hm0_1⟩
      obtain ⟨n0, rfl⟩ : ∃ m, n0 = m + 1 := ⟨n0 - 1, by have : 0 < n0 := Nat.lt_of_le_of_lt (Nat.zero_le _) hm0_0; omega⟩
      replace hJ0 : caps_lived_l0 c b (n0 + 1) x1000_0 b_0 = (caps_lived_l0 c b (b.length + 1) (⟨c.fFour, c.fAS4, c.fGR, c.fRestarting, c.fTime, c.fFamily, c.fForward, false, 0⟩ : api_Caps) b) := hJ0
      replace hm0_0 : b_0.length < n0 + 1 := hm0_0
      replace hm0_1 : (b_0.length : Int) % 7 = 0 := hm0_1
      refine aw_len 1 rfl (fun hl4 => ?_)
      refine aw_seq ?_
      refine aw_seq ?_
      refine aw_region ?_
      refine al_op rfl (g_move (p := .sem (SL (eI .u8) b_0)) rfl rfl rfl rfl) ?_
      refine al_op rfl (g_len rfl rfl rfl Try.underlying36 (isSl_sem rfl)) ?_
      refine al_op rfl (g_bin (u1 := .int .i64 (b_0.length : Int)) (u2 := .int .i64 0) (v := .bool (decide ((0 : Int) < (b_0.length : Int)))) rfl rfl rfl rfl rfl (fun _ => rfl)) ?_
      refine al_nil ?_
      refine aw_cond (b := decide ((0 : Int) < (b_0.length : Int))) rfl (fun k5 => ?_) (fun k5 => ?_)
      · skip
        refine aw_skip ?_
        refine aw_joinV (ι := api_Caps) (p := fun y_6 => ((bif (caps_ipv4 b_0) && !x1000_0.fLL then (⟨x1000_0.fFour, x1000_0.fAS4, x1000_0.fGR, x1000_0.fRestarting, x1000_0.fTime, x1000_0.fFamily, x1000_0.fForward, true, (ior .i64 (ior .i64 (IntKind.wrap .i64 ((IntKind.wrap .i64 (ix b_0 4)) * 2 ^ 16)) (IntKind.wrap .i64 ((IntKind.wrap .i64 (ix b_0 5)) * 2 ^ 8))) (IntKind.wrap .i64 (ix b_0 6)))⟩ : api_Caps) else x1000_0)) = y_6) (S := fun y_6 => St.of 51 [(0, .loc 1000 0), (1, .sem (SL (eI .u8) b_0)), (4, .sc (.bool false))] [(1000, [.sc (.bool y_6.fFour), .sc (.int .i64 y_6.fAS4), .sc (.bool y_6.fGR), .sc (.bool y_6.fRestarting), .sc (.int .i64 y_6.fTime), .sc (.bool y_6.fFamily), .sc (.bool y_6.fForward), .sc (.bool y_6.fLL), .sc (.int .i64 y_6.fLLTime)])] []) ?_ (fun y_6 e6 => ?_)
        · skip
          refine aw_block ?_
          refine aw_seq ?_
          refine aw_region ?_
          refine al_op rfl (g_move (p := .sem (SL (eI .u8) b_0)) rfl rfl rfl rfl) ?_
          refine al_op rfl (g_call (fn := Try.f50) (xs := [.tmp 20]) (args := [.sem (SL (eI .u8) b_0)]) (r := .sc (.bool (caps_ipv4 b_0))) rfl rfl rfl Try.func50 rfl rfl rfl rfl rfl (caps_ipv4_pf b_0 (by first | omega | ((try simp only [z1, z2, z3, z4, z5, z6, z7, z8, z9, zA, zB, zC, zD, wrap64, wrapu8, wrapu16, wrapu32, wrapu64, tmod_ite, tdiv_ite, sub_len, region_Put_len, ref01_Four_len] at *); omega) | ((try simp only [z1, z2, z3, z4, z5, z6, z7, z8, z9, zA, tmod_ite, tdiv_ite, sub_len, region_Put_len, ref01_Four_len] at *); (try simp (disch := omega) only [wrap64_id]); (try simp only [z1, z2, z3, z4, z5, z6, z7, z8, z9, zA, zB, zC, zD, wrap64, wrapu8, wrapu16, wrapu32, wrapu64, tmod_ite, tdiv_ite, sub_len] at *); omega)))) ?_
          refine al_op rfl (g_move (p := .sc (.bool (caps_ipv4 b_0))) rfl rfl rfl rfl) ?_
          refine al_gW (C := (caps_ipv4 b_0)) (p := .loc 1000 0) (gd_T rfl rfl rfl rfl rfl) rfl rfl (fun g7 => g_move (p := .loc 1000 0) rfl rfl rfl rfl) ?_
          refine al_gW (C := (caps_ipv4 b_0)) (p := .loc 1000 0) (gd_T rfl rfl rfl rfl rfl) rfl rfl (fun g8 => g_nilCheck (s := 1000) (off := 0) rfl rfl rfl (gt (p := .loc 1000 0) (q := .sc undef) g8)) ?_
          refine al_gW (C := (caps_ipv4 b_0)) (p := .loc 1000 7) (gd_T rfl rfl rfl rfl rfl) rfl rfl (fun g9 => g_fieldAddr (b := 1000) (k := 0) (m := 7) rfl rfl rfl fld27_7 (gt (p := .loc 1000 0) (q := .sc undef) g9) rfl) ?_
          refine al_gW (C := (caps_ipv4 b_0)) (p := .sc (.bool x1000_0.fLL)) (gd_T rfl rfl rfl rfl rfl) rfl rfl (fun g10 => g_load (s := 1000) (off := 7) (ps := [.sc (.bool x1000_0.fFour), .sc (.int .i64 x1000_0.fAS4), .sc (.bool x1000_0.fGR), .sc (.bool x1000_0.fRestarting), .sc (.int .i64 x1000_0.fTime), .sc (.bool x1000_0.fFamily), .sc (.bool x1000_0.fForward), .sc (.bool x1000_0.fLL), .sc (.int .i64 x1000_0.fLLTime)]) (p := .sc (.bool x1000_0.fLL)) rfl rfl rfl ty4 (gt (p := .loc 1000 7) (q := .sc undef) g10) rfl rfl rfl rfl) ?_
          refine al_gW (C := (caps_ipv4 b_0)) (p := .sc (.bool !x1000_0.fLL)) (gd_T rfl rfl rfl rfl rfl) rfl rfl (fun g11 => g_un (u := .bool x1000_0.fLL) (v := .bool (!x1000_0.fLL)) rfl rfl rfl (gt (p := .sc (.bool x1000_0.fLL)) (q := .sc undef) g11) (fun _ => rfl)) ?_
          refine al_op rfl (g_andU (b := (caps_ipv4 b_0)) (y := !x1000_0.fLL) rfl rfl rfl rfl rfl) ?_
          refine al_nil ?_
          refine aw_cond (b := (caps_ipv4 b_0) && !x1000_0.fLL) rfl (fun k12 => ?_) (fun k12 => ?_)
          · skip
            refine aw_plan { ds := [some 29, some 30, some 31, some 32, some 33, some 34, some 35, some 36, some 37, some 38, some 39, some 40, some 41, some 42, some 43, some 44, some 45, some 46, some 47, some 48, none, some 49, some 50, none], p := fun i => [.loc 1000 0, .loc 1000 0, .sem (SL (eI .u8) b_0), .sem (PT [.sc (.int .u8 (ix b_0 4))]), .sc (.int .u8 (ix b_0 4)), .sc (.int .i64 (IntKind.wrap .i64 (ix b_0 4))), .sc (.int .i64 (IntKind.wrap .i64 ((IntKind.wrap .i64 (ix b_0 4)) * 2 ^ 16))), .sem (SL (eI .u8) b_0), .sem (PT [.sc (.int .u8 (ix b_0 5))]), .sc (.int .u8 (ix b_0 5)), .sc (.int .i64 (IntKind.wrap .i64 (ix b_0 5))), .sc (.int .i64 (IntKind.wrap .i64 ((IntKind.wrap .i64 (ix b_0 5)) * 2 ^ 8))), .sc (.int .i64 (ior .i64 (IntKind.wrap .i64 ((IntKind.wrap .i64 (ix b_0 4)) * 2 ^ 16)) (IntKind.wrap .i64 ((IntKind.wrap .i64 (ix b_0 5)) * 2 ^ 8)))), .sem (SL (eI .u8) b_0), .sem (PT [.sc (.int .u8 (ix b_0 6))]), .sc (.int .u8 (ix b_0 6)), .sc (.int .i64 (IntKind.wrap .i64 (ix b_0 6))), .sc (.int .i64 (ior .i64 (ior .i64 (IntKind.wrap .i64 ((IntKind.wrap .i64 (ix b_0 4)) * 2 ^ 16)) (IntKind.wrap .i64 ((IntKind.wrap .i64 (ix b_0 5)) * 2 ^ 8))) (IntKind.wrap .i64 (ix b_0 6)))), .loc 1000 0, .loc 1000 7, .any, .loc 1000 0, .loc 1000 8, .any].getD i .any, al := [], st := [(20, 1000, 7, [.sc (.bool true)]), (23, 1000, 8, [.sc (.int .i64 (ior .i64 (ior .i64 (IntKind.wrap .i64 ((IntKind.wrap .i64 (ix b_0 4)) * 2 ^ 16)) (IntKind.wrap .i64 ((IntKind.wrap .i64 (ix b_0 5)) * 2 ^ 8))) (IntKind.wrap .i64 (ix b_0 6))))])] } rfl rfl rfl rfl ?_ (fun bD hb => ?_)
            · refine ⟨fun bD hc hi hd => ?_, fun bD hc hi hd => ?_, fun bD hc hi hd => ?_, fun bD hc hi hd => ?_, fun bD hc hi hd => ?_, fun bD hc hi hd => ?_, fun bD hc hi hd => ?_, fun bD hc hi hd => ?_, fun bD hc hi hd => ?_, fun bD hc hi hd => ?_, fun bD hc hi hd => ?_, fun bD hc hi hd => ?_, fun bD hc hi hd => ?_, fun bD hc hi hd => ?_, fun bD hc hi hd => ?_, fun bD hc hi hd => ?_, fun bD hc hi hd => ?_, fun bD hc hi hd => ?_, fun bD hc hi hd => ?_, fun bD hc hi hd => ?_, fun bD hc hi hd => ?_, fun bD hc hi hd => ?_, fun bD hc hi hd => ?_, fun bD hc hi hd => ?_, trivial⟩
              · exact Plan.putStep (i := 0) (q := .loc 1000 0) rfl rfl rfl (gs_plain rfl (g_move (p := .loc 1000 0) rfl rfl rfl rfl))
              · exact Plan.putStep (i := 1) (q := .loc 1000 0) rfl rfl rfl (gs_plain rfl (g_move (p := .loc 1000 0) rfl rfl rfl rfl))
              · exact Plan.putStep (i := 2) (q := .sem (SL (eI .u8) b_0)) rfl rfl rfl (gs_plain rfl (g_move (p := .sem (SL (eI .u8) b_0)) rfl rfl rfl rfl))
              · exact Plan.putStep (i := 3) (q := .sem (PT [.sc (.int .u8 (ix b_0 4))])) rfl rfl rfl (gs_plain rfl (g_ix (E := (eI .u8)) (l := b_0) (n := 4) (ps := [.sc (.int .u8 (ix b_0 4))]) rfl rfl rfl Try.underlying36 ty5 (by exact (isSl_sem (by exact (gt (p := .sem (SL (eI .u8) b_0)) (q := .any) (hd 2 (by decide)))))) rfl (by first | omega | ((try simp only [z1, z2, z3, z4, z5, z6, z7, z8, z9, zA, zB, zC, zD, wrap64, wrapu8, wrapu16, wrapu32, wrapu64, tmod_ite, tdiv_ite, sub_len, region_Put_len, ref01_Four_len] at *); omega) | ((try simp only [z1, z2, z3, z4, z5, z6, z7, z8, z9, zA, tmod_ite, tdiv_ite, sub_len, region_Put_len, ref01_Four_len] at *); (try simp (disch := omega) only [wrap64_id]); (try simp only [z1, z2, z3, z4, z5, z6, z7, z8, z9, zA, zB, zC, zD, wrap64, wrapu8, wrapu16, wrapu32, wrapu64, tmod_ite, tdiv_ite, sub_len] at *); omega)) rfl))
              · exact Plan.putStep (i := 4) (q := .sc (.int .u8 (ix b_0 4))) rfl rfl rfl (gs_plain rfl (g_loadPT (ps := [.sc (.int .u8 (ix b_0 4))]) (p := .sc (.int .u8 (ix b_0 4))) rfl rfl rfl ty5 (gt (p := .sem (PT [.sc (.int .u8 (ix b_0 4))])) (q := .any) (hd 3 (by decide))) rfl rfl rfl rfl))
              · exact Plan.putStep (i := 5) (q := .sc (.int .i64 (IntKind.wrap .i64 (ix b_0 4)))) rfl rfl rfl (gs_plain rfl (g_conv (m := (IntKind.wrap .i64 (ix b_0 4))) rfl rfl rfl Try.underlying5 Try.underlying3 (gt (p := .sc (.int .u8 (ix b_0 4))) (q := .any) (hd 4 (by decide))) rfl))
              · exact Plan.putStep (i := 6) (q := .sc (.int .i64 (IntKind.wrap .i64 ((IntKind.wrap .i64 (ix b_0 4)) * 2 ^ 16)))) rfl rfl rfl (gs_plain rfl (g_bin (u1 := .int .i64 (IntKind.wrap .i64 (ix b_0 4))) (u2 := .int .u64 16) (v := .int .i64 (IntKind.wrap .i64 ((IntKind.wrap .i64 (ix b_0 4)) * 2 ^ 16))) rfl rfl rfl (gt (p := .sc (.int .i64 (IntKind.wrap .i64 (ix b_0 4)))) (q := .any) (hd 5 (by decide))) rfl (fun _ => rfl)))
              · exact Plan.putStep (i := 7) (q := .sem (SL (eI .u8) b_0)) rfl rfl rfl (gs_plain rfl (g_move (p := .sem (SL (eI .u8) b_0)) rfl rfl rfl rfl))
              · exact Plan.putStep (i := 8) (q := .sem (PT [.sc (.int .u8 (ix b_0 5))])) rfl rfl rfl (gs_plain rfl (g_ix (E := (eI .u8)) (l := b_0) (n := 5) (ps := [.sc (.int .u8 (ix b_0 5))]) rfl rfl rfl Try.underlying36 ty5 (by exact (isSl_sem (by exact (gt (p := .sem (SL (eI .u8) b_0)) (q := .any) (hd 7 (by decide)))))) rfl (by first | omega | ((try simp only [z1, z2, z3, z4, z5, z6, z7, z8, z9, zA, zB, zC, zD, wrap64, wrapu8, wrapu16, wrapu32, wrapu64, tmod_ite, tdiv_ite, sub_len, region_Put_len, ref01_Four_len] at *); omega) | ((try simp only [z1, z2, z3, z4, z5, z6, z7, z8, z9, zA, tmod_ite, tdiv_ite, sub_len, region_Put_len, ref01_Four_len] at *); (try simp (disch := omega) only [wrap64_id]); (try simp only [z1, z2, z3, z4, z5, z6, z7, z8, z9, zA, zB, zC, zD, wrap64, wrapu8, wrapu16, wrapu32, wrapu64, tmod_ite, tdiv_ite, sub_len] at *); omega)) rfl))
              · exact Plan.putStep (i := 9) (q := .sc (.int .u8 (ix b_0 5))) rfl rfl rfl (gs_plain rfl (g_loadPT (ps := [.sc (.int .u8 (ix b_0 5))]) (p := .sc (.int .u8 (ix b_0 5))) rfl rfl rfl ty5 (gt (p := .sem (PT [.sc (.int .u8 (ix b_0 5))])) (q := .any) (hd 8 (by decide))) rfl rfl rfl rfl))
              · exact Plan.putStep (i := 10) (q := .sc (.int .i64 (IntKind.wrap .i64 (ix b_0 5)))) rfl rfl rfl (gs_plain rfl (g_conv (m := (IntKind.wrap .i64 (ix b_0 5))) rfl rfl rfl Try.underlying5 Try.underlying3 (gt (p := .sc (.int .u8 (ix b_0 5))) (q := .any) (hd 9 (by decide))) rfl))
              · exact Plan.putStep (i := 11) (q := .sc (.int .i64 (IntKind.wrap .i64 ((IntKind.wrap .i64 (ix b_0 5)) * 2 ^ 8)))) rfl rfl rfl (gs_plain rfl (g_bin (u1 := .int .i64 (IntKind.wrap .i64 (ix b_0 5))) (u2 := .int .u64 8) (v := .int .i64 (IntKind.wrap .i64 ((IntKind.wrap .i64 (ix b_0 5)) * 2 ^ 8))) rfl rfl rfl (gt (p := .sc (.int .i64 (IntKind.wrap .i64 (ix b_0 5)))) (q := .any) (hd 10 (by decide))) rfl (fun _ => rfl)))
              · exact Plan.putStep (i := 12) (q := .sc (.int .i64 (ior .i64 (IntKind.wrap .i64 ((IntKind.wrap .i64 (ix b_0 4)) * 2 ^ 16)) (IntKind.wrap .i64 ((IntKind.wrap .i64 (ix b_0 5)) * 2 ^ 8))))) rfl rfl rfl (gs_plain rfl (g_bin (u1 := .int .i64 (IntKind.wrap .i64 ((IntKind.wrap .i64 (ix b_0 4)) * 2 ^ 16))) (u2 := .int .i64 (IntKind.wrap .i64 ((IntKind.wrap .i64 (ix b_0 5)) * 2 ^ 8))) (v := .int .i64 (ior .i64 (IntKind.wrap .i64 ((IntKind.wrap .i64 (ix b_0 4)) * 2 ^ 16)) (IntKind.wrap .i64 ((IntKind.wrap .i64 (ix b_0 5)) * 2 ^ 8)))) rfl rfl rfl (gt (p := .sc (.int .i64 (IntKind.wrap .i64 ((IntKind.wrap .i64 (ix b_0 4)) * 2 ^ 16)))) (q := .any) (hd 6 (by decide))) (gt (p := .sc (.int .i64 (IntKind.wrap .i64 ((IntKind.wrap .i64 (ix b_0 5)) * 2 ^ 8)))) (q := .any) (hd 11 (by decide))) (fun _ => rfl)))
              · exact Plan.putStep (i := 13) (q := .sem (SL (eI .u8) b_0)) rfl rfl rfl (gs_plain rfl (g_move (p := .sem (SL (eI .u8) b_0)) rfl rfl rfl rfl))
              · exact Plan.putStep (i := 14) (q := .sem (PT [.sc (.int .u8 (ix b_0 6))])) rfl rfl rfl (gs_plain rfl (g_ix (E := (eI .u8)) (l := b_0) (n := 6) (ps := [.sc (.int .u8 (ix b_0 6))]) rfl rfl rfl Try.underlying36 ty5 (by exact (isSl_sem (by exact (gt (p := .sem (SL (eI .u8) b_0)) (q := .any) (hd 13 (by decide)))))) rfl (by first | omega | ((try simp only [z1, z2, z3, z4, z5, z6, z7, z8, z9, zA, zB, zC, zD, wrap64, wrapu8, wrapu16, wrapu32, wrapu64, tmod_ite, tdiv_ite, sub_len, region_Put_len, ref01_Four_len] at *); omega) | ((try simp only [z1, z2, z3, z4, z5, z6, z7, z8, z9, zA, tmod_ite, tdiv_ite, sub_len, region_Put_len, ref01_Four_len] at *); (try simp (disch := omega) only [wrap64_id]); (try simp only [z1, z2, z3, z4, z5, z6, z7, z8, z9, zA, zB, zC, zD, wrap64, wrapu8, wrapu16, wrapu32, wrapu64, tmod_ite, tdiv_ite, sub_len] at *); omega)) rfl))
              · exact Plan.putStep (i := 15) (q := .sc (.int .u8 (ix b_0 6))) rfl rfl rfl (gs_plain rfl (g_loadPT (ps := [.sc (.int .u8 (ix b_0 6))]) (p := .sc (.int .u8 (ix b_0 6))) rfl rfl rfl ty5 (gt (p := .sem (PT [.sc (.int .u8 (ix b_0 6))])) (q := .any) (hd 14 (by decide))) rfl rfl rfl rfl))
              · exact Plan.putStep (i := 16) (q := .sc (.int .i64 (IntKind.wrap .i64 (ix b_0 6)))) rfl rfl rfl (gs_plain rfl (g_conv (m := (IntKind.wrap .i64 (ix b_0 6))) rfl rfl rfl Try.underlying5 Try.underlying3 (gt (p := .sc (.int .u8 (ix b_0 6))) (q := .any) (hd 15 (by decide))) rfl))
              · exact Plan.putStep (i := 17) (q := .sc (.int .i64 (ior .i64 (ior .i64 (IntKind.wrap .i64 ((IntKind.wrap .i64 (ix b_0 4)) * 2 ^ 16)) (IntKind.wrap .i64 ((IntKind.wrap .i64 (ix b_0 5)) * 2 ^ 8))) (IntKind.wrap .i64 (ix b_0 6))))) rfl rfl rfl (gs_plain rfl (g_bin (u1 := .int .i64 (ior .i64 (IntKind.wrap .i64 ((IntKind.wrap .i64 (ix b_0 4)) * 2 ^ 16)) (IntKind.wrap .i64 ((IntKind.wrap .i64 (ix b_0 5)) * 2 ^ 8)))) (u2 := .int .i64 (IntKind.wrap .i64 (ix b_0 6))) (v := .int .i64 (ior .i64 (ior .i64 (IntKind.wrap .i64 ((IntKind.wrap .i64 (ix b_0 4)) * 2 ^ 16)) (IntKind.wrap .i64 ((IntKind.wrap .i64 (ix b_0 5)) * 2 ^ 8))) (IntKind.wrap .i64 (ix b_0 6)))) rfl rfl rfl (gt (p := .sc (.int .i64 (ior .i64 (IntKind.wrap .i64 ((IntKind.wrap .i64 (ix b_0 4)) * 2 ^ 16)) (IntKind.wrap .i64 ((IntKind.wrap .i64 (ix b_0 5)) * 2 ^ 8))))) (q := .any) (hd 12 (by decide))) (gt (p := .sc (.int .i64 (IntKind.wrap .i64 (ix b_0 6)))) (q := .any) (hd 16 (by decide))) (fun _ => rfl)))
              · exact Plan.putStep (i := 18) (q := .loc 1000 0) rfl rfl rfl (gs_plain rfl (g_nilCheck (s := 1000) (off := 0) rfl rfl rfl (gt (p := .loc 1000 0) (q := .any) (hd 0 (by decide)))))
              · exact Plan.putStep (i := 19) (q := .loc 1000 7) rfl rfl rfl (gs_plain rfl (g_fieldAddr (b := 1000) (k := 0) (m := 7) rfl rfl rfl fld27_7 (gt (p := .loc 1000 0) (q := .any) (hd 18 (by decide))) rfl))
              · exact pl_store (i := 20) (s := 1000) (off := 7) (ps0 := [.sc (.bool x1000_0.fFour), .sc (.int .i64 x1000_0.fAS4), .sc (.bool x1000_0.fGR), .sc (.bool x1000_0.fRestarting), .sc (.int .i64 x1000_0.fTime), .sc (.bool x1000_0.fFamily), .sc (.bool x1000_0.fForward), .sc (.bool x1000_0.fLL), .sc (.int .i64 x1000_0.fLLTime)]) (ps := [.sc (.bool x1000_0.fFour), .sc (.int .i64 x1000_0.fAS4), .sc (.bool x1000_0.fGR), .sc (.bool x1000_0.fRestarting), .sc (.int .i64 x1000_0.fTime), .sc (.bool x1000_0.fFamily), .sc (.bool x1000_0.fForward), .sc (.bool x1000_0.fLL), .sc (.int .i64 x1000_0.fLLTime)]) (qs := [.sc (.bool true)]) (p := .sc (.bool true)) 0 hc hd rfl rfl rfl ty4 (gt (p := .loc 1000 7) (q := .any) (hd 19 (by decide))) rfl (by exact planL0_old (ps := [.sc (.bool x1000_0.fFour), .sc (.int .i64 x1000_0.fAS4), .sc (.bool x1000_0.fGR), .sc (.bool x1000_0.fRestarting), .sc (.int .i64 x1000_0.fTime), .sc (.bool x1000_0.fFamily), .sc (.bool x1000_0.fForward), .sc (.bool x1000_0.fLL), .sc (.int .i64 x1000_0.fLLTime)]) rfl rfl) rfl rfl rfl rfl rfl rfl rfl hi rfl rfl rfl rfl
              · exact Plan.putStep (i := 21) (q := .loc 1000 0) rfl rfl rfl (gs_plain rfl (g_nilCheck (s := 1000) (off := 0) rfl rfl rfl (gt (p := .loc 1000 0) (q := .any) (hd 1 (by decide)))))
              · exact Plan.putStep (i := 22) (q := .loc 1000 8) rfl rfl rfl (gs_plain rfl (g_fieldAddr (b := 1000) (k := 0) (m := 8) rfl rfl rfl fld27_8 (gt (p := .loc 1000 0) (q := .any) (hd 21 (by decide))) rfl))
              · exact pl_store (i := 23) (s := 1000) (off := 8) (ps0 := [.sc (.bool x1000_0.fFour), .sc (.int .i64 x1000_0.fAS4), .sc (.bool x1000_0.fGR), .sc (.bool x1000_0.fRestarting), .sc (.int .i64 x1000_0.fTime), .sc (.bool x1000_0.fFamily), .sc (.bool x1000_0.fForward), .sc (.bool x1000_0.fLL), .sc (.int .i64 x1000_0.fLLTime)]) (ps := [.sc (.bool x1000_0.fFour), .sc (.int .i64 x1000_0.fAS4), .sc (.bool x1000_0.fGR), .sc (.bool x1000_0.fRestarting), .sc (.int .i64 x1000_0.fTime), .sc (.bool x1000_0.fFamily), .sc (.bool x1000_0.fForward), .sc (.bool true), .sc (.int .i64 x1000_0.fLLTime)]) (qs := [.sc (.int .i64 (ior .i64 (ior .i64 (IntKind.wrap .i64 ((IntKind.wrap .i64 (ix b_0 4)) * 2 ^ 16)) (IntKind.wrap .i64 ((IntKind.wrap .i64 (ix b_0 5)) * 2 ^ 8))) (IntKind.wrap .i64 (ix b_0 6))))]) (p := .sc (.int .i64 (ior .i64 (ior .i64 (IntKind.wrap .i64 ((IntKind.wrap .i64 (ix b_0 4)) * 2 ^ 16)) (IntKind.wrap .i64 ((IntKind.wrap .i64 (ix b_0 5)) * 2 ^ 8))) (IntKind.wrap .i64 (ix b_0 6))))) 1 hc hd rfl rfl rfl ty3 (gt (p := .loc 1000 8) (q := .any) (hd 22 (by decide))) (gt (p := .sc (.int .i64 (ior .i64 (ior .i64 (IntKind.wrap .i64 ((IntKind.wrap .i64 (ix b_0 4)) * 2 ^ 16)) (IntKind.wrap .i64 ((IntKind.wrap .i64 (ix b_0 5)) * 2 ^ 8))) (IntKind.wrap .i64 (ix b_0 6))))) (q := .any) (hd 17 (by decide))) (by exact planL0_old (ps := [.sc (.bool x1000_0.fFour), .sc (.int .i64 x1000_0.fAS4), .sc (.bool x1000_0.fGR), .sc (.bool x1000_0.fRestarting), .sc (.int .i64 x1000_0.fTime), .sc (.bool x1000_0.fFamily), .sc (.bool x1000_0.fForward), .sc (.bool x1000_0.fLL), .sc (.int .i64 x1000_0.fLLTime)]) rfl rfl) rfl rfl rfl rfl rfl rfl rfl hi rfl rfl rfl rfl
            obtain rfl : bD = fun _ => true := funext hb
            exact ⟨(⟨x1000_0.fFour, x1000_0.fAS4, x1000_0.fGR, x1000_0.fRestarting, x1000_0.fTime, x1000_0.fFamily, x1000_0.fForward, true, (ior .i64 (ior .i64 (IntKind.wrap .i64 ((IntKind.wrap .i64 (ix b_0 4)) * 2 ^ 16)) (IntKind.wrap .i64 ((IntKind.wrap .i64 (ix b_0 5)) * 2 ^ 8))) (IntKind.wrap .i64 (ix b_0 6)))⟩ : api_Caps), (bT k12 rfl), (sub_of rfl ⟨⟨rfl, (.one (.rfl _))⟩, ⟨⟨rfl, (.one (.rfl _))⟩, ⟨⟨rfl, (.one (.rfl _))⟩, trivial⟩⟩⟩ ⟨⟨[.sc (.bool x1000_0.fFour), .sc (.int .i64 x1000_0.fAS4), .sc (.bool x1000_0.fGR), .sc (.bool x1000_0.fRestarting), .sc (.int .i64 x1000_0.fTime), .sc (.bool x1000_0.fFamily), .sc (.bool x1000_0.fForward), .sc (.bool true), .sc (.int .i64 (ior .i64 (ior .i64 (IntKind.wrap .i64 ((IntKind.wrap .i64 (ix b_0 4)) * 2 ^ 16)) (IntKind.wrap .i64 ((IntKind.wrap .i64 (ix b_0 5)) * 2 ^ 8))) (IntKind.wrap .i64 (ix b_0 6))))], rfl, (.cons (wkE (f := (fun z => .sc (.bool z))) rfl) (.cons (wkE (f := (fun z => .sc (.int .i64 z))) rfl) (.cons (wkE (f := (fun z => .sc (.bool z))) rfl) (.cons (wkE (f := (fun z => .sc (.bool z))) rfl) (.cons (wkE (f := (fun z => .sc (.int .i64 z))) rfl) (.cons (wkE (f := (fun z => .sc (.bool z))) rfl) (.cons (wkE (f := (fun z => .sc (.bool z))) rfl) (.cons (wkE (f := (fun z => .sc (.bool z))) rfl) (.cons (wkE (f := (fun z => .sc (.int .i64 z))) rfl) .nil)))))))))⟩, trivial⟩ trivial)⟩
          · skip
            refine aw_skip ?_
            exact ⟨x1000_0, (bF k12 rfl), (sub_of rfl ⟨⟨rfl, (.one (.rfl _))⟩, ⟨⟨rfl, (.one (.rfl _))⟩, ⟨⟨rfl, (.one (.rfl _))⟩, trivial⟩⟩⟩ ⟨⟨[.sc (.bool x1000_0.fFour), .sc (.int .i64 x1000_0.fAS4), .sc (.bool x1000_0.fGR), .sc (.bool x1000_0.fRestarting), .sc (.int .i64 x1000_0.fTime), .sc (.bool x1000_0.fFamily), .sc (.bool x1000_0.fForward), .sc (.bool x1000_0.fLL), .sc (.int .i64 x1000_0.fLLTime)], rfl, (.cons (.rfl _) (.cons (.rfl _) (.cons (.rfl _) (.cons (.rfl _) (.cons (.rfl _) (.cons (.rfl _) (.cons (.rfl _) (.cons (.rfl _) (.cons (.rfl _) .nil)))))))))⟩, trivial⟩ trivial)⟩
        · skip
          refine aw_len 1 rfl (fun hl13 => ?_)
          refine aw_region ?_
          refine al_op rfl (g_move (p := .sem (SL (eI .u8) b_0)) rfl rfl rfl rfl) ?_
          refine al_op rfl (step_slice (E := (eI .u8)) (l := b_0) (i := 7) (j := (b_0.length : Int)) rfl rfl rfl Try.underlying36 ty5 (isSl_sem rfl) (isB_some rfl) (isB_none rfl) (show 0 ≤ 7 ∧ 7 ≤ (b_0.length : Int) ∧ (b_0.length : Int) ≤ (b_0.length : Int) from (by first | omega | ((try simp only [z1, z2, z3, z4, z5, z6, z7, z8, z9, zA, zB, zC, zD, wrap64, wrapu8, wrapu16, wrapu32, wrapu64, tmod_ite, tdiv_ite, sub_len, region_Put_len, ref01_Four_len] at *); omega) | ((try simp only [z1, z2, z3, z4, z5, z6, z7, z8, z9, zA, tmod_ite, tdiv_ite, sub_len, region_Put_len, ref01_Four_len] at *); (try simp (disch := omega) only [wrap64_id]); (try simp only [z1, z2, z3, z4, z5, z6, z7, z8, z9, zA, zB, zC, zD, wrap64, wrapu8, wrapu16, wrapu32, wrapu64, tmod_ite, tdiv_ite, sub_len] at *); omega)))) ?_
          refine al_op rfl (g_assign (p := .sem (SL (eI .u8) (sub b_0 7 (b_0.length : Int)))) rfl rfl rfl rfl) ?_
          refine al_nil ?_
          exact ⟨(n0, y_6, (sub b_0 7 (b_0.length : Int))), (sub_of rfl ⟨⟨rfl, (.one (.rfl _))⟩, ⟨⟨rfl, (.one (.rfl _))⟩, ⟨⟨rfl, (.one (.rfl _))⟩, trivial⟩⟩⟩ ⟨⟨[.sc (.bool y_6.fFour), .sc (.int .i64 y_6.fAS4), .sc (.bool y_6.fGR), .sc (.bool y_6.fRestarting), .sc (.int .i64 y_6.fTime), .sc (.bool y_6.fFamily), .sc (.bool y_6.fForward), .sc (.bool y_6.fLL), .sc (.int .i64 y_6.fLLTime)], rfl, (.cons (.rfl _) (.cons (.rfl _) (.cons (.rfl _) (.cons (.rfl _) (.cons (.rfl _) (.cons (.rfl _) (.cons (.rfl _) (.cons (.rfl _) (.cons (.rfl _) .nil)))))))))⟩, trivial⟩ trivial), ⟨Eq.trans (Eq.symm (bT k5 (mB e6 rfl))) hJ0, (by first | omega | ((try simp only [z1, z2, z3, z4, z5, z6, z7, z8, z9, zA, zB, zC, zD, wrap64, wrapu8, wrapu16, wrapu32, wrapu64, tmod_ite, tdiv_ite, sub_len, region_Put_len, ref01_Four_len] at *); omega) | ((try simp only [z1, z2, z3, z4, z5, z6, z7, z8, z9, zA, tmod_ite, tdiv_ite, sub_len, region_Put_len, ref01_Four_len] at *); (try simp (disch := omega) only [wrap64_id]); (try simp only [z1, z2, z3, z4, z5, z6, z7, z8, z9, zA, zB, zC, zD, wrap64, wrapu8, wrapu16, wrapu32, wrapu64, tmod_ite, tdiv_ite, sub_len] at *); omega)), (by first | omega | ((try simp only [z1, z2, z3, z4, z5, z6, z7, z8, z9, zA, zB, zC, zD, wrap64, wrapu8, wrapu16, wrapu32, wrapu64, tmod_ite, tdiv_ite, sub_len, region_Put_len, ref01_Four_len] at *); omega) | ((try simp only [z1, z2, z3, z4, z5, z6, z7, z8, z9, zA, tmod_ite, tdiv_ite, sub_len, region_Put_len, ref01_Four_len] at *); (try simp (disch := omega) only [wrap64_id]); (try simp only [z1, z2, z3, z4, z5, z6, z7, z8, z9, zA, zB, zC, zD, wrap64, wrapu8, wrapu16, wrapu32, wrapu64, tmod_ite, tdiv_ite, sub_len] at *); omega))⟩, Nat.lt_succ_self _⟩
      · skip
        refine aw_exit ?_
        exact ⟨(x1000_0, b_0), hJ0.symm.trans (bF k5 rfl), (sub_of rfl ⟨⟨rfl, (.one (.rfl _))⟩, ⟨⟨rfl, (.one (.rfl _))⟩, ⟨⟨rfl, (.one (.rfl _))⟩, trivial⟩⟩⟩ ⟨⟨[.sc (.bool x1000_0.fFour), .sc (.int .i64 x1000_0.fAS4), .sc (.bool x1000_0.fGR), .sc (.bool x1000_0.fRestarting), .sc (.int .i64 x1000_0.fTime), .sc (.bool x1000_0.fFamily), .sc (.bool x1000_0.fForward), .sc (.bool x1000_0.fLL), .sc (.int .i64 x1000_0.fLLTime)], rfl, (.cons (.rfl _) (.cons (.rfl _) (.cons (.rfl _) (.cons (.rfl _) (.cons (.rfl _) (.cons (.rfl _) (.cons (.rfl _) (.cons (.rfl _) (.cons (.rfl _) .nil)))))))))⟩, trivial⟩ trivial)⟩
    · skip
      refine aw_len 1 rfl (fun hl14 => ?_)
      refine aw_seq ?_
      refine aw_region ?_
      refine al_op rfl (g_assign (p := .sc (.bool true)) rfl rfl rfl rfl) ?_
      refine al_nil ?_
      refine aw_ret ?_
      exact endG_mk (F := (fun (z : Bool × api_Caps) => ⟨[(1000, [.sc (.bool z.2.fFour), .sc (.int .i64 z.2.fAS4), .sc (.bool z.2.fGR), .sc (.bool z.2.fRestarting), .sc (.int .i64 z.2.fTime), .sc (.bool z.2.fFamily), .sc (.bool z.2.fForward), .sc (.bool z.2.fLL), .sc (.int .i64 z.2.fLLTime)])], [], .sc (.bool z.1)⟩)) (z := (caps_lived c b)) (v := (true, x_0.1)) (bF k2 (mB e3 rfl)) rfl (.one (.tmp 4 (.sc (.bool true)) rfl) (.one (.rfl _)) rfl) ⟨⟨[.sc (.bool x_0.1.fFour), .sc (.int .i64 x_0.1.fAS4), .sc (.bool x_0.1.fGR), .sc (.bool x_0.1.fRestarting), .sc (.int .i64 x_0.1.fTime), .sc (.bool x_0.1.fFamily), .sc (.bool x_0.1.fForward), .sc (.bool x_0.1.fLL), .sc (.int .i64 x_0.1.fLLTime)], rfl, (.cons (.rfl _) (.cons (.rfl _) (.cons (.rfl _) (.cons (.rfl _) (.cons (.rfl _) (.cons (.rfl _) (.cons (.rfl _) (.cons (.rfl _) (.cons (.rfl _) .nil)))))))))⟩, trivial⟩ trivial

/-- interregnum/caps.one -/
def caps_one (c : api_Caps) (code : Int) (b : List Int) : Bool × api_Caps :=
  (bif decide ((code : Int) = 65) then
    (bif !(decide (((b.length : Int) : Int) = 4)) then
      (false, c)
    else
      (decide ((0 : Int) < (IntKind.wrap .i64 (region_Get b))), (⟨true, (IntKind.wrap .i64 (region_Get b)), c.fGR, c.fRestarting, c.fTime, c.fFamily, c.fForward, c.fLL, c.fLLTime⟩ : api_Caps)))
  else
    (bif decide ((code : Int) = 64) then
      ((caps_restart c b).1, ((caps_restart c b).2))
    else
      (bif decide ((code : Int) = 71) then
        ((caps_lived c b).1, ((caps_lived c b).2))
      else
        (true, c))))
set_option maxRecDepth 100000 in
set_option maxHeartbeats 4000000 in
theorem caps_one_pf (c : api_Caps) (code : Int) (b : List Int) : PG Try.prog 42 [(1000, (api_Caps.cells c))] [] [.loc 1000 0, .sc (.int .u8 code), .sem (SL (eI .u8) b)] (fun _ : Unit => True) (fun _ => (fun (z : Bool × api_Caps) => ⟨[(1000, [.sc (.bool z.2.fFour), .sc (.int .i64 z.2.fAS4), .sc (.bool z.2.fGR), .sc (.bool z.2.fRestarting), .sc (.int .i64 z.2.fTime), .sc (.bool z.2.fFamily), .sc (.bool z.2.fForward), .sc (.bool z.2.fLL), .sc (.int .i64 z.2.fLLTime)])], [], .sc (.bool z.1)⟩) (caps_one c code b)) := by
  refine pg_of (N := 37) (l := [.tmp 6]) Try.func42 rfl rfl rfl (Nat.le_of_ble_eq_true rfl) fun w0 i0 F βs => ?_
  refine aw_seq ?_
  refine aw_region ?_
  refine al_op rfl (g_assign (p := .sc (.bool false)) rfl rfl rfl rfl) ?_
  refine al_nil ?_
  refine aw_seq ?_
  refine aw_seq ?_
  refine aw_region ?_
  refine al_op rfl (g_move (p := .sc (.int .u8 code)) rfl rfl rfl rfl) ?_
  refine al_nil ?_
  refine aw_block ?_
  refine aw_seq ?_
  refine aw_region ?_
  refine al_op rfl (g_bin (u1 := .int .u8 code) (u2 := .int .u8 65) (v := .bool (decide ((code : Int) = 65))) rfl rfl rfl rfl rfl (fun _ => rfl)) ?_
  refine al_op rfl (g_assign (p := .sc (.bool (decide ((code : Int) = 65)))) rfl rfl rfl rfl) ?_
  refine al_nil ?_
  refine aw_cond (b := decide ((code : Int) = 65)) rfl (fun k1 => ?_) (fun k1 => ?_)
  · skip
    refine aw_seq ?_
    refine aw_seq ?_
    refine aw_region ?_
    refine al_op rfl (g_move (p := .sem (SL (eI .u8) b)) rfl rfl rfl rfl) ?_
    refine al_op rfl (g_len rfl rfl rfl Try.underlying36 (isSl_sem rfl)) ?_
    refine al_op rfl (g_bin (u1 := .int .i64 (b.length : Int)) (u2 := .int .i64 4) (v := .bool (!(decide (((b.length : Int) : Int) = 4)))) rfl rfl rfl rfl rfl (fun _ => rfl)) ?_
    refine al_nil ?_
    refine aw_cond (b := !(decide (((b.length : Int) : Int) = 4))) rfl (fun k2 => ?_) (fun k2 => ?_)
    · skip
      refine aw_seq ?_
      refine aw_region ?_
      refine al_op rfl (g_assign (p := .sc (.bool false)) rfl rfl rfl rfl) ?_
      refine al_nil ?_
      refine aw_ret ?_
      exact endG_mk (F := (fun (z : Bool × api_Caps) => ⟨[(1000, [.sc (.bool z.2.fFour), .sc (.int .i64 z.2.fAS4), .sc (.bool z.2.fGR), .sc (.bool z.2.fRestarting), .sc (.int .i64 z.2.fTime), .sc (.bool z.2.fFamily), .sc (.bool z.2.fForward), .sc (.bool z.2.fLL), .sc (.int .i64 z.2.fLLTime)])], [], .sc (.bool z.1)⟩)) (z := (caps_one c code b)) (v := (false, c)) (bT k1 (bT k2 rfl)) rfl (.one (.tmp 6 (.sc (.bool false)) rfl) (.one (.rfl _)) rfl) ⟨⟨(api_Caps.cells c), rfl, (.cons (.rfl _) (.cons (.rfl _) (.cons (.rfl _) (.cons (.rfl _) (.cons (.rfl _) (.cons (.rfl _) (.cons (.rfl _) (.cons (.rfl _) (.cons (.rfl _) .nil)))))))))⟩, trivial⟩ trivial
    · skip
      refine aw_skip ?_
      refine aw_seq ?_
      refine aw_region ?_
      refine al_op rfl (g_move (p := .loc 1000 0) rfl rfl rfl rfl) ?_
      refine al_op rfl (g_move (p := .loc 1000 0) rfl rfl rfl rfl) ?_
      refine al_op rfl (g_move (p := .sem (SL (eI .u8) b)) rfl rfl rfl rfl) ?_
      refine al_op rfl (g_call (fn := Try.f46) (xs := [.tmp 15]) (args := [.sem (SL (eI .u8) b)]) (r := .sc (.int .u32 (region_Get b))) rfl rfl rfl Try.func46 rfl rfl rfl rfl rfl (region_Get_pf b)) ?_
      refine al_op rfl (g_conv (m := (IntKind.wrap .i64 (region_Get b))) rfl rfl rfl Try.underlying22 Try.underlying3 rfl rfl) ?_
      refine al_op rfl (g_nilCheck (s := 1000) (off := 0) rfl rfl rfl rfl) ?_
      refine al_op rfl (g_fieldAddr (b := 1000) (k := 0) (m := 0) rfl rfl rfl fld27_0 rfl rfl) ?_
      refine al_op rfl (g_store (s := 1000) (off := 0) (ps := (api_Caps.cells c)) (p := .sc (.bool true)) (qs := [.sc (.bool true), .sc (.int .i64 c.fAS4), .sc (.bool c.fGR), .sc (.bool c.fRestarting), .sc (.int .i64 c.fTime), .sc (.bool c.fFamily), .sc (.bool c.fForward), .sc (.bool c.fLL), .sc (.int .i64 c.fLLTime)]) rfl rfl ty4 rfl rfl rfl rfl rfl rfl rfl) ?_
      refine al_op rfl (g_nilCheck (s := 1000) (off := 0) rfl rfl rfl rfl) ?_
      refine al_op rfl (g_fieldAddr (b := 1000) (k := 0) (m := 1) rfl rfl rfl fld27_1 rfl rfl) ?_
      refine al_op rfl (g_store (s := 1000) (off := 1) (ps := [.sc (.bool true), .sc (.int .i64 c.fAS4), .sc (.bool c.fGR), .sc (.bool c.fRestarting), .sc (.int .i64 c.fTime), .sc (.bool c.fFamily), .sc (.bool c.fForward), .sc (.bool c.fLL), .sc (.int .i64 c.fLLTime)]) (p := .sc (.int .i64 (IntKind.wrap .i64 (region_Get b)))) (qs := [.sc (.bool true), .sc (.int .i64 (IntKind.wrap .i64 (region_Get b))), .sc (.bool c.fGR), .sc (.bool c.fRestarting), .sc (.int .i64 c.fTime), .sc (.bool c.fFamily), .sc (.bool c.fForward), .sc (.bool c.fLL), .sc (.int .i64 c.fLLTime)]) rfl rfl ty3 rfl rfl rfl rfl rfl rfl rfl) ?_
      refine al_nil ?_
      refine aw_seq ?_
      refine aw_region ?_
      refine al_op rfl (g_move (p := .loc 1000 0) rfl rfl rfl rfl) ?_
      refine al_op rfl (g_nilCheck (s := 1000) (off := 0) rfl rfl rfl rfl) ?_
      refine al_op rfl (g_fieldAddr (b := 1000) (k := 0) (m := 1) rfl rfl rfl fld27_1 rfl rfl) ?_
      refine al_op rfl (g_load (s := 1000) (off := 1) (ps := [.sc (.bool true), .sc (.int .i64 (IntKind.wrap .i64 (region_Get b))), .sc (.bool c.fGR), .sc (.bool c.fRestarting), .sc (.int .i64 c.fTime), .sc (.bool c.fFamily), .sc (.bool c.fForward), .sc (.bool c.fLL), .sc (.int .i64 c.fLLTime)]) (p := .sc (.int .i64 (IntKind.wrap .i64 (region_Get b)))) rfl rfl rfl ty3 rfl rfl rfl rfl rfl) ?_
      refine al_op rfl (g_bin (u1 := .int .i64 (IntKind.wrap .i64 (region_Get b))) (u2 := .int .i64 0) (v := .bool (decide ((0 : Int) < (IntKind.wrap .i64 (region_Get b))))) rfl rfl rfl rfl rfl (fun _ => rfl)) ?_
      refine al_op rfl (g_assign (p := .sc (.bool (decide ((0 : Int) < (IntKind.wrap .i64 (region_Get b)))))) rfl rfl rfl rfl) ?_
      refine al_nil ?_
      refine aw_ret ?_
      exact endG_mk (F := (fun (z : Bool × api_Caps) => ⟨[(1000, [.sc (.bool z.2.fFour), .sc (.int .i64 z.2.fAS4), .sc (.bool z.2.fGR), .sc (.bool z.2.fRestarting), .sc (.int .i64 z.2.fTime), .sc (.bool z.2.fFamily), .sc (.bool z.2.fForward), .sc (.bool z.2.fLL), .sc (.int .i64 z.2.fLLTime)])], [], .sc (.bool z.1)⟩)) (z := (caps_one c code b)) (v := (decide ((0 : Int) < (IntKind.wrap .i64 (region_Get b))), (⟨true, (IntKind.wrap .i64 (region_Get b)), c.fGR, c.fRestarting, c.fTime, c.fFamily, c.fForward, c.fLL, c.fLLTime⟩ : api_Caps))) (bT k1 (bF k2 rfl)) rfl (.one (.tmp 6 (.sc (.bool (decide ((0 : Int) < (IntKind.wrap .i64 (region_Get b)))))) rfl) (.one (.rfl _)) rfl) ⟨⟨[.sc (.bool true), .sc (.int .i64 (IntKind.wrap .i64 (region_Get b))), .sc (.bool c.fGR), .sc (.bool c.fRestarting), .sc (.int .i64 c.fTime), .sc (.bool c.fFamily), .sc (.bool c.fForward), .sc (.bool c.fLL), .sc (.int .i64 c.fLLTime)], rfl, (.cons (.rfl _) (.cons (.rfl _) (.cons (.rfl _) (.cons (.rfl _) (.cons (.rfl _) (.cons (.rfl _) (.cons (.rfl _) (.cons (.rfl _) (.cons (.rfl _) .nil)))))))))⟩, trivial⟩ trivial
  · skip
    refine aw_seq ?_
    refine aw_region ?_
    refine al_op rfl (g_bin (u1 := .int .u8 code) (u2 := .int .u8 64) (v := .bool (decide ((code : Int) = 64))) rfl rfl rfl rfl rfl (fun _ => rfl)) ?_
    refine al_op rfl (g_assign (p := .sc (.bool (decide ((code : Int) = 64)))) rfl rfl rfl rfl) ?_
    refine al_nil ?_
    refine aw_cond (b := decide ((code : Int) = 64)) rfl (fun k3 => ?_) (fun k3 => ?_)
    · skip
      refine aw_seq ?_
      refine aw_region ?_
      refine al_op rfl (g_move (p := .loc 1000 0) rfl rfl rfl rfl) ?_
      refine al_op rfl (g_move (p := .sem (SL (eI .u8) b)) rfl rfl rfl rfl) ?_
      refine al_opX rfl (g_callG (fn := Try.f47) (xs := [.tmp 29, .tmp 30]) (bxs := [(1000, 1000, (api_Caps.cells c), (api_Caps.cells c))]) (tps := []) (newS := []) (newT := []) (ρ := [(1000, 1000)]) (τ := []) rfl rfl rfl Try.func47 rfl rfl (caps_restart_pf c b) rfl rfl rfl rfl rfl rfl (by decide) (fc ⟨rfl, (.cons (.rfl _) (.cons (.rfl _) (.cons (.rfl _) (.cons (.rfl _) (.cons (.rfl _) (.cons (.rfl _) (.cons (.rfl _) (.cons (.rfl _) (.cons (.rfl _) .nil)))))))))⟩ fn') fn' ((.cons (.one (.rfl _)) (.cons (.one (.rfl _)) .nil))) rfl (fun _ => rfl) (fun _ => rfl) rfl) (fun _ _ => ?_)
      refine al_op rfl (g_assign (p := .sc (.bool ((caps_restart c b).1))) rfl rfl rfl rfl) ?_
      refine al_nil ?_
      refine aw_ret ?_
      exact endG_mk (F := (fun (z : Bool × api_Caps) => ⟨[(1000, [.sc (.bool z.2.fFour), .sc (.int .i64 z.2.fAS4), .sc (.bool z.2.fGR), .sc (.bool z.2.fRestarting), .sc (.int .i64 z.2.fTime), .sc (.bool z.2.fFamily), .sc (.bool z.2.fForward), .sc (.bool z.2.fLL), .sc (.int .i64 z.2.fLLTime)])], [], .sc (.bool z.1)⟩)) (z := (caps_one c code b)) (v := ((caps_restart c b).1, ((caps_restart c b).2))) (bF k1 (bT k3 rfl)) rfl (.one (.tmp 6 (.sc (.bool ((caps_restart c b).1))) rfl) (.one (.rfl _)) rfl) ⟨⟨[.sc (.bool (((caps_restart c b).2).fFour)), .sc (.int .i64 (((caps_restart c b).2).fAS4)), .sc (.bool (((caps_restart c b).2).fGR)), .sc (.bool (((caps_restart c b).2).fRestarting)), .sc (.int .i64 (((caps_restart c b).2).fTime)), .sc (.bool (((caps_restart c b).2).fFamily)), .sc (.bool (((caps_restart c b).2).fForward)), .sc (.bool (((caps_restart c b).2).fLL)), .sc (.int .i64 (((caps_restart c b).2).fLLTime))], rfl, (.cons (.rfl _) (.cons (.rfl _) (.cons (.rfl _) (.cons (.rfl _) (.cons (.rfl _) (.cons (.rfl _) (.cons (.rfl _) (.cons (.rfl _) (.cons (.rfl _) .nil)))))))))⟩, trivial⟩ trivial
    · skip
      refine aw_seq ?_
      refine aw_region ?_
      refine al_op rfl (g_bin (u1 := .int .u8 code) (u2 := .int .u8 71) (v := .bool (decide ((code : Int) = 71))) rfl rfl rfl rfl rfl (fun _ => rfl)) ?_
      refine al_op rfl (g_assign (p := .sc (.bool (decide ((code : Int) = 71)))) rfl rfl rfl rfl) ?_
      refine al_nil ?_
      refine aw_cond (b := decide ((code : Int) = 71)) rfl (fun k4 => ?_) (fun k4 => ?_)
      · skip
        refine aw_seq ?_
        refine aw_region ?_
        refine al_op rfl (g_move (p := .loc 1000 0) rfl rfl rfl rfl) ?_
        refine al_op rfl (g_move (p := .sem (SL (eI .u8) b)) rfl rfl rfl rfl) ?_
        refine al_opX rfl (g_callG (fn := Try.f48) (xs := [.tmp 34, .tmp 35]) (bxs := [(1000, 1000, (api_Caps.cells c), (api_Caps.cells c))]) (tps := []) (newS := []) (newT := []) (ρ := [(1000, 1000)]) (τ := []) rfl rfl rfl Try.func48 rfl rfl (caps_lived_pf c b) rfl rfl rfl rfl rfl rfl (by decide) (fc ⟨rfl, (.cons (.rfl _) (.cons (.rfl _) (.cons (.rfl _) (.cons (.rfl _) (.cons (.rfl _) (.cons (.rfl _) (.cons (.rfl _) (.cons (.rfl _) (.cons (.rfl _) .nil)))))))))⟩ fn') fn' ((.cons (.one (.rfl _)) (.cons (.one (.rfl _)) .nil))) rfl (fun _ => rfl) (fun _ => rfl) rfl) (fun _ _ => ?_)
        refine al_op rfl (g_assign (p := .sc (.bool ((caps_lived c b).1))) rfl rfl rfl rfl) ?_
        refine al_nil ?_
        refine aw_ret ?_
        exact endG_mk (F := (fun (z : Bool × api_Caps) => ⟨[(1000, [.sc (.bool z.2.fFour), .sc (.int .i64 z.2.fAS4), .sc (.bool z.2.fGR), .sc (.bool z.2.fRestarting), .sc (.int .i64 z.2.fTime), .sc (.bool z.2.fFamily), .sc (.bool z.2.fForward), .sc (.bool z.2.fLL), .sc (.int .i64 z.2.fLLTime)])], [], .sc (.bool z.1)⟩)) (z := (caps_one c code b)) (v := ((caps_lived c b).1, ((caps_lived c b).2))) (bF k1 (bF k3 (bT k4 rfl))) rfl (.one (.tmp 6 (.sc (.bool ((caps_lived c b).1))) rfl) (.one (.rfl _)) rfl) ⟨⟨[.sc (.bool (((caps_lived c b).2).fFour)), .sc (.int .i64 (((caps_lived c b).2).fAS4)), .sc (.bool (((caps_lived c b).2).fGR)), .sc (.bool (((caps_lived c b).2).fRestarting)), .sc (.int .i64 (((caps_lived c b).2).fTime)), .sc (.bool (((caps_lived c b).2).fFamily)), .sc (.bool (((caps_lived c b).2).fForward)), .sc (.bool (((caps_lived c b).2).fLL)), .sc (.int .i64 (((caps_lived c b).2).fLLTime))], rfl, (.cons (.rfl _) (.cons (.rfl _) (.cons (.rfl _) (.cons (.rfl _) (.cons (.rfl _) (.cons (.rfl _) (.cons (.rfl _) (.cons (.rfl _) (.cons (.rfl _) .nil)))))))))⟩, trivial⟩ trivial
      · skip
        refine aw_skip ?_
        refine aw_seq ?_
        refine aw_region ?_
        refine al_op rfl (g_assign (p := .sc (.bool true)) rfl rfl rfl rfl) ?_
        refine al_nil ?_
        refine aw_ret ?_
        exact endG_mk (F := (fun (z : Bool × api_Caps) => ⟨[(1000, [.sc (.bool z.2.fFour), .sc (.int .i64 z.2.fAS4), .sc (.bool z.2.fGR), .sc (.bool z.2.fRestarting), .sc (.int .i64 z.2.fTime), .sc (.bool z.2.fFamily), .sc (.bool z.2.fForward), .sc (.bool z.2.fLL), .sc (.int .i64 z.2.fLLTime)])], [], .sc (.bool z.1)⟩)) (z := (caps_one c code b)) (v := (true, c)) (bF k1 (bF k3 (bF k4 rfl))) rfl (.one (.tmp 6 (.sc (.bool true)) rfl) (.one (.rfl _)) rfl) ⟨⟨(api_Caps.cells c), rfl, (.cons (.rfl _) (.cons (.rfl _) (.cons (.rfl _) (.cons (.rfl _) (.cons (.rfl _) (.cons (.rfl _) (.cons (.rfl _) (.cons (.rfl _) (.cons (.rfl _) .nil)))))))))⟩, trivial⟩ trivial

/-- interregnum/caps.Decode$1$1 -/
def caps_D11 (code : Int) (b : List Int) (c : api_Caps) : Bool × api_Caps :=
  ((caps_one c code b).1, ((caps_one c code b).2))
set_option maxRecDepth 100000 in
set_option maxHeartbeats 4000000 in
theorem caps_D11_pf (code : Int) (b : List Int) (c : api_Caps) : PG Try.prog 41 [(1002, (api_Caps.cells c))] [] [.sc (.int .u8 code), .sem (SL (eI .u8) b), .loc 1002 0] (fun _ : Unit => True) (fun _ => (fun (z : Bool × api_Caps) => ⟨[(1002, [.sc (.bool z.2.fFour), .sc (.int .i64 z.2.fAS4), .sc (.bool z.2.fGR), .sc (.bool z.2.fRestarting), .sc (.int .i64 z.2.fTime), .sc (.bool z.2.fFamily), .sc (.bool z.2.fForward), .sc (.bool z.2.fLL), .sc (.int .i64 z.2.fLLTime)])], [], .sc (.bool z.1)⟩) (caps_D11 code b c)) := by
  refine pg_of (N := 9) (l := [.tmp 5]) Try.func41 rfl rfl rfl (Nat.le_of_ble_eq_true rfl) fun w0 i0 F βs => ?_
  refine aw_seq ?_
  refine aw_region ?_
  refine al_op rfl (g_assign (p := .sc (.bool false)) rfl rfl rfl rfl) ?_
  refine al_nil ?_
  refine aw_seq ?_
  refine aw_region ?_
  refine al_op rfl (g_move (p := .sc (.int .u8 code)) rfl rfl rfl rfl) ?_
  refine al_op rfl (g_move (p := .sem (SL (eI .u8) b)) rfl rfl rfl rfl) ?_
  refine al_opX rfl (g_callG (fn := Try.f42) (xs := [.tmp 2, .tmp 6, .tmp 7]) (bxs := [(1000, 1002, (api_Caps.cells c), (api_Caps.cells c))]) (tps := []) (newS := []) (newT := []) (ρ := [(1000, 1002)]) (τ := []) rfl rfl rfl Try.func42 rfl rfl (caps_one_pf c code b) rfl rfl rfl rfl rfl rfl (by decide) (fc ⟨rfl, (.cons (.rfl _) (.cons (.rfl _) (.cons (.rfl _) (.cons (.rfl _) (.cons (.rfl _) (.cons (.rfl _) (.cons (.rfl _) (.cons (.rfl _) (.cons (.rfl _) .nil)))))))))⟩ fn') fn' ((.cons (.one (.rfl _)) (.cons (.one (.rfl _)) (.cons (.one (.rfl _)) .nil)))) rfl (fun _ => rfl) (fun _ => rfl) rfl) (fun _ _ => ?_)
  refine al_op rfl (g_assign (p := .sc (.bool ((caps_one c code b).1))) rfl rfl rfl rfl) ?_
  refine al_nil ?_
  refine aw_ret ?_
  exact endG_mk (F := (fun (z : Bool × api_Caps) => ⟨[(1002, [.sc (.bool z.2.fFour), .sc (.int .i64 z.2.fAS4), .sc (.bool z.2.fGR), .sc (.bool z.2.fRestarting), .sc (.int .i64 z.2.fTime), .sc (.bool z.2.fFamily), .sc (.bool z.2.fForward), .sc (.bool z.2.fLL), .sc (.int .i64 z.2.fLLTime)])], [], .sc (.bool z.1)⟩)) (z := (caps_D11 code b c)) (v := ((caps_one c code b).1, ((caps_one c code b).2))) rfl rfl (.one (.tmp 5 (.sc (.bool ((caps_one c code b).1))) rfl) (.one (.rfl _)) rfl) ⟨⟨[.sc (.bool (((caps_one c code b).2).fFour)), .sc (.int .i64 (((caps_one c code b).2).fAS4)), .sc (.bool (((caps_one c code b).2).fGR)), .sc (.bool (((caps_one c code b).2).fRestarting)), .sc (.int .i64 (((caps_one c code b).2).fTime)), .sc (.bool (((caps_one c code b).2).fFamily)), .sc (.bool (((caps_one c code b).2).fForward)), .sc (.bool (((caps_one c code b).2).fLL)), .sc (.int .i64 (((caps_one c code b).2).fLLTime))], rfl, (.cons (.rfl _) (.cons (.rfl _) (.cons (.rfl _) (.cons (.rfl _) (.cons (.rfl _) (.cons (.rfl _) (.cons (.rfl _) (.cons (.rfl _) (.cons (.rfl _) .nil)))))))))⟩, trivial⟩ trivial

def caps_parts11_l0 (b : List Int) (c : api_Caps) : Nat → api_Caps → List Int → (Bool × api_Caps) ⊕ (api_Caps × (List Int))
  | 0, _, _ => Sum.inr default
  | n0 + 1, x1100_0, b_0 =>
    (bif decide ((0 : Int) < (b_0.length : Int)) then
      (bif (decide (((b_0.length : Int) : Int) < 2)) || (decide (((IntKind.wrap .i64 ((b_0.length : Int) - 2)) : Int) < (IntKind.wrap .i64 (ix b_0 1)))) then
        Sum.inl (false, x1100_0)
      else
        (bif !((caps_D11 (ix b_0 0) (sub b_0 2 (IntKind.wrap .i64 (2 + (IntKind.wrap .i64 (ix b_0 1))))) x1100_0).1) then
          Sum.inl (false, ((caps_D11 (ix b_0 0) (sub b_0 2 (IntKind.wrap .i64 (2 + (IntKind.wrap .i64 (ix b_0 1))))) x1100_0).2))
        else
          caps_parts11_l0 b c n0 ((caps_D11 (ix b_0 0) (sub b_0 2 (IntKind.wrap .i64 (2 + (IntKind.wrap .i64 (ix b_0 1))))) x1100_0).2) (sub b_0 (IntKind.wrap .i64 (2 + (IntKind.wrap .i64 (ix b_0 1)))) (b_0.length : Int))))
    else
      Sum.inr (x1100_0, b_0))
/-- interregnum/caps.parts -/
def caps_parts11 (b : List Int) (c : api_Caps) : Bool × api_Caps :=
  (Sum.elim (fun z => z) (fun (x_0 : api_Caps × (List Int)) =>
    (true, x_0.1)) (caps_parts11_l0 b c (b.length + 1) c b))
set_option maxRecDepth 100000 in
set_option maxHeartbeats 4000000 in
theorem caps_parts11_pf (b : List Int) (c : api_Caps) (ok_b : gdL (okI .u8) b) : PG Try.prog 39 [(1100, (api_Caps.cells c))] [] [.sem (SL (eI .u8) b), .clo 41 [some 1100]] (fun _ : Unit => True) (fun _ => (fun (z : Bool × api_Caps) => ⟨[(1100, [.sc (.bool z.2.fFour), .sc (.int .i64 z.2.fAS4), .sc (.bool z.2.fGR), .sc (.bool z.2.fRestarting), .sc (.int .i64 z.2.fTime), .sc (.bool z.2.fFamily), .sc (.bool z.2.fForward), .sc (.bool z.2.fLL), .sc (.int .i64 z.2.fLLTime)])], [], .sc (.bool z.1)⟩) (caps_parts11 b c)) := by
  refine pg_of (N := 40) (l := [.tmp 4]) Try.func39 rfl rfl rfl (Nat.le_of_ble_eq_true rfl) fun w0 i0 F βs => ?_
  refine aw_len 0 rfl (fun hl1 => ?_)
  refine aw_seq ?_
  refine aw_region ?_
  refine al_op rfl (g_assign (p := .sc (.bool false)) rfl rfl rfl rfl) ?_
  refine al_nil ?_
  refine aw_joinV (ι := api_Caps × (List Int)) (p := fun x_0 => (caps_parts11_l0 b c (b.length + 1) c b) = .inr x_0) (S := fun x_0 => St.of 40 [(0, .sem (SL (eI .u8) x_0.2)), (1, .clo 41 [some 1100]), (4, .sc (.bool false))] [(1100, [.sc (.bool x_0.1.fFour), .sc (.int .i64 x_0.1.fAS4), .sc (.bool x_0.1.fGR), .sc (.bool x_0.1.fRestarting), .sc (.int .i64 x_0.1.fTime), .sc (.bool x_0.1.fFamily), .sc (.bool x_0.1.fForward), .sc (.bool x_0.1.fLL), .sc (.int .i64 x_0.1.fLLTime)])] []) ?_ (fun x_0 e2 => ?_)
  · skip
    refine aw_block ?_
    refine aw_loopS (ι := Nat × api_Caps × (List Int)) (S := fun i => St.of 40 [(0, .sem (SL (eI .u8) i.2.2)), (1, .clo 41 [some 1100]), (4, .sc (.bool false))] [(1100, [.sc (.bool i.2.1.fFour), .sc (.int .i64 i.2.1.fAS4), .sc (.bool i.2.1.fGR), .sc (.bool i.2.1.fRestarting), .sc (.int .i64 i.2.1.fTime), .sc (.bool i.2.1.fFamily), .sc (.bool i.2.1.fForward), .sc (.bool i.2.1.fLL), .sc (.int .i64 i.2.1.fLLTime)])] []) (J := fun i => caps_parts11_l0 b c i.1 i.2.1 i.2.2 = (caps_parts11_l0 b c (b.length + 1) c b) ∧ (i.2.2.length < i.1) ∧ (gdL (okI .u8) i.2.2)) (μ := fun i => i.1) (i₀ := ((b.length + 1), c, b)) (sub_of rfl ⟨⟨rfl, (.one (.rfl _))⟩, ⟨⟨rfl, (.one (.rfl _))⟩, ⟨⟨rfl, (.one (.rfl _))⟩, trivial⟩⟩⟩ ⟨⟨(api_Caps.cells c), rfl, (.cons (.rfl _) (.cons (.rfl _) (.cons (.rfl _) (.cons (.rfl _) (.cons (.rfl _) (.cons (.rfl _) (.cons (.rfl _) (.cons (.rfl _) (.cons (.rfl _) .nil)))))))))⟩, trivial⟩ trivial) ⟨rfl, (by first | omega | ((try simp only [z1, z2, z3, z4, z5, z6, z7, z8, z9, zA, zB, zC, zD, wrap64, wrapu8, wrapu16, wrapu32, wrapu64, tmod_ite, tdiv_ite, sub_len, region_Put_len, ref01_Four_len] at *); omega) | ((try simp only [z1, z2, z3, z4, z5, z6, z7, z8, z9, zA, tmod_ite, tdiv_ite, sub_len, region_Put_len, ref01_Four_len] at *); (try simp (disch := omega) only [wrap64_id]); (try simp only [z1, z2, z3, z4, z5, z6, z7, z8, z9, zA, zB, zC, zD, wrap64, wrapu8, wrapu16, wrapu32, wrapu64, tmod_ite, tdiv_ite, sub_len] at *); omega)), ok_b⟩ ?_
    rintro ⟨n0, x1100_0, b_0⟩ ⟨hJ0, hm0_0, ok_b_0⟩
    obtain ⟨n0, rfl⟩ : ∃ m, n0 = m + 1 := ⟨n0 - 1, by have : 0 < n0 := Nat.lt_of_le_of_lt (Nat.zero_le _) hm0_0; omega⟩
    replace hJ0 : caps_parts11_l0 b c (n0 + 1) x1100_0 b_0 = (caps_parts11_l0 b c (b.length + 1) c b) := hJ0
    replace hm0_0 : b_0.length < n0 + 1 := hm0_0
    replace ok_b_0 : gdL (okI .u8) b_0 := ok_b_0
    refine aw_len 0 rfl (fun hl3 => ?_)
    refine aw_seq ?_
    refine aw_seq ?_
    refine aw_region ?_
    refine al_op rfl (g_move (p := .sem (SL (eI .u8) b_0)) rfl rfl rfl rfl) ?_
    refine al_op rfl (g_len rfl rfl rfl Try.underlying36 (isSl_sem rfl)) ?_
    refine al_op rfl (g_bin (u1 := .int .i64 (b_0.length : Int)) (u2 := .int .i64 0) (v := .bool (decide ((0 : Int) < (b_0.length : Int)))) rfl rfl rfl rfl rfl (fun _ => rfl)) ?_
    refine al_nil ?_
    refine aw_cond (b := decide ((0 : Int) < (b_0.length : Int))) rfl (fun k4 => ?_) (fun k4 => ?_)
    · skip
      refine aw_skip ?_
      refine aw_block ?_
      refine aw_seq ?_
      refine aw_seq ?_
      refine aw_region ?_
      refine al_op rfl (g_move (p := .sem (SL (eI .u8) b_0)) rfl rfl rfl rfl) ?_
      refine al_op rfl (g_len rfl rfl rfl Try.underlying36 (isSl_sem rfl)) ?_
      refine al_op rfl (g_bin (u1 := .int .i64 (b_0.length : Int)) (u2 := .int .i64 2) (v := .bool (decide (((b_0.length : Int) : Int) < 2))) rfl rfl rfl rfl rfl (fun _ => rfl)) ?_
      refine al_op rfl (g_move (p := .sc (.bool (decide (((b_0.length : Int) : Int) < 2)))) rfl rfl rfl rfl) ?_
      refine al_gW (C := !(decide (((b_0.length : Int) : Int) < 2))) (p := .sem (SL (eI .u8) b_0)) (gd_F (b := decide (((b_0.length : Int) : Int) < 2)) (c := !(decide (((b_0.length : Int) : Int) < 2))) rfl rfl rfl rfl rfl rfl) rfl rfl (fun g5 => g_move (p := .sem (SL (eI .u8) b_0)) rfl rfl rfl rfl) ?_
      have hx7 := ix_u8 ok_b_0 1
      refine al_gW (C := !(decide (((b_0.length : Int) : Int) < 2))) (p := .sem (PT [.sc (.int .u8 (ix b_0 1))])) (gd_F (b := decide (((b_0.length : Int) : Int) < 2)) (c := !(decide (((b_0.length : Int) : Int) < 2))) rfl rfl rfl rfl rfl rfl) rfl rfl (fun g6 => g_ix (E := (eI .u8)) (l := b_0) (n := 1) (ps := [.sc (.int .u8 (ix b_0 1))]) rfl rfl rfl Try.underlying36 ty5 (by exact (isSl_sem (by exact (gt (p := .sem (SL (eI .u8) b_0)) (q := .sc undef) g6)))) rfl (by first | omega | ((try simp only [z1, z2, z3, z4, z5, z6, z7, z8, z9, zA, zB, zC, zD, wrap64, wrapu8, wrapu16, wrapu32, wrapu64, tmod_ite, tdiv_ite, sub_len, region_Put_len, ref01_Four_len] at *); omega) | ((try simp only [z1, z2, z3, z4, z5, z6, z7, z8, z9, zA, tmod_ite, tdiv_ite, sub_len, region_Put_len, ref01_Four_len] at *); (try simp (disch := omega) only [wrap64_id]); (try simp only [z1, z2, z3, z4, z5, z6, z7, z8, z9, zA, zB, zC, zD, wrap64, wrapu8, wrapu16, wrapu32, wrapu64, tmod_ite, tdiv_ite, sub_len] at *); omega)) rfl) ?_
      refine al_gW (C := !(decide (((b_0.length : Int) : Int) < 2))) (p := .sc (.int .u8 (ix b_0 1))) (gd_F (b := decide (((b_0.length : Int) : Int) < 2)) (c := !(decide (((b_0.length : Int) : Int) < 2))) rfl rfl rfl rfl rfl rfl) rfl rfl (fun g8 => g_loadPT (ps := [.sc (.int .u8 (ix b_0 1))]) (p := .sc (.int .u8 (ix b_0 1))) rfl rfl rfl ty5 (gt (p := .sem (PT [.sc (.int .u8 (ix b_0 1))])) (q := .sc undef) g8) rfl rfl rfl rfl) ?_
      refine al_gW (C := !(decide (((b_0.length : Int) : Int) < 2))) (p := .sc (.int .i64 (IntKind.wrap .i64 (ix b_0 1)))) (gd_F (b := decide (((b_0.length : Int) : Int) < 2)) (c := !(decide (((b_0.length : Int) : Int) < 2))) rfl rfl rfl rfl rfl rfl) rfl rfl (fun g9 => g_conv (m := (IntKind.wrap .i64 (ix b_0 1))) rfl rfl rfl Try.underlying5 Try.underlying3 (gt (p := .sc (.int .u8 (ix b_0 1))) (q := .sc undef) g9) rfl) ?_
      refine al_gW (C := !(decide (((b_0.length : Int) : Int) < 2))) (p := .sem (SL (eI .u8) b_0)) (gd_F (b := decide (((b_0.length : Int) : Int) < 2)) (c := !(decide (((b_0.length : Int) : Int) < 2))) rfl rfl rfl rfl rfl rfl) rfl rfl (fun g10 => g_move (p := .sem (SL (eI .u8) b_0)) rfl rfl rfl rfl) ?_
      refine al_gW (C := !(decide (((b_0.length : Int) : Int) < 2))) (p := .sc (.int .i64 (b_0.length : Int))) (gd_F (b := decide (((b_0.length : Int) : Int) < 2)) (c := !(decide (((b_0.length : Int) : Int) < 2))) rfl rfl rfl rfl rfl rfl) rfl rfl (fun g11 => g_len rfl rfl rfl Try.underlying36 (by exact (isSl_sem (by exact (gt (p := .sem (SL (eI .u8) b_0)) (q := .sc undef) g11))))) ?_
      refine al_gW (C := !(decide (((b_0.length : Int) : Int) < 2))) (p := .sc (.int .i64 (IntKind.wrap .i64 ((b_0.length : Int) - 2)))) (gd_F (b := decide (((b_0.length : Int) : Int) < 2)) (c := !(decide (((b_0.length : Int) : Int) < 2))) rfl rfl rfl rfl rfl rfl) rfl rfl (fun g12 => g_bin (u1 := .int .i64 (b_0.length : Int)) (u2 := .int .i64 2) (v := .int .i64 (IntKind.wrap .i64 ((b_0.length : Int) - 2))) rfl rfl rfl (gt (p := .sc (.int .i64 (b_0.length : Int))) (q := .sc undef) g12) rfl (fun _ => rfl)) ?_
      refine al_gW (C := !(decide (((b_0.length : Int) : Int) < 2))) (p := .sc (.bool (decide (((IntKind.wrap .i64 ((b_0.length : Int) - 2)) : Int) < (IntKind.wrap .i64 (ix b_0 1)))))) (gd_F (b := decide (((b_0.length : Int) : Int) < 2)) (c := !(decide (((b_0.length : Int) : Int) < 2))) rfl rfl rfl rfl rfl rfl) rfl rfl (fun g13 => g_bin (u1 := .int .i64 (IntKind.wrap .i64 (ix b_0 1))) (u2 := .int .i64 (IntKind.wrap .i64 ((b_0.length : Int) - 2))) (v := .bool (decide (((IntKind.wrap .i64 ((b_0.length : Int) - 2)) : Int) < (IntKind.wrap .i64 (ix b_0 1))))) rfl rfl rfl (gt (p := .sc (.int .i64 (IntKind.wrap .i64 (ix b_0 1)))) (q := .sc undef) g13) (gt (p := .sc (.int .i64 (IntKind.wrap .i64 ((b_0.length : Int) - 2)))) (q := .sc undef) g13) (fun _ => rfl)) ?_
      refine al_op rfl (g_orU (b := decide (((b_0.length : Int) : Int) < 2)) (y := decide (((IntKind.wrap .i64 ((b_0.length : Int) - 2)) : Int) < (IntKind.wrap .i64 (ix b_0 1)))) rfl rfl rfl rfl rfl rfl) ?_
      refine al_nil ?_
      refine aw_cond (b := (decide (((b_0.length : Int) : Int) < 2)) || (decide (((IntKind.wrap .i64 ((b_0.length : Int) - 2)) : Int) < (IntKind.wrap .i64 (ix b_0 1))))) rfl (fun k14 => ?_) (fun k14 => ?_)
      · skip
        refine aw_seq ?_
        refine aw_region ?_
        refine al_op rfl (g_assign (p := .sc (.bool false)) rfl rfl rfl rfl) ?_
        refine al_nil ?_
        refine aw_ret ?_
        exact endG_mk (F := (fun (z : Bool × api_Caps) => ⟨[(1100, [.sc (.bool z.2.fFour), .sc (.int .i64 z.2.fAS4), .sc (.bool z.2.fGR), .sc (.bool z.2.fRestarting), .sc (.int .i64 z.2.fTime), .sc (.bool z.2.fFamily), .sc (.bool z.2.fForward), .sc (.bool z.2.fLL), .sc (.int .i64 z.2.fLLTime)])], [], .sc (.bool z.1)⟩)) (z := (caps_parts11 b c)) (v := (false, x1100_0)) (mL (hJ0.symm.trans (bT k4 (bT k14 rfl))) rfl) rfl (.one (.tmp 4 (.sc (.bool false)) rfl) (.one (.rfl _)) rfl) ⟨⟨[.sc (.bool x1100_0.fFour), .sc (.int .i64 x1100_0.fAS4), .sc (.bool x1100_0.fGR), .sc (.bool x1100_0.fRestarting), .sc (.int .i64 x1100_0.fTime), .sc (.bool x1100_0.fFamily), .sc (.bool x1100_0.fForward), .sc (.bool x1100_0.fLL), .sc (.int .i64 x1100_0.fLLTime)], rfl, (.cons (.rfl _) (.cons (.rfl _) (.cons (.rfl _) (.cons (.rfl _) (.cons (.rfl _) (.cons (.rfl _) (.cons (.rfl _) (.cons (.rfl _) (.cons (.rfl _) .nil)))))))))⟩, trivial⟩ trivial
      · skip
        refine aw_skip ?_
        refine aw_seq ?_
        refine aw_region ?_
        refine al_op rfl (g_move (p := .sem (SL (eI .u8) b_0)) rfl rfl rfl rfl) ?_
        have hx15 := ix_u8 ok_b_0 1
        refine al_op rfl (g_ix (E := (eI .u8)) (l := b_0) (n := 1) (ps := [.sc (.int .u8 (ix b_0 1))]) rfl rfl rfl Try.underlying36 ty5 (isSl_sem rfl) rfl (by first | omega | ((try simp only [z1, z2, z3, z4, z5, z6, z7, z8, z9, zA, zB, zC, zD, wrap64, wrapu8, wrapu16, wrapu32, wrapu64, tmod_ite, tdiv_ite, sub_len, region_Put_len, ref01_Four_len] at *); omega) | ((try simp only [z1, z2, z3, z4, z5, z6, z7, z8, z9, zA, tmod_ite, tdiv_ite, sub_len, region_Put_len, ref01_Four_len] at *); (try simp (disch := omega) only [wrap64_id]); (try simp only [z1, z2, z3, z4, z5, z6, z7, z8, z9, zA, zB, zC, zD, wrap64, wrapu8, wrapu16, wrapu32, wrapu64, tmod_ite, tdiv_ite, sub_len] at *); omega)) rfl) ?_
        refine al_op rfl (g_loadPT (ps := [.sc (.int .u8 (ix b_0 1))]) (p := .sc (.int .u8 (ix b_0 1))) rfl rfl rfl ty5 rfl rfl rfl rfl rfl) ?_
        refine al_op rfl (g_conv (m := (IntKind.wrap .i64 (ix b_0 1))) rfl rfl rfl Try.underlying5 Try.underlying3 rfl rfl) ?_
        refine al_op rfl (g_assign (p := .sc (.int .i64 (IntKind.wrap .i64 (ix b_0 1)))) rfl rfl rfl rfl) ?_
        refine al_nil ?_
        refine aw_seq ?_
        refine aw_seq ?_
        refine aw_famE (ds := [some 26, some 27, some 28, some 29, some 30, some 31, some 32, some 33, some 34, some 35]) (ks := [8]) (ps := [.clo 41 [some 1100], .sem (SL (eI .u8) b_0), .sem (PT [.sc (.int .u8 (ix b_0 0))]), .sc (.int .u8 (ix b_0 0)), .sem (SL (eI .u8) b_0), .sc (.int .i64 (IntKind.wrap .i64 (ix b_0 1))), .sc (.int .i64 (IntKind.wrap .i64 (2 + (IntKind.wrap .i64 (ix b_0 1))))), .sem (SL (eI .u8) (sub b_0 2 (IntKind.wrap .i64 (2 + (IntKind.wrap .i64 (ix b_0 1)))))), .any, .any]) rfl (by kernel_rfl) rfl rfl ?_
        have hx16 := ix_u8 ok_b_0 0
        refine famE_behind (k := 8) (qs := [.clo 41 [some 1100], .sem (SL (eI .u8) b_0), .sem (PT [.sc (.int .u8 (ix b_0 0))]), .sc (.int .u8 (ix b_0 0)), .sem (SL (eI .u8) b_0), .sc (.int .i64 (IntKind.wrap .i64 (ix b_0 1))), .sc (.int .i64 (IntKind.wrap .i64 (2 + (IntKind.wrap .i64 (ix b_0 1))))), .sem (SL (eI .u8) (sub b_0 2 (IntKind.wrap .i64 (2 + (IntKind.wrap .i64 (ix b_0 1)))))), .sc (.bool ((caps_D11 (ix b_0 0) (sub b_0 2 (IntKind.wrap .i64 (2 + (IntKind.wrap .i64 (ix b_0 1))))) x1100_0).1)), .sc (.bool (!((caps_D11 (ix b_0 0) (sub b_0 2 (IntKind.wrap .i64 (2 + (IntKind.wrap .i64 (ix b_0 1))))) x1100_0).1)))]) [0, 1, 2, 3, 4, 5, 6, 7] [true, true, true, true, true, true, true, true, false, false] (by kernel_rfl) (by kernel_rfl) rfl rfl rfl (fun bD hc hi hd => g_callCv (vs := [.sc (.int .u8 (ix b_0 0)), .sem (SL (eI .u8) (sub b_0 2 (IntKind.wrap .i64 (2 + (IntKind.wrap .i64 (ix b_0 1))))))]) (fn := Try.f41) (xs := [.tmp 29, .tmp 33]) (bxs := [(1002, 1100, [.sc (.bool x1100_0.fFour), .sc (.int .i64 x1100_0.fAS4), .sc (.bool x1100_0.fGR), .sc (.bool x1100_0.fRestarting), .sc (.int .i64 x1100_0.fTime), .sc (.bool x1100_0.fFamily), .sc (.bool x1100_0.fForward), .sc (.bool x1100_0.fLL), .sc (.int .i64 x1100_0.fLLTime)], [.sc (.bool x1100_0.fFour), .sc (.int .i64 x1100_0.fAS4), .sc (.bool x1100_0.fGR), .sc (.bool x1100_0.fRestarting), .sc (.int .i64 x1100_0.fTime), .sc (.bool x1100_0.fFamily), .sc (.bool x1100_0.fForward), .sc (.bool x1100_0.fLL), .sc (.int .i64 x1100_0.fLLTime)])]) (tps := []) (newS := []) (newT := []) (ρ := [(1002, 1100)]) (τ := []) (by exact (congrL2 (b0 := .sc (.int .u8 (ix b_0 0))) (b1 := .sem (SL (eI .u8) (sub b_0 2 (IntKind.wrap .i64 (2 + (IntKind.wrap .i64 (ix b_0 1))))))) (gt (p := .sc (.int .u8 (ix b_0 0))) (q := .any) (hd 3 (by decide))) (gt (p := .sem (SL (eI .u8) (sub b_0 2 (IntKind.wrap .i64 (2 + (IntKind.wrap .i64 (ix b_0 1))))))) (q := .any) (hd 7 (by decide))))) rfl rfl rfl (gt (p := .clo 41 [some 1100]) (q := .any) (hd 0 (by decide))) Try.func41 rfl rfl (caps_D11_pf (ix b_0 0) (sub b_0 2 (IntKind.wrap .i64 (2 + (IntKind.wrap .i64 (ix b_0 1))))) x1100_0) rfl rfl rfl rfl rfl rfl (by decide) (fc ⟨rfl, (.cons (.rfl _) (.cons (.rfl _) (.cons (.rfl _) (.cons (.rfl _) (.cons (.rfl _) (.cons (.rfl _) (.cons (.rfl _) (.cons (.rfl _) (.cons (.rfl _) .nil)))))))))⟩ fn') fn' ((.cons (.one (.rfl _)) (.cons (.one (.rfl _)) (.cons (.one (.rfl _)) .nil)))) rfl (fun _ => rfl) (fun _ => rfl) rfl) (by kernel_rfl) rfl rfl rfl rfl rfl ?_ ?_
        · refine fc ?_ (fc ?_ (fc ?_ (fc ?_ (fc ?_ (fc ?_ (fc ?_ (fc ?_ (fn'))))))))
          · exact ov_step (i := 0) (q := .clo 41 [some 1100]) rfl rfl rfl (fun bD hc hi hd => gs_plain rfl (g_move (p := .clo 41 [some 1100]) rfl rfl rfl rfl))
          · exact ov_step (i := 1) (q := .sem (SL (eI .u8) b_0)) rfl rfl rfl (fun bD hc hi hd => gs_plain rfl (g_move (p := .sem (SL (eI .u8) b_0)) rfl rfl rfl rfl))
          · exact ov_step (i := 2) (q := .sem (PT [.sc (.int .u8 (ix b_0 0))])) rfl rfl rfl (fun bD hc hi hd => gs_plain rfl (g_ix (E := (eI .u8)) (l := b_0) (n := 0) (ps := [.sc (.int .u8 (ix b_0 0))]) rfl rfl rfl Try.underlying36 ty5 (by exact (isSl_sem (by exact (gt (p := .sem (SL (eI .u8) b_0)) (q := .any) (hd 1 (by decide)))))) rfl (by first | omega | ((try simp only [z1, z2, z3, z4, z5, z6, z7, z8, z9, zA, zB, zC, zD, wrap64, wrapu8, wrapu16, wrapu32, wrapu64, tmod_ite, tdiv_ite, sub_len, region_Put_len, ref01_Four_len] at *); omega) | ((try simp only [z1, z2, z3, z4, z5, z6, z7, z8, z9, zA, tmod_ite, tdiv_ite, sub_len, region_Put_len, ref01_Four_len] at *); (try simp (disch := omega) only [wrap64_id]); (try simp only [z1, z2, z3, z4, z5, z6, z7, z8, z9, zA, zB, zC, zD, wrap64, wrapu8, wrapu16, wrapu32, wrapu64, tmod_ite, tdiv_ite, sub_len] at *); omega)) rfl))
          · exact ov_step (i := 3) (q := .sc (.int .u8 (ix b_0 0))) rfl rfl rfl (fun bD hc hi hd => gs_plain rfl (g_loadPT (ps := [.sc (.int .u8 (ix b_0 0))]) (p := .sc (.int .u8 (ix b_0 0))) rfl rfl rfl ty5 (gt (p := .sem (PT [.sc (.int .u8 (ix b_0 0))])) (q := .any) (hd 2 (by decide))) rfl rfl rfl rfl))
          · exact ov_step (i := 4) (q := .sem (SL (eI .u8) b_0)) rfl rfl rfl (fun bD hc hi hd => gs_plain rfl (g_move (p := .sem (SL (eI .u8) b_0)) rfl rfl rfl rfl))
          · exact ov_step (i := 5) (q := .sc (.int .i64 (IntKind.wrap .i64 (ix b_0 1)))) rfl rfl rfl (fun bD hc hi hd => gs_plain rfl (g_move (p := .sc (.int .i64 (IntKind.wrap .i64 (ix b_0 1)))) rfl rfl rfl rfl))
          · exact ov_step (i := 6) (q := .sc (.int .i64 (IntKind.wrap .i64 (2 + (IntKind.wrap .i64 (ix b_0 1)))))) rfl rfl rfl (fun bD hc hi hd => gs_plain rfl (g_bin (u1 := .int .i64 2) (u2 := .int .i64 (IntKind.wrap .i64 (ix b_0 1))) (v := .int .i64 (IntKind.wrap .i64 (2 + (IntKind.wrap .i64 (ix b_0 1))))) rfl rfl rfl rfl (gt (p := .sc (.int .i64 (IntKind.wrap .i64 (ix b_0 1)))) (q := .any) (hd 5 (by decide))) (fun _ => rfl)))
          · exact ov_step (i := 7) (q := .sem (SL (eI .u8) (sub b_0 2 (IntKind.wrap .i64 (2 + (IntKind.wrap .i64 (ix b_0 1))))))) rfl rfl rfl (fun bD hc hi hd => gs_plain rfl (step_slice (E := (eI .u8)) (l := b_0) (i := 2) (j := (IntKind.wrap .i64 (2 + (IntKind.wrap .i64 (ix b_0 1))))) rfl rfl rfl Try.underlying36 ty5 (by exact (isSl_sem (by exact (gt (p := .sem (SL (eI .u8) b_0)) (q := .any) (hd 4 (by decide)))))) (isB_some rfl) (isB_some (gt (p := .sc (.int .i64 (IntKind.wrap .i64 (2 + (IntKind.wrap .i64 (ix b_0 1)))))) (q := .any) (hd 6 (by decide)))) (show 0 ≤ 2 ∧ 2 ≤ (IntKind.wrap .i64 (2 + (IntKind.wrap .i64 (ix b_0 1)))) ∧ (IntKind.wrap .i64 (2 + (IntKind.wrap .i64 (ix b_0 1)))) ≤ (b_0.length : Int) from (by first | omega | ((try simp only [z1, z2, z3, z4, z5, z6, z7, z8, z9, zA, zB, zC, zD, wrap64, wrapu8, wrapu16, wrapu32, wrapu64, tmod_ite, tdiv_ite, sub_len, region_Put_len, ref01_Four_len] at *); omega) | ((try simp only [z1, z2, z3, z4, z5, z6, z7, z8, z9, zA, tmod_ite, tdiv_ite, sub_len, region_Put_len, ref01_Four_len] at *); (try simp (disch := omega) only [wrap64_id]); (try simp only [z1, z2, z3, z4, z5, z6, z7, z8, z9, zA, zB, zC, zD, wrap64, wrapu8, wrapu16, wrapu32, wrapu64, tmod_ite, tdiv_ite, sub_len] at *); omega)))))
        refine famE_last [9] (by kernel_rfl) ?_ (fun bD hb => ?_)
        · refine fc ?_ (fn')
          · exact ov_step (i := 9) (q := .sc (.bool (!((caps_D11 (ix b_0 0) (sub b_0 2 (IntKind.wrap .i64 (2 + (IntKind.wrap .i64 (ix b_0 1))))) x1100_0).1)))) rfl rfl rfl (fun bD hc hi hd => gs_plain rfl (g_un (u := .bool ((caps_D11 (ix b_0 0) (sub b_0 2 (IntKind.wrap .i64 (2 + (IntKind.wrap .i64 (ix b_0 1))))) x1100_0).1)) (v := .bool (!((caps_D11 (ix b_0 0) (sub b_0 2 (IntKind.wrap .i64 (2 + (IntKind.wrap .i64 (ix b_0 1))))) x1100_0).1))) rfl rfl rfl (gt (p := .sc (.bool ((caps_D11 (ix b_0 0) (sub b_0 2 (IntKind.wrap .i64 (2 + (IntKind.wrap .i64 (ix b_0 1))))) x1100_0).1))) (q := .any) (hd 8 (by decide))) (fun _ => rfl)))
        obtain rfl : bD = fun _ => true := funext hb
        refine aw_cond (b := !((caps_D11 (ix b_0 0) (sub b_0 2 (IntKind.wrap .i64 (2 + (IntKind.wrap .i64 (ix b_0 1))))) x1100_0).1)) rfl (fun k17 => ?_) (fun k17 => ?_)
        · skip
          refine aw_seq ?_
          refine aw_region ?_
          refine al_op rfl (g_assign (p := .sc (.bool false)) rfl rfl rfl rfl) ?_
          refine al_nil ?_
          refine aw_ret ?_
          exact endG_mk (F := (fun (z : Bool × api_Caps) => ⟨[(1100, [.sc (.bool z.2.fFour), .sc (.int .i64 z.2.fAS4), .sc (.bool z.2.fGR), .sc (.bool z.2.fRestarting), .sc (.int .i64 z.2.fTime), .sc (.bool z.2.fFamily), .sc (.bool z.2.fForward), .sc (.bool z.2.fLL), .sc (.int .i64 z.2.fLLTime)])], [], .sc (.bool z.1)⟩)) (z := (caps_parts11 b c)) (v := (false, ((caps_D11 (ix b_0 0) (sub b_0 2 (IntKind.wrap .i64 (2 + (IntKind.wrap .i64 (ix b_0 1))))) x1100_0).2))) (mL (hJ0.symm.trans (bT k4 (bF k14 (bT k17 rfl)))) rfl) rfl (.one (.tmp 4 (.sc (.bool false)) rfl) (.one (.rfl _)) rfl) ⟨⟨[.sc (.bool (((caps_D11 (ix b_0 0) (sub b_0 2 (IntKind.wrap .i64 (2 + (IntKind.wrap .i64 (ix b_0 1))))) x1100_0).2).fFour)), .sc (.int .i64 (((caps_D11 (ix b_0 0) (sub b_0 2 (IntKind.wrap .i64 (2 + (IntKind.wrap .i64 (ix b_0 1))))) x1100_0).2).fAS4)), .sc (.bool (((caps_D11 (ix b_0 0) (sub b_0 2 (IntKind.wrap .i64 (2 + (IntKind.wrap .i64 (ix b_0 1))))) x1100_0).2).fGR)), .sc (.bool (((caps_D11 (ix b_0 0) (sub b_0 2 (IntKind.wrap .i64 (2 + (IntKind.wrap .i64 (ix b_0 1))))) x1100_0).2).fRestarting)), .sc (.int .i64 (((caps_D11 (ix b_0 0) (sub b_0 2 (IntKind.wrap .i64 (2 + (IntKind.wrap .i64 (ix b_0 1))))) x1100_0).2).fTime)), .sc (.bool (((caps_D11 (ix b_0 0) (sub b_0 2 (IntKind.wrap .i64 (2 + (IntKind.wrap .i64 (ix b_0 1))))) x1100_0).2).fFamily)), .sc (.bool (((caps_D11 (ix b_0 0) (sub b_0 2 (IntKind.wrap .i64 (2 + (IntKind.wrap .i64 (ix b_0 1))))) x1100_0).2).fForward)), .sc (.bool (((caps_D11 (ix b_0 0) (sub b_0 2 (IntKind.wrap .i64 (2 + (IntKind.wrap .i64 (ix b_0 1))))) x1100_0).2).fLL)), .sc (.int .i64 (((caps_D11 (ix b_0 0) (sub b_0 2 (IntKind.wrap .i64 (2 + (IntKind.wrap .i64 (ix b_0 1))))) x1100_0).2).fLLTime))], rfl, (.cons (.rfl _) (.cons (.rfl _) (.cons (.rfl _) (.cons (.rfl _) (.cons (.rfl _) (.cons (.rfl _) (.cons (.rfl _) (.cons (.rfl _) (.cons (.rfl _) .nil)))))))))⟩, trivial⟩ trivial
        · skip
          refine aw_skip ?_
          refine aw_region ?_
          refine al_op rfl (g_move (p := .sem (SL (eI .u8) b_0)) rfl rfl rfl rfl) ?_
          refine al_op rfl (g_move (p := .sc (.int .i64 (IntKind.wrap .i64 (ix b_0 1)))) rfl rfl rfl rfl) ?_
          refine al_op rfl (g_bin (u1 := .int .i64 2) (u2 := .int .i64 (IntKind.wrap .i64 (ix b_0 1))) (v := .int .i64 (IntKind.wrap .i64 (2 + (IntKind.wrap .i64 (ix b_0 1))))) rfl rfl rfl rfl rfl (fun _ => rfl)) ?_
          refine al_op rfl (step_slice (E := (eI .u8)) (l := b_0) (i := (IntKind.wrap .i64 (2 + (IntKind.wrap .i64 (ix b_0 1))))) (j := (b_0.length : Int)) rfl rfl rfl Try.underlying36 ty5 (isSl_sem rfl) (isB_some rfl) (isB_none rfl) (show 0 ≤ (IntKind.wrap .i64 (2 + (IntKind.wrap .i64 (ix b_0 1)))) ∧ (IntKind.wrap .i64 (2 + (IntKind.wrap .i64 (ix b_0 1)))) ≤ (b_0.length : Int) ∧ (b_0.length : Int) ≤ (b_0.length : Int) from (by first | omega | ((try simp only [z1, z2, z3, z4, z5, z6, z7, z8, z9, zA, zB, zC, zD, wrap64, wrapu8, wrapu16, wrapu32, wrapu64, tmod_ite, tdiv_ite, sub_len, region_Put_len, ref01_Four_len] at *); omega) | ((try simp only [z1, z2, z3, z4, z5, z6, z7, z8, z9, zA, tmod_ite, tdiv_ite, sub_len, region_Put_len, ref01_Four_len] at *); (try simp (disch := omega) only [wrap64_id]); (try simp only [z1, z2, z3, z4, z5, z6, z7, z8, z9, zA, zB, zC, zD, wrap64, wrapu8, wrapu16, wrapu32, wrapu64, tmod_ite, tdiv_ite, sub_len] at *); omega)))) ?_
          refine al_op rfl (g_assign (p := .sem (SL (eI .u8) (sub b_0 (IntKind.wrap .i64 (2 + (IntKind.wrap .i64 (ix b_0 1)))) (b_0.length : Int)))) rfl rfl rfl rfl) ?_
          refine al_nil ?_
          exact ⟨(n0, ((caps_D11 (ix b_0 0) (sub b_0 2 (IntKind.wrap .i64 (2 + (IntKind.wrap .i64 (ix b_0 1))))) x1100_0).2), (sub b_0 (IntKind.wrap .i64 (2 + (IntKind.wrap .i64 (ix b_0 1)))) (b_0.length : Int))), (sub_of rfl ⟨⟨rfl, (.one (.rfl _))⟩, ⟨⟨rfl, (.one (.rfl _))⟩, ⟨⟨rfl, (.one (.rfl _))⟩, trivial⟩⟩⟩ ⟨⟨[.sc (.bool (((caps_D11 (ix b_0 0) (sub b_0 2 (IntKind.wrap .i64 (2 + (IntKind.wrap .i64 (ix b_0 1))))) x1100_0).2).fFour)), .sc (.int .i64 (((caps_D11 (ix b_0 0) (sub b_0 2 (IntKind.wrap .i64 (2 + (IntKind.wrap .i64 (ix b_0 1))))) x1100_0).2).fAS4)), .sc (.bool (((caps_D11 (ix b_0 0) (sub b_0 2 (IntKind.wrap .i64 (2 + (IntKind.wrap .i64 (ix b_0 1))))) x1100_0).2).fGR)), .sc (.bool (((caps_D11 (ix b_0 0) (sub b_0 2 (IntKind.wrap .i64 (2 + (IntKind.wrap .i64 (ix b_0 1))))) x1100_0).2).fRestarting)), .sc (.int .i64 (((caps_D11 (ix b_0 0) (sub b_0 2 (IntKind.wrap .i64 (2 + (IntKind.wrap .i64 (ix b_0 1))))) x1100_0).2).fTime)), .sc (.bool (((caps_D11 (ix b_0 0) (sub b_0 2 (IntKind.wrap .i64 (2 + (IntKind.wrap .i64 (ix b_0 1))))) x1100_0).2).fFamily)), .sc (.bool (((caps_D11 (ix b_0 0) (sub b_0 2 (IntKind.wrap .i64 (2 + (IntKind.wrap .i64 (ix b_0 1))))) x1100_0).2).fForward)), .sc (.bool (((caps_D11 (ix b_0 0) (sub b_0 2 (IntKind.wrap .i64 (2 + (IntKind.wrap .i64 (ix b_0 1))))) x1100_0).2).fLL)), .sc (.int .i64 (((caps_D11 (ix b_0 0) (sub b_0 2 (IntKind.wrap .i64 (2 + (IntKind.wrap .i64 (ix b_0 1))))) x1100_0).2).fLLTime))], rfl, (.cons (.rfl _) (.cons (.rfl _) (.cons (.rfl _) (.cons (.rfl _) (.cons (.rfl _) (.cons (.rfl _) (.cons (.rfl _) (.cons (.rfl _) (.cons (.rfl _) .nil)))))))))⟩, trivial⟩ trivial), ⟨Eq.trans (Eq.symm (bT k4 (bF k14 (bF k17 rfl)))) hJ0, (by first | omega | ((try simp only [z1, z2, z3, z4, z5, z6, z7, z8, z9, zA, zB, zC, zD, wrap64, wrapu8, wrapu16, wrapu32, wrapu64, tmod_ite, tdiv_ite, sub_len, region_Put_len, ref01_Four_len] at *); omega) | ((try simp only [z1, z2, z3, z4, z5, z6, z7, z8, z9, zA, tmod_ite, tdiv_ite, sub_len, region_Put_len, ref01_Four_len] at *); (try simp (disch := omega) only [wrap64_id]); (try simp only [z1, z2, z3, z4, z5, z6, z7, z8, z9, zA, zB, zC, zD, wrap64, wrapu8, wrapu16, wrapu32, wrapu64, tmod_ite, tdiv_ite, sub_len] at *); omega)), (gdL_sub ok_b_0)⟩, Nat.lt_succ_self _⟩
    · skip
      refine aw_exit ?_
      exact ⟨(x1100_0, b_0), hJ0.symm.trans (bF k4 rfl), (sub_of rfl ⟨⟨rfl, (.one (.rfl _))⟩, ⟨⟨rfl, (.one (.rfl _))⟩, ⟨⟨rfl, (.one (.rfl _))⟩, trivial⟩⟩⟩ ⟨⟨[.sc (.bool x1100_0.fFour), .sc (.int .i64 x1100_0.fAS4), .sc (.bool x1100_0.fGR), .sc (.bool x1100_0.fRestarting), .sc (.int .i64 x1100_0.fTime), .sc (.bool x1100_0.fFamily), .sc (.bool x1100_0.fForward), .sc (.bool x1100_0.fLL), .sc (.int .i64 x1100_0.fLLTime)], rfl, (.cons (.rfl _) (.cons (.rfl _) (.cons (.rfl _) (.cons (.rfl _) (.cons (.rfl _) (.cons (.rfl _) (.cons (.rfl _) (.cons (.rfl _) (.cons (.rfl _) .nil)))))))))⟩, trivial⟩ trivial)⟩
  · skip
    refine aw_len 0 rfl (fun hl18 => ?_)
    refine aw_seq ?_
    refine aw_region ?_
    refine al_op rfl (g_assign (p := .sc (.bool true)) rfl rfl rfl rfl) ?_
    refine al_nil ?_
    refine aw_ret ?_
    exact endG_mk (F := (fun (z : Bool × api_Caps) => ⟨[(1100, [.sc (.bool z.2.fFour), .sc (.int .i64 z.2.fAS4), .sc (.bool z.2.fGR), .sc (.bool z.2.fRestarting), .sc (.int .i64 z.2.fTime), .sc (.bool z.2.fFamily), .sc (.bool z.2.fForward), .sc (.bool z.2.fLL), .sc (.int .i64 z.2.fLLTime)])], [], .sc (.bool z.1)⟩)) (z := (caps_parts11 b c)) (v := (true, x_0.1)) (mR e2 rfl) rfl (.one (.tmp 4 (.sc (.bool true)) rfl) (.one (.rfl _)) rfl) ⟨⟨[.sc (.bool x_0.1.fFour), .sc (.int .i64 x_0.1.fAS4), .sc (.bool x_0.1.fGR), .sc (.bool x_0.1.fRestarting), .sc (.int .i64 x_0.1.fTime), .sc (.bool x_0.1.fFamily), .sc (.bool x_0.1.fForward), .sc (.bool x_0.1.fLL), .sc (.int .i64 x_0.1.fLLTime)], rfl, (.cons (.rfl _) (.cons (.rfl _) (.cons (.rfl _) (.cons (.rfl _) (.cons (.rfl _) (.cons (.rfl _) (.cons (.rfl _) (.cons (.rfl _) (.cons (.rfl _) .nil)))))))))⟩, trivial⟩ trivial

/-- interregnum/caps.Decode$1 -/
def caps_D1 (typ : Int) (b : List Int) (c : api_Caps) : Bool × api_Caps :=
  (bif decide ((typ : Int) = 2) then
    ((caps_parts11 b c).1, ((caps_parts11 b c).2))
  else
    (false, c))
set_option maxRecDepth 100000 in
set_option maxHeartbeats 4000000 in
theorem caps_D1_pf (typ : Int) (b : List Int) (c : api_Caps) (ok_b : gdL (okI .u8) b) : PG Try.prog 40 [(1002, (api_Caps.cells c))] [] [.sc (.int .u8 typ), .sem (SL (eI .u8) b), .loc 1002 0] (fun _ : Unit => True) (fun _ => (fun (z : Bool × api_Caps) => ⟨[(1002, [.sc (.bool z.2.fFour), .sc (.int .i64 z.2.fAS4), .sc (.bool z.2.fGR), .sc (.bool z.2.fRestarting), .sc (.int .i64 z.2.fTime), .sc (.bool z.2.fFamily), .sc (.bool z.2.fForward), .sc (.bool z.2.fLL), .sc (.int .i64 z.2.fLLTime)])], [], .sc (.bool z.1)⟩) (caps_D1 typ b c)) := by
  refine pg_of (N := 13) (l := [.tmp 5]) Try.func40 rfl rfl rfl (Nat.le_of_ble_eq_true rfl) fun w0 i0 F βs => ?_
  refine aw_seq ?_
  refine aw_region ?_
  refine al_op rfl (g_assign (p := .sc (.bool false)) rfl rfl rfl rfl) ?_
  refine al_nil ?_
  refine aw_seq ?_
  refine aw_region ?_
  refine al_op rfl (g_move (p := .sc (.int .u8 typ)) rfl rfl rfl rfl) ?_
  refine al_op rfl (g_bin (u1 := .int .u8 typ) (u2 := .int .u8 2) (v := .bool (decide ((typ : Int) = 2))) rfl rfl rfl rfl rfl (fun _ => rfl)) ?_
  refine al_op rfl (g_move (p := .sc (.bool (decide ((typ : Int) = 2)))) rfl rfl rfl rfl) ?_
  refine al_gW (C := decide ((typ : Int) = 2)) (p := .sem (SL (eI .u8) b)) (gd_T rfl rfl rfl rfl rfl) rfl rfl (fun g1 => g_move (p := .sem (SL (eI .u8) b)) rfl rfl rfl rfl) ?_
  refine al_gW (C := decide ((typ : Int) = 2)) (p := .clo 41 [some 1002]) (gd_T rfl rfl rfl rfl rfl) rfl rfl (fun g2 => g_makeFunc (f := 41) (ls := [some 1002]) rfl rfl rfl rfl) ?_
  refine al_case (decide ((typ : Int) = 2)) (fun k3 => ?_) (fun k3 => ?_)
  · skip
    refine al_norm (d := 9) (p := .sem (SL (eI .u8) b)) (gt (p := .sem (SL (eI .u8) b)) (q := .sc undef) k3) ?_
    refine al_norm (d := 10) (p := .clo 41 [some 1002]) (gt (p := .clo 41 [some 1002]) (q := .sc undef) k3) ?_
    refine al_onX (b := decide ((typ : Int) = 2)) rfl rfl rfl rfl rfl k3 (g_callG (fn := Try.f39) (xs := [.tmp 9, .tmp 10]) (bxs := [(1100, 1002, (api_Caps.cells c), (api_Caps.cells c))]) (tps := []) (newS := []) (newT := []) (ρ := [(1100, 1002)]) (τ := []) rfl rfl rfl Try.func39 rfl rfl (caps_parts11_pf b c ok_b) rfl rfl rfl rfl rfl rfl (by decide) (fc ⟨rfl, (.cons (.rfl _) (.cons (.rfl _) (.cons (.rfl _) (.cons (.rfl _) (.cons (.rfl _) (.cons (.rfl _) (.cons (.rfl _) (.cons (.rfl _) (.cons (.rfl _) .nil)))))))))⟩ fn') fn' ((.cons (.one (.rfl _)) (.cons (.one (.rfl _)) .nil))) rfl (fun _ => rfl) (fun _ => rfl) rfl) (fun _ _ => ?_)
    refine al_op rfl (g_pickK (b := decide ((typ : Int) = 2)) (p := .sc (.bool ((caps_parts11 b c).1))) rfl rfl rfl rfl k3 rfl) ?_
    refine al_op rfl (g_assign (p := .sc (.bool ((caps_parts11 b c).1))) rfl rfl rfl rfl) ?_
    refine al_nil ?_
    refine aw_ret ?_
    exact endG_mk (F := (fun (z : Bool × api_Caps) => ⟨[(1002, [.sc (.bool z.2.fFour), .sc (.int .i64 z.2.fAS4), .sc (.bool z.2.fGR), .sc (.bool z.2.fRestarting), .sc (.int .i64 z.2.fTime), .sc (.bool z.2.fFamily), .sc (.bool z.2.fForward), .sc (.bool z.2.fLL), .sc (.int .i64 z.2.fLLTime)])], [], .sc (.bool z.1)⟩)) (z := (caps_D1 typ b c)) (v := ((caps_parts11 b c).1, ((caps_parts11 b c).2))) (bT k3 rfl) rfl (.one (.tmp 5 (.sc (.bool ((caps_parts11 b c).1))) rfl) (.one (.rfl _)) rfl) ⟨⟨[.sc (.bool (((caps_parts11 b c).2).fFour)), .sc (.int .i64 (((caps_parts11 b c).2).fAS4)), .sc (.bool (((caps_parts11 b c).2).fGR)), .sc (.bool (((caps_parts11 b c).2).fRestarting)), .sc (.int .i64 (((caps_parts11 b c).2).fTime)), .sc (.bool (((caps_parts11 b c).2).fFamily)), .sc (.bool (((caps_parts11 b c).2).fForward)), .sc (.bool (((caps_parts11 b c).2).fLL)), .sc (.int .i64 (((caps_parts11 b c).2).fLLTime))], rfl, (.cons (.rfl _) (.cons (.rfl _) (.cons (.rfl _) (.cons (.rfl _) (.cons (.rfl _) (.cons (.rfl _) (.cons (.rfl _) (.cons (.rfl _) (.cons (.rfl _) .nil)))))))))⟩, trivial⟩ trivial
  · skip
    refine al_offU (v := .bool (decide ((typ : Int) = 2))) rfl rfl rfl rfl rfl (nbF k3) rfl rfl ?_
    refine al_op rfl (g_pickK (b := decide ((typ : Int) = 2)) (p := .sc (.bool false)) rfl rfl rfl rfl k3 rfl) ?_
    refine al_op rfl (g_assign (p := .sc (.bool false)) rfl rfl rfl rfl) ?_
    refine al_nil ?_
    refine aw_ret ?_
    exact endG_mk (F := (fun (z : Bool × api_Caps) => ⟨[(1002, [.sc (.bool z.2.fFour), .sc (.int .i64 z.2.fAS4), .sc (.bool z.2.fGR), .sc (.bool z.2.fRestarting), .sc (.int .i64 z.2.fTime), .sc (.bool z.2.fFamily), .sc (.bool z.2.fForward), .sc (.bool z.2.fLL), .sc (.int .i64 z.2.fLLTime)])], [], .sc (.bool z.1)⟩)) (z := (caps_D1 typ b c)) (v := (false, c)) (bF k3 rfl) rfl (.one (.tmp 5 (.sc (.bool false)) rfl) (.one (.rfl _)) rfl) ⟨⟨(api_Caps.cells c), rfl, (.cons (.rfl _) (.cons (.rfl _) (.cons (.rfl _) (.cons (.rfl _) (.cons (.rfl _) (.cons (.rfl _) (.cons (.rfl _) (.cons (.rfl _) (.cons (.rfl _) .nil)))))))))⟩, trivial⟩ trivial

def caps_parts1_l0 (b : List Int) (c : api_Caps) : Nat → api_Caps → List Int → (Bool × api_Caps) ⊕ (api_Caps × (List Int))
  | 0, _, _ => Sum.inr default
  | n0 + 1, x1100_0, b_0 =>
    (bif decide ((0 : Int) < (b_0.length : Int)) then
      (bif (decide (((b_0.length : Int) : Int) < 2)) || (decide (((IntKind.wrap .i64 ((b_0.length : Int) - 2)) : Int) < (IntKind.wrap .i64 (ix b_0 1)))) then
        Sum.inl (false, x1100_0)
      else
        (bif !((caps_D1 (ix b_0 0) (sub b_0 2 (IntKind.wrap .i64 (2 + (IntKind.wrap .i64 (ix b_0 1))))) x1100_0).1) then
          Sum.inl (false, ((caps_D1 (ix b_0 0) (sub b_0 2 (IntKind.wrap .i64 (2 + (IntKind.wrap .i64 (ix b_0 1))))) x1100_0).2))
        else
          caps_parts1_l0 b c n0 ((caps_D1 (ix b_0 0) (sub b_0 2 (IntKind.wrap .i64 (2 + (IntKind.wrap .i64 (ix b_0 1))))) x1100_0).2) (sub b_0 (IntKind.wrap .i64 (2 + (IntKind.wrap .i64 (ix b_0 1)))) (b_0.length : Int))))
    else
      Sum.inr (x1100_0, b_0))
/-- interregnum/caps.parts -/
def caps_parts1 (b : List Int) (c : api_Caps) : Bool × api_Caps :=
  (Sum.elim (fun z => z) (fun (x_0 : api_Caps × (List Int)) =>
    (true, x_0.1)) (caps_parts1_l0 b c (b.length + 1) c b))
set_option maxRecDepth 100000 in
set_option maxHeartbeats 4000000 in
theorem caps_parts1_pf (b : List Int) (c : api_Caps) (ok_b : gdL (okI .u8) b) : PG Try.prog 39 [(1100, (api_Caps.cells c))] [] [.sem (SL (eI .u8) b), .clo 40 [some 1100]] (fun _ : Unit => True) (fun _ => (fun (z : Bool × api_Caps) => ⟨[(1100, [.sc (.bool z.2.fFour), .sc (.int .i64 z.2.fAS4), .sc (.bool z.2.fGR), .sc (.bool z.2.fRestarting), .sc (.int .i64 z.2.fTime), .sc (.bool z.2.fFamily), .sc (.bool z.2.fForward), .sc (.bool z.2.fLL), .sc (.int .i64 z.2.fLLTime)])], [], .sc (.bool z.1)⟩) (caps_parts1 b c)) := by
  refine pg_of (N := 40) (l := [.tmp 4]) Try.func39 rfl rfl rfl (Nat.le_of_ble_eq_true rfl) fun w0 i0 F βs => ?_
  refine aw_len 0 rfl (fun hl1 => ?_)
  refine aw_seq ?_
  refine aw_region ?_
  refine al_op rfl (g_assign (p := .sc (.bool false)) rfl rfl rfl rfl) ?_
  refine al_nil ?_
  refine aw_joinV (ι := api_Caps × (List Int)) (p := fun x_0 => (caps_parts1_l0 b c (b.length + 1) c b) = .inr x_0) (S := fun x_0 => St.of 40 [(0, .sem (SL (eI .u8) x_0.2)), (1, .clo 40 [some 1100]), (4, .sc (.bool false))] [(1100, [.sc (.bool x_0.1.fFour), .sc (.int .i64 x_0.1.fAS4), .sc (.bool x_0.1.fGR), .sc (.bool x_0.1.fRestarting), .sc (.int .i64 x_0.1.fTime), .sc (.bool x_0.1.fFamily), .sc (.bool x_0.1.fForward), .sc (.bool x_0.1.fLL), .sc (.int .i64 x_0.1.fLLTime)])] []) ?_ (fun x_0 e2 => ?_)
  · skip
    refine aw_block ?_
    refine aw_loopS (ι := Nat × api_Caps × (List Int)) (S := fun i => St.of 40 [(0, .sem (SL (eI .u8) i.2.2)), (1, .clo 40 [some 1100]), (4, .sc (.bool false))] [(1100, [.sc (.bool i.2.1.fFour), .sc (.int .i64 i.2.1.fAS4), .sc (.bool i.2.1.fGR), .sc (.bool i.2.1.fRestarting), .sc (.int .i64 i.2.1.fTime), .sc (.bool i.2.1.fFamily), .sc (.bool i.2.1.fForward), .sc (.bool i.2.1.fLL), .sc (.int .i64 i.2.1.fLLTime)])] []) (J := fun i => caps_parts1_l0 b c i.1 i.2.1 i.2.2 = (caps_parts1_l0 b c (b.length + 1) c b) ∧ (i.2.2.length < i.1) ∧ (gdL (okI .u8) i.2.2)) (μ := fun i => i.1) (i₀ := ((b.length + 1), c, b)) (sub_of rfl ⟨⟨rfl, (.one (.rfl _))⟩, ⟨⟨rfl, (.one (.rfl _))⟩, ⟨⟨rfl, (.one (.rfl _))⟩, trivial⟩⟩⟩ ⟨⟨(api_Caps.cells c), rfl, (.cons (.rfl _) (.cons (.rfl _) (.cons (.rfl _) (.cons (.rfl _) (.cons (.rfl _) (.cons (.rfl _) (.cons (.rfl _) (.cons (.rfl _) (.cons (.rfl _) .nil)))))))))⟩, trivial⟩ trivial) ⟨rfl, (by first | omega | ((try simp only [z1, z2, z3, z4, z5, z6, z7, z8, z9, zA, zB, zC, zD, wrap64, wrapu8, wrapu16, wrapu32, wrapu64, tmod_ite, tdiv_ite, sub_len, region_Put_len, ref01_Four_len] at *); omega) | ((try simp only [z1, z2, z3, z4, z5, z6, z7, z8, z9, zA, tmod_ite, tdiv_ite, sub_len, region_Put_len, ref01_Four_len] at *); (try simp (disch := omega) only [wrap64_id]); (try simp only [z1, z2, z3, z4, z5, z6, z7, z8, z9, zA, zB, zC, zD, wrap64, wrapu8, wrapu16, wrapu32, wrapu64, tmod_ite, tdiv_ite, sub_len] at *); omega)), ok_b⟩ ?_
    rintro ⟨n0, x1100_0, b_0⟩ ⟨hJ0, hm0_0, ok_b_0⟩
    obtain ⟨n0, rfl⟩ : ∃ m, n0 = m + 1 := ⟨n0 - 1, by have : 0 < n0 := Nat.lt_of_le_of_lt (Nat.zero_le _) hm0_0; omega⟩
    replace hJ0 : caps_parts1_l0 b c (n0 + 1) x1100_0 b_0 = (caps_parts1_l0 b c (b.length + 1) c b) := hJ0
    replace hm0_0 : b_0.length < n0 + 1 := hm0_0
    replace ok_b_0 : gdL (okI .u8) b_0 := ok_b_0
    refine aw_len 0 rfl (fun hl3 => ?_)
    refine aw_seq ?_
    refine aw_seq ?_
    refine aw_region ?_
    refine al_op rfl (g_move (p := .sem (SL (eI .u8) b_0)) rfl rfl rfl rfl) ?_
    refine al_op rfl (g_len rfl rfl rfl Try.underlying36 (isSl_sem rfl)) ?_
    refine al_op rfl (g_bin (u1 := .int .i64 (b_0.length : Int)) (u2 := .int .i64 0) (v := .bool (decide ((0 : Int) < (b_0.length : Int)))) rfl rfl rfl rfl rfl (fun _ => rfl)) ?_
    refine al_nil ?_
    refine aw_cond (b := decide ((0 : Int) < (b_0.length : Int))) rfl (fun k4 => ?_) (fun k4 => ?_)
    · skip
      refine aw_skip ?_
      refine aw_block ?_
      refine aw_seq ?_
      refine aw_seq ?_
      refine aw_region ?_
      refine al_op rfl (g_move (p := .sem (SL (eI .u8) b_0)) rfl rfl rfl rfl) ?_
      refine al_op rfl (g_len rfl rfl rfl Try.underlying36 (isSl_sem rfl)) ?_
      refine al_op rfl (g_bin (u1 := .int .i64 (b_0.length : Int)) (u2 := .int .i64 2) (v := .bool (decide (((b_0.length : Int) : Int) < 2))) rfl rfl rfl rfl rfl (fun _ => rfl)) ?_
      refine al_op rfl (g_move (p := .sc (.bool (decide (((b_0.length : Int) : Int) < 2)))) rfl rfl rfl rfl) ?_
      refine al_gW (C := !(decide (((b_0.length : Int) : Int) < 2))) (p := .sem (SL (eI .u8) b_0)) (gd_F (b := decide (((b_0.length : Int) : Int) < 2)) (c := !(decide (((b_0.length : Int) : Int) < 2))) rfl rfl rfl rfl rfl rfl) rfl rfl (fun g5 => g_move (p := .sem (SL (eI .u8) b_0)) rfl rfl rfl rfl) ?_
      have hx7 := ix_u8 ok_b_0 1
      refine al_gW (C := !(decide (((b_0.length : Int) : Int) < 2))) (p := .sem (PT [.sc (.int .u8 (ix b_0 1))])) (gd_F (b := decide (((b_0.length : Int) : Int) < 2)) (c := !(decide (((b_0.length : Int) : Int) < 2))) rfl rfl rfl rfl rfl rfl) rfl rfl (fun g6 => g_ix (E := (eI .u8)) (l := b_0) (n := 1) (ps := [.sc (.int .u8 (ix b_0 1))]) rfl rfl rfl Try.underlying36 ty5 (by exact (isSl_sem (by exact (gt (p := .sem (SL (eI .u8) b_0)) (q := .sc undef) g6)))) rfl (by first | omega | ((try simp only [z1, z2, z3, z4, z5, z6, z7, z8, z9, zA, zB, zC, zD, wrap64, wrapu8, wrapu16, wrapu32, wrapu64, tmod_ite, tdiv_ite, sub_len, region_Put_len, ref01_Four_len] at *); omega) | ((try simp only [z1, z2, z3, z4, z5, z6, z7, z8, z9, zA, tmod_ite, tdiv_ite, sub_len, region_Put_len, ref01_Four_len] at *); (try simp (disch := omega) only [wrap64_id]); (try simp only [z1, z2, z3, z4, z5, z6, z7, z8, z9, zA, zB, zC, zD, wrap64, wrapu8, wrapu16, wrapu32, wrapu64, tmod_ite, tdiv_ite, sub_len] at *); omega)) rfl) ?_
      refine al_gW (C := !(decide (((b_0.length : Int) : Int) < 2))) (p := .sc (.int .u8 (ix b_0 1))) (gd_F (b := decide (((b_0.length : Int) : Int) < 2)) (c := !(decide (((b_0.length : Int) : Int) < 2))) rfl rfl rfl rfl rfl rfl) rfl rfl (fun g8 => g_loadPT (ps := [.sc (.int .u8 (ix b_0 1))]) (p := .sc (.int .u8 (ix b_0 1))) rfl rfl rfl ty5 (gt (p := .sem (PT [.sc (.int .u8 (ix b_0 1))])) (q := .sc undef) g8) rfl rfl rfl rfl) ?_
      refine al_gW (C := !(decide (((b_0.length : Int) : Int) < 2))) (p := .sc (.int .i64 (IntKind.wrap .i64 (ix b_0 1)))) (gd_F (b := decide (((b_0.length : Int) : Int) < 2)) (c := !(decide (((b_0.length : Int) : Int) < 2))) rfl rfl rfl rfl rfl rfl) rfl rfl (fun g9 => g_conv (m := (IntKind.wrap .i64 (ix b_0 1))) rfl rfl rfl Try.underlying5 Try.underlying3 (gt (p := .sc (.int .u8 (ix b_0 1))) (q := .sc undef) g9) rfl) ?_
      refine al_gW (C := !(decide (((b_0.length : Int) : Int) < 2))) (p := .sem (SL (eI .u8) b_0)) (gd_F (b := decide (((b_0.length : Int) : Int) < 2)) (c := !(decide (((b_0.length : Int) : Int) < 2))) rfl rfl rfl rfl rfl rfl) rfl rfl (fun g10 => g_move (p := .sem (SL (eI .u8) b_0)) rfl rfl rfl rfl) ?_
      refine al_gW (C := !(decide (((b_0.length : Int) : Int) < 2))) (p := .sc (.int .i64 (b_0.length : Int))) (gd_F (b := decide (((b_0.length : Int) : Int) < 2)) (c := !(decide (((b_0.length : Int) : Int) < 2))) rfl rfl rfl rfl rfl rfl) rfl rfl (fun g11 => g_len rfl rfl rfl Try.underlying36 (by exact (isSl_sem (by exact (gt (p := .sem (SL (eI .u8) b_0)) (q := .sc undef) g11))))) ?_
      refine al_gW (C := !(decide (((b_0.length : Int) : Int) < 2))) (p := .sc (.int .i64 (IntKind.wrap .i64 ((b_0.length : Int) - 2)))) (gd_F (b := decide (((b_0.length : Int) : Int) < 2)) (c := !(decide (((b_0.length : Int) : Int) < 2))) rfl rfl rfl rfl rfl rfl) rfl rfl (fun g12 => g_bin (u1 := .int .i64 (b_0.length : Int)) (u2 := .int .i64 2) (v := .int .i64 (IntKind.wrap .i64 ((b_0.length : Int) - 2))) rfl rfl rfl (gt (p := .sc (.int .i64 (b_0.length : Int))) (q := .sc undef) g12) rfl (fun _ => rfl)) ?_
      refine al_gW (C := !(decide (((b_0.length : Int) : Int) < 2))) (p := .sc (.bool (decide (((IntKind.wrap .i64 ((b_0.length : Int) - 2)) : Int) < (IntKind.wrap .i64 (ix b_0 1)))))) (gd_F (b := decide (((b_0.length : Int) : Int) < 2)) (c := !(decide (((b_0.length : Int) : Int) < 2))) rfl rfl rfl rfl rfl rfl) rfl rfl (fun g13 => g_bin (u1 := .int .i64 (IntKind.wrap .i64 (ix b_0 1))) (u2 := .int .i64 (IntKind.wrap .i64 ((b_0.length : Int) - 2))) (v := .bool (decide (((IntKind.wrap .i64 ((b_0.length : Int) - 2)) : Int) < (IntKind.wrap .i64 (ix b_0 1))))) rfl rfl rfl (gt (p := .sc (.int .i64 (IntKind.wrap .i64 (ix b_0 1)))) (q := .sc undef) g13) (gt (p := .sc (.int .i64 (IntKind.wrap .i64 ((b_0.length : Int) - 2)))) (q := .sc undef) g13) (fun _ => rfl)) ?_
      refine al_op rfl (g_orU (b := decide (((b_0.length : Int) : Int) < 2)) (y := decide (((IntKind.wrap .i64 ((b_0.length : Int) - 2)) : Int) < (IntKind.wrap .i64 (ix b_0 1)))) rfl rfl rfl rfl rfl rfl) ?_
      refine al_nil ?_
      refine aw_cond (b := (decide (((b_0.length : Int) : Int) < 2)) || (decide (((IntKind.wrap .i64 ((b_0.length : Int) - 2)) : Int) < (IntKind.wrap .i64 (ix b_0 1))))) rfl (fun k14 => ?_) (fun k14 => ?_)
      · skip
        refine aw_seq ?_
        refine aw_region ?_
        refine al_op rfl (g_assign (p := .sc (.bool false)) rfl rfl rfl rfl) ?_
        refine al_nil ?_
        refine aw_ret ?_
        exact endG_mk (F := (fun (z : Bool × api_Caps) => ⟨[(1100, [.sc (.bool z.2.fFour), .sc (.int .i64 z.2.fAS4), .sc (.bool z.2.fGR), .sc (.bool z.2.fRestarting), .sc (.int .i64 z.2.fTime), .sc (.bool z.2.fFamily), .sc (.bool z.2.fForward), .sc (.bool z.2.fLL), .sc (.int .i64 z.2.fLLTime)])], [], .sc (.bool z.1)⟩)) (z := (caps_parts1 b c)) (v := (false, x1100_0)) (mL (hJ0.symm.trans (bT k4 (bT k14 rfl))) rfl) rfl (.one (.tmp 4 (.sc (.bool false)) rfl) (.one (.rfl _)) rfl) ⟨⟨[.sc (.bool x1100_0.fFour), .sc (.int .i64 x1100_0.fAS4), .sc (.bool x1100_0.fGR), .sc (.bool x1100_0.fRestarting), .sc (.int .i64 x1100_0.fTime), .sc (.bool x1100_0.fFamily), .sc (.bool x1100_0.fForward), .sc (.bool x1100_0.fLL), .sc (.int .i64 x1100_0.fLLTime)], rfl, (.cons (.rfl _) (.cons (.rfl _) (.cons (.rfl _) (.cons (.rfl _) (.cons (.rfl _) (.cons (.rfl _) (.cons (.rfl _) (.cons (.rfl _) (.cons (.rfl _) .nil)))))))))⟩, trivial⟩ trivial
      · skip
        refine aw_skip ?_
        refine aw_seq ?_
        refine aw_region ?_
        refine al_op rfl (g_move (p := .sem (SL (eI .u8) b_0)) rfl rfl rfl rfl) ?_
        have hx15 := ix_u8 ok_b_0 1
        refine al_op rfl (g_ix (E := (eI .u8)) (l := b_0) (n := 1) (ps := [.sc (.int .u8 (ix b_0 1))]) rfl rfl rfl Try.underlying36 ty5 (isSl_sem rfl) rfl (by first | omega | ((try simp only [z1, z2, z3, z4, z5, z6, z7, z8, z9, zA, zB, zC, zD, wrap64, wrapu8, wrapu16, wrapu32, wrapu64, tmod_ite, tdiv_ite, sub_len, region_Put_len, ref01_Four_len] at *); omega) | ((try simp only [z1, z2, z3, z4, z5, z6, z7, z8, z9, zA, tmod_ite, tdiv_ite, sub_len, region_Put_len, ref01_Four_len] at *); (try simp (disch := omega) only [wrap64_id]); (try simp only [z1, z2, z3, z4, z5, z6, z7, z8, z9, zA, zB, zC, zD, wrap64, wrapu8, wrapu16, wrapu32, wrapu64, tmod_ite, tdiv_ite, sub_len] at *); omega)) rfl) ?_
        refine al_op rfl (g_loadPT (ps := [.sc (.int .u8 (ix b_0 1))]) (p := .sc (.int .u8 (ix b_0 1))) rfl rfl rfl ty5 rfl rfl rfl rfl rfl) ?_
        refine al_op rfl (g_conv (m := (IntKind.wrap .i64 (ix b_0 1))) rfl rfl rfl Try.underlying5 Try.underlying3 rfl rfl) ?_
        refine al_op rfl (g_assign (p := .sc (.int .i64 (IntKind.wrap .i64 (ix b_0 1)))) rfl rfl rfl rfl) ?_
        refine al_nil ?_
        refine aw_seq ?_
        refine aw_seq ?_
        refine aw_famE (ds := [some 26, some 27, some 28, some 29, some 30, some 31, some 32, some 33, some 34, some 35]) (ks := [8]) (ps := [.clo 40 [some 1100], .sem (SL (eI .u8) b_0), .sem (PT [.sc (.int .u8 (ix b_0 0))]), .sc (.int .u8 (ix b_0 0)), .sem (SL (eI .u8) b_0), .sc (.int .i64 (IntKind.wrap .i64 (ix b_0 1))), .sc (.int .i64 (IntKind.wrap .i64 (2 + (IntKind.wrap .i64 (ix b_0 1))))), .sem (SL (eI .u8) (sub b_0 2 (IntKind.wrap .i64 (2 + (IntKind.wrap .i64 (ix b_0 1)))))), .any, .any]) rfl (by kernel_rfl) rfl rfl ?_
        have hx16 := ix_u8 ok_b_0 0
        refine famE_behind (k := 8) (qs := [.clo 40 [some 1100], .sem (SL (eI .u8) b_0), .sem (PT [.sc (.int .u8 (ix b_0 0))]), .sc (.int .u8 (ix b_0 0)), .sem (SL (eI .u8) b_0), .sc (.int .i64 (IntKind.wrap .i64 (ix b_0 1))), .sc (.int .i64 (IntKind.wrap .i64 (2 + (IntKind.wrap .i64 (ix b_0 1))))), .sem (SL (eI .u8) (sub b_0 2 (IntKind.wrap .i64 (2 + (IntKind.wrap .i64 (ix b_0 1)))))), .sc (.bool ((caps_D1 (ix b_0 0) (sub b_0 2 (IntKind.wrap .i64 (2 + (IntKind.wrap .i64 (ix b_0 1))))) x1100_0).1)), .sc (.bool (!((caps_D1 (ix b_0 0) (sub b_0 2 (IntKind.wrap .i64 (2 + (IntKind.wrap .i64 (ix b_0 1))))) x1100_0).1)))]) [0, 1, 2, 3, 4, 5, 6, 7] [true, true, true, true, true, true, true, true, false, false] (by kernel_rfl) (by kernel_rfl) rfl rfl rfl (fun bD hc hi hd => g_callCv (vs := [.sc (.int .u8 (ix b_0 0)), .sem (SL (eI .u8) (sub b_0 2 (IntKind.wrap .i64 (2 + (IntKind.wrap .i64 (ix b_0 1))))))]) (fn := Try.f40) (xs := [.tmp 29, .tmp 33]) (bxs := [(1002, 1100, [.sc (.bool x1100_0.fFour), .sc (.int .i64 x1100_0.fAS4), .sc (.bool x1100_0.fGR), .sc (.bool x1100_0.fRestarting), .sc (.int .i64 x1100_0.fTime), .sc (.bool x1100_0.fFamily), .sc (.bool x1100_0.fForward), .sc (.bool x1100_0.fLL), .sc (.int .i64 x1100_0.fLLTime)], [.sc (.bool x1100_0.fFour), .sc (.int .i64 x1100_0.fAS4), .sc (.bool x1100_0.fGR), .sc (.bool x1100_0.fRestarting), .sc (.int .i64 x1100_0.fTime), .sc (.bool x1100_0.fFamily), .sc (.bool x1100_0.fForward), .sc (.bool x1100_0.fLL), .sc (.int .i64 x1100_0.fLLTime)])]) (tps := []) (newS := []) (newT := []) (ρ := [(1002, 1100)]) (τ := []) (by exact (congrL2 (b0 := .sc (.int .u8 (ix b_0 0))) (b1 := .sem (SL (eI .u8) (sub b_0 2 (IntKind.wrap .i64 (2 + (IntKind.wrap .i64 (ix b_0 1))))))) (gt (p := .sc (.int .u8 (ix b_0 0))) (q := .any) (hd 3 (by decide))) (gt (p := .sem (SL (eI .u8) (sub b_0 2 (IntKind.wrap .i64 (2 + (IntKind.wrap .i64 (ix b_0 1))))))) (q := .any) (hd 7 (by decide))))) rfl rfl rfl (gt (p := .clo 40 [some 1100]) (q := .any) (hd 0 (by decide))) Try.func40 rfl rfl (caps_D1_pf (ix b_0 0) (sub b_0 2 (IntKind.wrap .i64 (2 + (IntKind.wrap .i64 (ix b_0 1))))) x1100_0 (gdL_sub ok_b_0)) rfl rfl rfl rfl rfl rfl (by decide) (fc ⟨rfl, (.cons (.rfl _) (.cons (.rfl _) (.cons (.rfl _) (.cons (.rfl _) (.cons (.rfl _) (.cons (.rfl _) (.cons (.rfl _) (.cons (.rfl _) (.cons (.rfl _) .nil)))))))))⟩ fn') fn' ((.cons (.one (.rfl _)) (.cons (.one (.rfl _)) (.cons (.one (.rfl _)) .nil)))) rfl (fun _ => rfl) (fun _ => rfl) rfl) (by kernel_rfl) rfl rfl rfl rfl rfl ?_ ?_
        · refine fc ?_ (fc ?_ (fc ?_ (fc ?_ (fc ?_ (fc ?_ (fc ?_ (fc ?_ (fn'))))))))
          · exact ov_step (i := 0) (q := .clo 40 [some 1100]) rfl rfl rfl (fun bD hc hi hd => gs_plain rfl (g_move (p := .clo 40 [some 1100]) rfl rfl rfl rfl))
          · exact ov_step (i := 1) (q := .sem (SL (eI .u8) b_0)) rfl rfl rfl (fun bD hc hi hd => gs_plain rfl (g_move (p := .sem (SL (eI .u8) b_0)) rfl rfl rfl rfl))
          · exact ov_step (i := 2) (q := .sem (PT [.sc (.int .u8 (ix b_0 0))])) rfl rfl rfl (fun bD hc hi hd => gs_plain rfl (g_ix (E := (eI .u8)) (l := b_0) (n := 0) (ps := [.sc (.int .u8 (ix b_0 0))]) rfl rfl rfl Try.underlying36 ty5 (by exact (isSl_sem (by exact (gt (p := .sem (SL (eI .u8) b_0)) (q := .any) (hd 1 (by decide)))))) rfl (by first | omega | ((try simp only [z1, z2, z3, z4, z5, z6, z7, z8, z9, zA, zB, zC, zD, wrap64, wrapu8, wrapu16, wrapu32, wrapu64, tmod_ite, tdiv_ite, sub_len, region_Put_len, ref01_Four_len] at *); omega) | ((try simp only [z1, z2, z3, z4, z5, z6, z7, z8, z9, zA, tmod_ite, tdiv_ite, sub_len, region_Put_len, ref01_Four_len] at *); (try simp (disch := omega) only [wrap64_id]); (try simp only [z1, z2, z3, z4, z5, z6, z7, z8, z9, zA, zB, zC, zD, wrap64, wrapu8, wrapu16, wrapu32, wrapu64, tmod_ite, tdiv_ite, sub_len] at *); omega)) rfl))
          · exact ov_step (i := 3) (q := .sc (.int .u8 (ix b_0 0))) rfl rfl rfl (fun bD hc hi hd => gs_plain rfl (g_loadPT (ps := [.sc (.int .u8 (ix b_0 0))]) (p := .sc (.int .u8 (ix b_0 0))) rfl rfl rfl ty5 (gt (p := .sem (PT [.sc (.int .u8 (ix b_0 0))])) (q := .any) (hd 2 (by decide))) rfl rfl rfl rfl))
          · exact ov_step (i := 4) (q := .sem (SL (eI .u8) b_0)) rfl rfl rfl (fun bD hc hi hd => gs_plain rfl (g_move (p := .sem (SL (eI .u8) b_0)) rfl rfl rfl rfl))
          · exact ov_step (i := 5) (q := .sc (.int .i64 (IntKind.wrap .i64 (ix b_0 1)))) rfl rfl rfl (fun bD hc hi hd => gs_plain rfl (g_move (p := .sc (.int .i64 (IntKind.wrap .i64 (ix b_0 1)))) rfl rfl rfl rfl))
          · exact ov_step (i := 6) (q := .sc (.int .i64 (IntKind.wrap .i64 (2 + (IntKind.wrap .i64 (ix b_0 1)))))) rfl rfl rfl (fun bD hc hi hd => gs_plain rfl (g_bin (u1 := .int .i64 2) (u2 := .int .i64 (IntKind.wrap .i64 (ix b_0 1))) (v := .int .i64 (IntKind.wrap .i64 (2 + (IntKind.wrap .i64 (ix b_0 1))))) rfl rfl rfl rfl (gt (p := .sc (.int .i64 (IntKind.wrap .i64 (ix b_0 1)))) (q := .any) (hd 5 (by decide))) (fun _ => rfl)))
          · exact ov_step (i := 7) (q := .sem (SL (eI .u8) (sub b_0 2 (IntKind.wrap .i64 (2 + (IntKind.wrap .i64 (ix b_0 1))))))) rfl rfl rfl (fun bD hc hi hd => gs_plain rfl (step_slice (E := (eI .u8)) (l := b_0) (i := 2) (j := (IntKind.wrap .i64 (2 + (IntKind.wrap .i64 (ix b_0 1))))) rfl rfl rfl Try.underlying36 ty5 (by exact (isSl_sem (by exact (gt (p := .sem (SL (eI .u8) b_0)) (q := .any) (hd 4 (by decide)))))) (isB_some rfl) (isB_some (gt (p := .sc (.int .i64 (IntKind.wrap .i64 (2 + (IntKind.wrap .i64 (ix b_0 1)))))) (q := .any) (hd 6 (by decide)))) (show 0 ≤ 2 ∧ 2 ≤ (IntKind.wrap .i64 (2 + (IntKind.wrap .i64 (ix b_0 1)))) ∧ (IntKind.wrap .i64 (2 + (IntKind.wrap .i64 (ix b_0 1)))) ≤ (b_0.length : Int) from (by first | omega | ((try simp only [z1, z2, z3, z4, z5, z6, z7, z8, z9, zA, zB, zC, zD, wrap64, wrapu8, wrapu16, wrapu32, wrapu64, tmod_ite, tdiv_ite, sub_len, region_Put_len, ref01_Four_len] at *); omega) | ((try simp only [z1, z2, z3, z4, z5, z6, z7, z8, z9, zA, tmod_ite, tdiv_ite, sub_len, region_Put_len, ref01_Four_len] at *); (try simp (disch := omega) only [wrap64_id]); (try simp only [z1, z2, z3, z4, z5, z6, z7, z8, z9, zA, zB, zC, zD, wrap64, wrapu8, wrapu16, wrapu32, wrapu64, tmod_ite, tdiv_ite, sub_len] at *); omega)))))
        refine famE_last [9] (by kernel_rfl) ?_ (fun bD hb => ?_)
        · refine fc ?_ (fn')
          · exact ov_step (i := 9) (q := .sc (.bool (!((caps_D1 (ix b_0 0) (sub b_0 2 (IntKind.wrap .i64 (2 + (IntKind.wrap .i64 (ix b_0 1))))) x1100_0).1)))) rfl rfl rfl (fun bD hc hi hd => gs_plain rfl (g_un (u := .bool ((caps_D1 (ix b_0 0) (sub b_0 2 (IntKind.wrap .i64 (2 + (IntKind.wrap .i64 (ix b_0 1))))) x1100_0).1)) (v := .bool (!((caps_D1 (ix b_0 0) (sub b_0 2 (IntKind.wrap .i64 (2 + (IntKind.wrap .i64 (ix b_0 1))))) x1100_0).1))) rfl rfl rfl (gt (p := .sc (.bool ((caps_D1 (ix b_0 0) (sub b_0 2 (IntKind.wrap .i64 (2 + (IntKind.wrap .i64 (ix b_0 1))))) x1100_0).1))) (q := .any) (hd 8 (by decide))) (fun _ => rfl)))
        obtain rfl : bD = fun _ => true := funext hb
        refine aw_cond (b := !((caps_D1 (ix b_0 0) (sub b_0 2 (IntKind.wrap .i64 (2 + (IntKind.wrap .i64 (ix b_0 1))))) x1100_0).1)) rfl (fun k17 => ?_) (fun k17 => ?_)
        · skip
          refine aw_seq ?_
          refine aw_region ?_
          refine al_op rfl (g_assign (p := .sc (.bool false)) rfl rfl rfl rfl) ?_
          refine al_nil ?_
          refine aw_ret ?_
          exact endG_mk (F := (fun (z : Bool × api_Caps) => ⟨[(1100, [.sc (.bool z.2.fFour), .sc (.int .i64 z.2.fAS4), .sc (.bool z.2.fGR), .sc (.bool z.2.fRestarting), .sc (.int .i64 z.2.fTime), .sc (.bool z.2.fFamily), .sc (.bool z.2.fForward), .sc (.bool z.2.fLL), .sc (.int .i64 z.2.fLLTime)])], [], .sc (.bool z.1)⟩)) (z := (caps_parts1 b c)) (v := (false, ((caps_D1 (ix b_0 0) (sub b_0 2 (IntKind.wrap .i64 (2 + (IntKind.wrap .i64 (ix b_0 1))))) x1100_0).2))) (mL (hJ0.symm.trans (bT k4 (bF k14 (bT k17 rfl)))) rfl) rfl (.one (.tmp 4 (.sc (.bool false)) rfl) (.one (.rfl _)) rfl) ⟨⟨[.sc (.bool (((caps_D1 (ix b_0 0) (sub b_0 2 (IntKind.wrap .i64 (2 + (IntKind.wrap .i64 (ix b_0 1))))) x1100_0).2).fFour)), .sc (.int .i64 (((caps_D1 (ix b_0 0) (sub b_0 2 (IntKind.wrap .i64 (2 + (IntKind.wrap .i64 (ix b_0 1))))) x1100_0).2).fAS4)), .sc (.bool (((caps_D1 (ix b_0 0) (sub b_0 2 (IntKind.wrap .i64 (2 + (IntKind.wrap .i64 (ix b_0 1))))) x1100_0).2).fGR)), .sc (.bool (((caps_D1 (ix b_0 0) (sub b_0 2 (IntKind.wrap .i64 (2 + (IntKind.wrap .i64 (ix b_0 1))))) x1100_0).2).fRestarting)), .sc (.int .i64 (((caps_D1 (ix b_0 0) (sub b_0 2 (IntKind.wrap .i64 (2 + (IntKind.wrap .i64 (ix b_0 1))))) x1100_0).2).fTime)), .sc (.bool (((caps_D1 (ix b_0 0) (sub b_0 2 (IntKind.wrap .i64 (2 + (IntKind.wrap .i64 (ix b_0 1))))) x1100_0).2).fFamily)), .sc (.bool (((caps_D1 (ix b_0 0) (sub b_0 2 (IntKind.wrap .i64 (2 + (IntKind.wrap .i64 (ix b_0 1))))) x1100_0).2).fForward)), .sc (.bool (((caps_D1 (ix b_0 0) (sub b_0 2 (IntKind.wrap .i64 (2 + (IntKind.wrap .i64 (ix b_0 1))))) x1100_0).2).fLL)), .sc (.int .i64 (((caps_D1 (ix b_0 0) (sub b_0 2 (IntKind.wrap .i64 (2 + (IntKind.wrap .i64 (ix b_0 1))))) x1100_0).2).fLLTime))], rfl, (.cons (.rfl _) (.cons (.rfl _) (.cons (.rfl _) (.cons (.rfl _) (.cons (.rfl _) (.cons (.rfl _) (.cons (.rfl _) (.cons (.rfl _) (.cons (.rfl _) .nil)))))))))⟩, trivial⟩ trivial
        · skip
          refine aw_skip ?_
          refine aw_region ?_
          refine al_op rfl (g_move (p := .sem (SL (eI .u8) b_0)) rfl rfl rfl rfl) ?_
          refine al_op rfl (g_move (p := .sc (.int .i64 (IntKind.wrap .i64 (ix b_0 1)))) rfl rfl rfl rfl) ?_
          refine al_op rfl (g_bin (u1 := .int .i64 2) (u2 := .int .i64 (IntKind.wrap .i64 (ix b_0 1))) (v := .int .i64 (IntKind.wrap .i64 (2 + (IntKind.wrap .i64 (ix b_0 1))))) rfl rfl rfl rfl rfl (fun _ => rfl)) ?_
          refine al_op rfl (step_slice (E := (eI .u8)) (l := b_0) (i := (IntKind.wrap .i64 (2 + (IntKind.wrap .i64 (ix b_0 1))))) (j := (b_0.length : Int)) rfl rfl rfl Try.underlying36 ty5 (isSl_sem rfl) (isB_some rfl) (isB_none rfl) (show 0 ≤ (IntKind.wrap .i64 (2 + (IntKind.wrap .i64 (ix b_0 1)))) ∧ (IntKind.wrap .i64 (2 + (IntKind.wrap .i64 (ix b_0 1)))) ≤ (b_0.length : Int) ∧ (b_0.length : Int) ≤ (b_0.length : Int) from (by first | omega | ((try simp only [z1, z2, z3, z4, z5, z6, z7, z8, z9, zA, zB, zC, zD, wrap64, wrapu8, wrapu16, wrapu32, wrapu64, tmod_ite, tdiv_ite, sub_len, region_Put_len, ref01_Four_len] at *); omega) | ((try simp only [z1, z2, z3, z4, z5, z6, z7, z8, z9, zA, tmod_ite, tdiv_ite, sub_len, region_Put_len, ref01_Four_len] at *); (try simp (disch := omega) only [wrap64_id]); (try simp only [z1, z2, z3, z4, z5, z6, z7, z8, z9, zA, zB, zC, zD, wrap64, wrapu8, wrapu16, wrapu32, wrapu64, tmod_ite, tdiv_ite, sub_len] at *); omega)))) ?_
          refine al_op rfl (g_assign (p := .sem (SL (eI .u8) (sub b_0 (IntKind.wrap .i64 (2 + (IntKind.wrap .i64 (ix b_0 1)))) (b_0.length : Int)))) rfl rfl rfl rfl) ?_
          refine al_nil ?_
          exact ⟨(n0, ((caps_D1 (ix b_0 0) (sub b_0 2 (IntKind.wrap .i64 (2 + (IntKind.wrap .i64 (ix b_0 1))))) x1100_0).2), (sub b_0 (IntKind.wrap .i64 (2 + (IntKind.wrap .i64 (ix b_0 1)))) (b_0.length : Int))), (sub_of rfl ⟨⟨rfl, (.one (.rfl _))⟩, ⟨⟨rfl, (.one (.rfl _))⟩, ⟨⟨rfl, (.one (.rfl _))⟩, trivial⟩⟩⟩ ⟨⟨[.sc (.bool (((caps_D1 (ix b_0 0) (sub b_0 2 (IntKind.wrap .i64 (2 + (IntKind.wrap .i64 (ix b_0 1))))) x1100_0).2).fFour)), .sc (.int .i64 (((caps_D1 (ix b_0 0) (sub b_0 2 (IntKind.wrap .i64 (2 + (IntKind.wrap .i64 (ix b_0 1))))) x1100_0).2).fAS4)), .sc (.bool (((caps_D1 (ix b_0 0) (sub b_0 2 (IntKind.wrap .i64 (2 + (IntKind.wrap .i64 (ix b_0 1))))) x1100_0).2).fGR)), .sc (.bool (((caps_D1 (ix b_0 0) (sub b_0 2 (IntKind.wrap .i64 (2 + (IntKind.wrap .i64 (ix b_0 1))))) x1100_0).2).fRestarting)), .sc (.int .i64 (((caps_D1 (ix b_0 0) (sub b_0 2 (IntKind.wrap .i64 (2 + (IntKind.wrap .i64 (ix b_0 1))))) x1100_0).2).fTime)), .sc (.bool (((caps_D1 (ix b_0 0) (sub b_0 2 (IntKind.wrap .i64 (2 + (IntKind.wrap .i64 (ix b_0 1))))) x1100_0).2).fFamily)), .sc (.bool (((caps_D1 (ix b_0 0) (sub b_0 2 (IntKind.wrap .i64 (2 + (IntKind.wrap .i64 (ix b_0 1))))) x1100_0).2).fForward)), .sc (.bool (((caps_D1 (ix b_0 0) (sub b_0 2 (IntKind.wrap .i64 (2 + (IntKind.wrap .i64 (ix b_0 1))))) x1100_0).2).fLL)), .sc (.int .i64 (((caps_D1 (ix b_0 0) (sub b_0 2 (IntKind.wrap .i64 (2 + (IntKind.wrap .i64 (ix b_0 1))))) x1100_0).2).fLLTime))], rfl, (.cons (.rfl _) (.cons (.rfl _) (.cons (.rfl _) (.cons (.rfl _) (.cons (.rfl _) (.cons (.rfl _) (.cons (.rfl _) (.cons (.rfl _) (.cons (.rfl _) .nil)))))))))⟩, trivial⟩ trivial), ⟨Eq.trans (Eq.symm (bT k4 (bF k14 (bF k17 rfl)))) hJ0, (by first | omega | ((try simp only [z1, z2, z3, z4, z5, z6, z7, z8, z9, zA, zB, zC, zD, wrap64, wrapu8, wrapu16, wrapu32, wrapu64, tmod_ite, tdiv_ite, sub_len, region_Put_len, ref01_Four_len] at *); omega) | ((try simp only [z1, z2, z3, z4, z5, z6, z7, z8, z9, zA, tmod_ite, tdiv_ite, sub_len, region_Put_len, ref01_Four_len] at *); (try simp (disch := omega) only [wrap64_id]); (try simp only [z1, z2, z3, z4, z5, z6, z7, z8, z9, zA, zB, zC, zD, wrap64, wrapu8, wrapu16, wrapu32, wrapu64, tmod_ite, tdiv_ite, sub_len] at *); omega)), (gdL_sub ok_b_0)⟩, Nat.lt_succ_self _⟩
    · skip
      refine aw_exit ?_
      exact ⟨(x1100_0, b_0), hJ0.symm.trans (bF k4 rfl), (sub_of rfl ⟨⟨rfl, (.one (.rfl _))⟩, ⟨⟨rfl, (.one (.rfl _))⟩, ⟨⟨rfl, (.one (.rfl _))⟩, trivial⟩⟩⟩ ⟨⟨[.sc (.bool x1100_0.fFour), .sc (.int .i64 x1100_0.fAS4), .sc (.bool x1100_0.fGR), .sc (.bool x1100_0.fRestarting), .sc (.int .i64 x1100_0.fTime), .sc (.bool x1100_0.fFamily), .sc (.bool x1100_0.fForward), .sc (.bool x1100_0.fLL), .sc (.int .i64 x1100_0.fLLTime)], rfl, (.cons (.rfl _) (.cons (.rfl _) (.cons (.rfl _) (.cons (.rfl _) (.cons (.rfl _) (.cons (.rfl _) (.cons (.rfl _) (.cons (.rfl _) (.cons (.rfl _) .nil)))))))))⟩, trivial⟩ trivial)⟩
  · skip
    refine aw_len 0 rfl (fun hl18 => ?_)
    refine aw_seq ?_
    refine aw_region ?_
    refine al_op rfl (g_assign (p := .sc (.bool true)) rfl rfl rfl rfl) ?_
    refine al_nil ?_
    refine aw_ret ?_
    exact endG_mk (F := (fun (z : Bool × api_Caps) => ⟨[(1100, [.sc (.bool z.2.fFour), .sc (.int .i64 z.2.fAS4), .sc (.bool z.2.fGR), .sc (.bool z.2.fRestarting), .sc (.int .i64 z.2.fTime), .sc (.bool z.2.fFamily), .sc (.bool z.2.fForward), .sc (.bool z.2.fLL), .sc (.int .i64 z.2.fLLTime)])], [], .sc (.bool z.1)⟩)) (z := (caps_parts1 b c)) (v := (true, x_0.1)) (mR e2 rfl) rfl (.one (.tmp 4 (.sc (.bool true)) rfl) (.one (.rfl _)) rfl) ⟨⟨[.sc (.bool x_0.1.fFour), .sc (.int .i64 x_0.1.fAS4), .sc (.bool x_0.1.fGR), .sc (.bool x_0.1.fRestarting), .sc (.int .i64 x_0.1.fTime), .sc (.bool x_0.1.fFamily), .sc (.bool x_0.1.fForward), .sc (.bool x_0.1.fLL), .sc (.int .i64 x_0.1.fLLTime)], rfl, (.cons (.rfl _) (.cons (.rfl _) (.cons (.rfl _) (.cons (.rfl _) (.cons (.rfl _) (.cons (.rfl _) (.cons (.rfl _) (.cons (.rfl _) (.cons (.rfl _) .nil)))))))))⟩, trivial⟩ trivial

/-- interregnum/caps.Decode -/
def caps_Decode (b : List Int) : api_Caps × Bool :=
  (bif !((caps_parts1 b (⟨false, 0, false, false, 0, false, false, false, 0⟩ : api_Caps)).1) then
    ((⟨false, 0, false, false, 0, false, false, false, 0⟩ : api_Caps), false)
  else
    (((caps_parts1 b (⟨false, 0, false, false, 0, false, false, false, 0⟩ : api_Caps)).2), true))
set_option maxRecDepth 100000 in
set_option maxHeartbeats 4000000 in
theorem caps_Decode_pf_g (b : List Int) (ok_b : gdL (okI .u8) b) : PG Try.prog 33 [] [] [.sem (SL (eI .u8) b)] (fun _ : Unit => True) (fun _ => (fun (z : api_Caps × Bool) => ⟨[], [], .tup [.agg (api_Caps.cells z.1), .sc (.bool z.2)]⟩) (caps_Decode b)) := by
  refine pg_of (N := 13) (l := [.cell 2 27, .tmp 3]) Try.func33 rfl rfl rfl (Nat.le_of_ble_eq_true rfl) fun w0 i0 F βs => ?_
  refine aw_seq ?_
  refine aw_region ?_
  refine al_op rfl (g_alloc (s := 2) (z := zv27) (qs := zc27) rfl rfl rfl rfl z27 rfl rfl) ?_
  refine al_op rfl (g_assign (p := .sc (.bool false)) rfl rfl rfl rfl) ?_
  refine al_nil ?_
  refine aw_seq ?_
  refine aw_region ?_
  refine al_op rfl (g_alloc (s := 4) (z := zv27) (qs := zc27) rfl rfl rfl rfl z27 rfl rfl) ?_
  refine al_nil ?_
  refine aw_seq ?_
  refine aw_region ?_
  refine al_op rfl (g_move (p := .sem (SL (eI .u8) b)) rfl rfl rfl rfl) ?_
  refine al_op rfl (g_makeFunc (f := 40) (ls := [some 4]) rfl rfl rfl rfl) ?_
  refine al_opX rfl (g_callG (fn := Try.f39) (xs := [.tmp 6, .tmp 7]) (bxs := [(1100, 4, zc27, zc27)]) (tps := []) (newS := []) (newT := []) (ρ := [(1100, 4)]) (τ := []) rfl rfl rfl Try.func39 rfl rfl (caps_parts1_pf b (⟨false, 0, false, false, 0, false, false, false, 0⟩ : api_Caps) ok_b) rfl rfl rfl rfl rfl rfl (by decide) (fc ⟨rfl, (.cons (.rfl _) (.cons (.rfl _) (.cons (.rfl _) (.cons (.rfl _) (.cons (.rfl _) (.cons (.rfl _) (.cons (.rfl _) (.cons (.rfl _) (.cons (.rfl _) .nil)))))))))⟩ fn') fn' ((.cons (.one (.rfl _)) (.cons (.one (.rfl _)) .nil))) rfl (fun _ => rfl) (fun _ => rfl) rfl) (fun _ _ => ?_)
  refine al_op rfl (g_assign (p := .sc (.bool ((caps_parts1 b (⟨false, 0, false, false, 0, false, false, false, 0⟩ : api_Caps)).1))) rfl rfl rfl rfl) ?_
  refine al_nil ?_
  refine aw_seq ?_
  refine aw_seq ?_
  refine aw_region ?_
  refine al_op rfl (g_move (p := .sc (.bool ((caps_parts1 b (⟨false, 0, false, false, 0, false, false, false, 0⟩ : api_Caps)).1))) rfl rfl rfl rfl) ?_
  refine al_op rfl (g_un (u := .bool ((caps_parts1 b (⟨false, 0, false, false, 0, false, false, false, 0⟩ : api_Caps)).1)) (v := .bool (!((caps_parts1 b (⟨false, 0, false, false, 0, false, false, false, 0⟩ : api_Caps)).1))) rfl rfl rfl rfl (fun _ => rfl)) ?_
  refine al_nil ?_
  refine aw_cond (b := !((caps_parts1 b (⟨false, 0, false, false, 0, false, false, false, 0⟩ : api_Caps)).1)) rfl (fun k1 => ?_) (fun k1 => ?_)
  · skip
    refine aw_seq ?_
    refine aw_region ?_
    refine al_op rfl (g_build (parts := []) (pps := []) (qs := zc27) rfl rfl rfl bld27 rfl rfl (by kernel_rfl)) ?_
    refine al_op rfl (g_store (s := 2) (off := 0) (ps := zc27) (p := .agg zc27) (qs := zc27) rfl rfl ty27 rfl rfl rfl rfl rfl rfl rfl) ?_
    refine al_op rfl (g_assign (p := .sc (.bool false)) rfl rfl rfl rfl) ?_
    refine al_nil ?_
    refine aw_ret ?_
    exact endG_mk (F := (fun (z : api_Caps × Bool) => ⟨[], [], .tup [.agg (api_Caps.cells z.1), .sc (.bool z.2)]⟩)) (z := (caps_Decode b)) (v := ((⟨false, 0, false, false, 0, false, false, false, 0⟩ : api_Caps), false)) (bT k1 rfl) rfl (.two (.cell 2 27 2 9 true zc27 (.agg zc27) rfl rfl ty27 rfl rfl rfl) (.one (.rfl _)) rfl (.tmp 3 (.sc (.bool false)) rfl) (.one (.rfl _)) rfl) trivial trivial
  · skip
    refine aw_skip ?_
    refine aw_seq ?_
    refine aw_region ?_
    refine al_op rfl (g_load (s := 4) (off := 0) (ps := (api_Caps.cells ((caps_parts1 b (⟨false, 0, false, false, 0, false, false, false, 0⟩ : api_Caps)).2))) (p := .agg (api_Caps.cells ((caps_parts1 b (⟨false, 0, false, false, 0, false, false, false, 0⟩ : api_Caps)).2))) rfl rfl rfl ty27 rfl rfl rfl rfl rfl) ?_
    refine al_op rfl (g_store (s := 2) (off := 0) (ps := zc27) (p := .agg (api_Caps.cells ((caps_parts1 b (⟨false, 0, false, false, 0, false, false, false, 0⟩ : api_Caps)).2))) (qs := (api_Caps.cells ((caps_parts1 b (⟨false, 0, false, false, 0, false, false, false, 0⟩ : api_Caps)).2))) rfl rfl ty27 rfl rfl rfl rfl rfl rfl rfl) ?_
    refine al_op rfl (g_assign (p := .sc (.bool true)) rfl rfl rfl rfl) ?_
    refine al_nil ?_
    refine aw_ret ?_
    exact endG_mk (F := (fun (z : api_Caps × Bool) => ⟨[], [], .tup [.agg (api_Caps.cells z.1), .sc (.bool z.2)]⟩)) (z := (caps_Decode b)) (v := (((caps_parts1 b (⟨false, 0, false, false, 0, false, false, false, 0⟩ : api_Caps)).2), true)) (bF k1 rfl) rfl (.two (.cell 2 27 2 9 true (api_Caps.cells ((caps_parts1 b (⟨false, 0, false, false, 0, false, false, false, 0⟩ : api_Caps)).2)) (.agg (api_Caps.cells ((caps_parts1 b (⟨false, 0, false, false, 0, false, false, false, 0⟩ : api_Caps)).2))) rfl rfl ty27 rfl rfl rfl) (.one (.rfl _)) rfl (.tmp 3 (.sc (.bool true)) rfl) (.one (.rfl _)) rfl) trivial trivial
theorem caps_Decode_pf (b : List Int) (ok_b : gdL (okI .u8) b) : PF Try.prog 33 [.sem (SL (eI .u8) b)] (.tup [.agg (api_Caps.cells ((caps_Decode b).1)), .sc (.bool ((caps_Decode b).2))]) := pf_ofG (caps_Decode_pf_g b ok_b) rfl
end Go.Proofs.Ytnpipeihomebhaa
