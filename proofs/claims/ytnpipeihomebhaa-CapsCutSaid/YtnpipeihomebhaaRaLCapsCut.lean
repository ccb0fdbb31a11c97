/- The statement CapsCut of this seat is proved: the function of that name hands back true at whatever input it is given, and never panics. No condition beyond those of the given statement. -/
import Derived.Test.YtnpipeihomebhaaRaPCaps
import Derived.Test.YtnpipeihomebhaaRows
import Derived.RowKit
namespace Go.Proofs.Ytnpipeihomebhaa
open Go.Ab
set_option linter.unusedSimpArgs false
set_option linter.unusedVariables false
/-- interregnum/interregnumlaw08.CapsCut -/
def CapsCut_s (a0 : api_Caps) (a1 : Int) (a2 : Int) : Bool :=
  (bif decide ((((ref05_Caps a0).length : Int) : Int) = 0) then
    law08_answers
  else
    (law08_answers && (decide (((caps_Decode (sub (ref05_Caps a0) 0 (Int.tmod (IntKind.wrap .i64 a1) ((ref05_Caps a0).length : Int)))).2) = (decide (((Int.tmod (IntKind.wrap .i64 a1) ((ref05_Caps a0).length : Int)) : Int) = 0))))) && (!((caps_Decode ((([] : List Int) ++ (ref05_Caps a0)) ++ [a2])).2)))
set_option maxRecDepth 100000 in
set_option maxHeartbeats 4000000 in
theorem CapsCut_s_pf_g (a0 : api_Caps) (a1 : Int) (a2 : Int) (ok_a1 : okI .u8 a1) (ok_a2 : okI .u8 a2) : PG Try.prog 13 [] [] [.agg (api_Caps.cells a0), .sc (.int .u8 a1), .sc (.int .u8 a2)] (fun _ : Unit => True) (fun _ => (fun (z : Bool) => ⟨[], [], .sc (.bool z)⟩) (CapsCut_s a0 a1 a2)) := by
  refine pg_of (N := 52) (l := [.tmp 6]) Try.func13 rfl rfl rfl (Nat.le_of_ble_eq_true rfl) fun w0 i0 F βs => ?_
  have hr_a1 := okI8.1 ok_a1
  have hr_a2 := okI8.1 ok_a2
  refine aw_seq ?_
  refine aw_region ?_
  refine al_op rfl (g_box (s := 3) (p := .agg (api_Caps.cells a0)) (qs := (api_Caps.cells a0)) rfl rfl rfl rfl rfl rfl rfl) ?_
  refine al_op rfl (g_assign (p := .sc (.bool false)) rfl rfl rfl rfl) ?_
  refine al_nil ?_
  refine aw_seq ?_
  refine aw_region ?_
  refine al_op rfl (g_load (s := 3) (off := 0) (ps := (api_Caps.cells a0)) (p := .agg (api_Caps.cells a0)) rfl rfl rfl ty27 rfl rfl rfl rfl rfl) ?_
  have hm1 := Caps_len42 a0
  refine al_op rfl (g_call (fn := Try.f31) (xs := [.tmp 13]) (args := [.agg (api_Caps.cells a0)]) (r := .sem (SL (eI .u8) (ref05_Caps a0))) rfl rfl rfl Try.func31 rfl rfl rfl rfl rfl (ref05_Caps_pf a0)) ?_
  refine al_op rfl (g_assign (p := .sem (SL (eI .u8) (ref05_Caps a0))) rfl rfl rfl rfl) ?_
  refine al_nil ?_
  refine aw_seq ?_
  refine aw_seq ?_
  refine aw_region ?_
  refine al_op rfl (g_move (p := .sem (SL (eI .u8) (ref05_Caps a0))) rfl rfl rfl rfl) ?_
  refine al_op rfl (g_len rfl rfl rfl Try.underlying36 (isSl_sem rfl)) ?_
  refine al_op rfl (g_bin (u1 := .int .i64 ((ref05_Caps a0).length : Int)) (u2 := .int .i64 0) (v := .bool (decide ((((ref05_Caps a0).length : Int) : Int) = 0))) rfl rfl rfl rfl rfl (fun _ => rfl)) ?_
  refine al_nil ?_
  refine aw_cond (b := decide ((((ref05_Caps a0).length : Int) : Int) = 0)) rfl (fun k2 => ?_) (fun k2 => ?_)
  · skip
    refine aw_seq ?_
    refine aw_region ?_
    refine al_op rfl (g_call (fn := Try.f32) (xs := []) (args := []) (r := .sc (.bool law08_answers)) rfl rfl rfl Try.func32 rfl rfl rfl rfl rfl (law08_answers_pf)) ?_
    refine al_op rfl (g_assign (p := .sc (.bool law08_answers)) rfl rfl rfl rfl) ?_
    refine al_nil ?_
    refine aw_ret ?_
    exact endG_mk (F := (fun (z : Bool) => ⟨[], [], .sc (.bool z)⟩)) (z := (CapsCut_s a0 a1 a2)) (v := law08_answers) (bT k2 rfl) rfl (.one (.tmp 6 (.sc (.bool law08_answers)) rfl) (.one (.rfl _)) rfl) trivial trivial
  · skip
    refine aw_skip ?_
    refine aw_seq ?_
    refine aw_region ?_
    refine al_op rfl (g_move (p := .sc (.int .u8 a1)) rfl rfl rfl rfl) ?_
    refine al_op rfl (g_conv (m := (IntKind.wrap .i64 a1)) rfl rfl rfl Try.underlying5 Try.underlying3 rfl rfl) ?_
    refine al_op rfl (g_move (p := .sem (SL (eI .u8) (ref05_Caps a0))) rfl rfl rfl rfl) ?_
    refine al_op rfl (g_len rfl rfl rfl Try.underlying36 (isSl_sem rfl)) ?_
    have hq3 := tmod_rng (IntKind.wrap .i64 a1) ((ref05_Caps a0).length : Int) (by first | omega | ((try simp only [z1, z2, z3, z4, z5, z6, z7, z8, z9, zA, zB, zC, zD, wrap64, wrapu8, wrapu16, wrapu32, wrapu64, tmod_ite, tdiv_ite, sub_len, region_Put_len, ref01_Four_len, ref05_cut_len] at *); omega) | ((try simp only [z1, z2, z3, z4, z5, z6, z7, z8, z9, zA, tmod_ite, tdiv_ite, sub_len, region_Put_len, ref01_Four_len, ref05_cut_len] at *); (try simp (disch := omega) only [wrap64_id]); (try simp only [z1, z2, z3, z4, z5, z6, z7, z8, z9, zA, zB, zC, zD, wrap64, wrapu8, wrapu16, wrapu32, wrapu64, tmod_ite, tdiv_ite, sub_len] at *); omega)) (by first | omega | ((try simp only [z1, z2, z3, z4, z5, z6, z7, z8, z9, zA, zB, zC, zD, wrap64, wrapu8, wrapu16, wrapu32, wrapu64, tmod_ite, tdiv_ite, sub_len, region_Put_len, ref01_Four_len, ref05_cut_len] at *); omega) | ((try simp only [z1, z2, z3, z4, z5, z6, z7, z8, z9, zA, tmod_ite, tdiv_ite, sub_len, region_Put_len, ref01_Four_len, ref05_cut_len] at *); (try simp (disch := omega) only [wrap64_id]); (try simp only [z1, z2, z3, z4, z5, z6, z7, z8, z9, zA, zB, zC, zD, wrap64, wrapu8, wrapu16, wrapu32, wrapu64, tmod_ite, tdiv_ite, sub_len] at *); omega))
    refine al_op rfl (g_bin (u1 := .int .i64 (IntKind.wrap .i64 a1)) (u2 := .int .i64 ((ref05_Caps a0).length : Int)) (v := .int .i64 (Int.tmod (IntKind.wrap .i64 a1) ((ref05_Caps a0).length : Int))) rfl rfl rfl rfl rfl (fun w => rem_run (show ((ref05_Caps a0).length : Int) ≠ 0 from (by first | omega | ((try simp only [z1, z2, z3, z4, z5, z6, z7, z8, z9, zA, zB, zC, zD, wrap64, wrapu8, wrapu16, wrapu32, wrapu64, tmod_ite, tdiv_ite, sub_len, region_Put_len, ref01_Four_len, ref05_cut_len] at *); omega) | ((try simp only [z1, z2, z3, z4, z5, z6, z7, z8, z9, zA, tmod_ite, tdiv_ite, sub_len, region_Put_len, ref01_Four_len, ref05_cut_len] at *); (try simp (disch := omega) only [wrap64_id]); (try simp only [z1, z2, z3, z4, z5, z6, z7, z8, z9, zA, zB, zC, zD, wrap64, wrapu8, wrapu16, wrapu32, wrapu64, tmod_ite, tdiv_ite, sub_len] at *); omega))) w)) ?_
    refine al_op rfl (g_assign (p := .sc (.int .i64 (Int.tmod (IntKind.wrap .i64 a1) ((ref05_Caps a0).length : Int)))) rfl rfl rfl rfl) ?_
    refine al_nil ?_
    refine aw_seq ?_
    refine aw_region ?_
    refine al_op rfl (g_move (p := .sem (SL (eI .u8) (ref05_Caps a0))) rfl rfl rfl rfl) ?_
    refine al_op rfl (g_move (p := .sc (.int .i64 (Int.tmod (IntKind.wrap .i64 a1) ((ref05_Caps a0).length : Int)))) rfl rfl rfl rfl) ?_
    refine al_op rfl (step_slice (E := (eI .u8)) (l := (ref05_Caps a0)) (i := 0) (j := (Int.tmod (IntKind.wrap .i64 a1) ((ref05_Caps a0).length : Int))) rfl rfl rfl Try.underlying36 ty5 (isSl_sem rfl) (isB_none rfl) (isB_some rfl) (show 0 ≤ 0 ∧ 0 ≤ (Int.tmod (IntKind.wrap .i64 a1) ((ref05_Caps a0).length : Int)) ∧ (Int.tmod (IntKind.wrap .i64 a1) ((ref05_Caps a0).length : Int)) ≤ ((ref05_Caps a0).length : Int) from (by first | omega | ((try simp only [z1, z2, z3, z4, z5, z6, z7, z8, z9, zA, zB, zC, zD, wrap64, wrapu8, wrapu16, wrapu32, wrapu64, tmod_ite, tdiv_ite, sub_len, region_Put_len, ref01_Four_len, ref05_cut_len] at *); omega) | ((try simp only [z1, z2, z3, z4, z5, z6, z7, z8, z9, zA, tmod_ite, tdiv_ite, sub_len, region_Put_len, ref01_Four_len, ref05_cut_len] at *); (try simp (disch := omega) only [wrap64_id]); (try simp only [z1, z2, z3, z4, z5, z6, z7, z8, z9, zA, zB, zC, zD, wrap64, wrapu8, wrapu16, wrapu32, wrapu64, tmod_ite, tdiv_ite, sub_len] at *); omega)))) ?_
    refine al_op rfl (g_call (fn := Try.f33) (xs := [.tmp 27]) (args := [.sem (SL (eI .u8) (sub (ref05_Caps a0) 0 (Int.tmod (IntKind.wrap .i64 a1) ((ref05_Caps a0).length : Int))))]) (r := .tup [.agg (api_Caps.cells ((caps_Decode (sub (ref05_Caps a0) 0 (Int.tmod (IntKind.wrap .i64 a1) ((ref05_Caps a0).length : Int)))).1)), .sc (.bool ((caps_Decode (sub (ref05_Caps a0) 0 (Int.tmod (IntKind.wrap .i64 a1) ((ref05_Caps a0).length : Int)))).2))]) rfl rfl rfl Try.func33 rfl rfl rfl rfl rfl (caps_Decode_pf (sub (ref05_Caps a0) 0 (Int.tmod (IntKind.wrap .i64 a1) ((ref05_Caps a0).length : Int))) (gdL_sub (ref05_Caps_ok a0)))) ?_
    refine al_op rfl (g_move (p := .tup [.agg (api_Caps.cells ((caps_Decode (sub (ref05_Caps a0) 0 (Int.tmod (IntKind.wrap .i64 a1) ((ref05_Caps a0).length : Int)))).1)), .sc (.bool ((caps_Decode (sub (ref05_Caps a0) 0 (Int.tmod (IntKind.wrap .i64 a1) ((ref05_Caps a0).length : Int)))).2))]) rfl rfl rfl rfl) ?_
    refine al_op rfl (g_extract (ps := [.agg (api_Caps.cells ((caps_Decode (sub (ref05_Caps a0) 0 (Int.tmod (IntKind.wrap .i64 a1) ((ref05_Caps a0).length : Int)))).1)), .sc (.bool ((caps_Decode (sub (ref05_Caps a0) 0 (Int.tmod (IntKind.wrap .i64 a1) ((ref05_Caps a0).length : Int)))).2))]) (p := .agg (api_Caps.cells ((caps_Decode (sub (ref05_Caps a0) 0 (Int.tmod (IntKind.wrap .i64 a1) ((ref05_Caps a0).length : Int)))).1))) rfl rfl rfl rfl rfl) ?_
    refine al_op rfl (g_extract (ps := [.agg (api_Caps.cells ((caps_Decode (sub (ref05_Caps a0) 0 (Int.tmod (IntKind.wrap .i64 a1) ((ref05_Caps a0).length : Int)))).1)), .sc (.bool ((caps_Decode (sub (ref05_Caps a0) 0 (Int.tmod (IntKind.wrap .i64 a1) ((ref05_Caps a0).length : Int)))).2))]) (p := .sc (.bool ((caps_Decode (sub (ref05_Caps a0) 0 (Int.tmod (IntKind.wrap .i64 a1) ((ref05_Caps a0).length : Int)))).2))) rfl rfl rfl rfl rfl) ?_
    refine al_op rfl (g_alloc (s := 9) (z := zv27) (qs := zc27) rfl rfl rfl rfl z27 rfl rfl) ?_
    refine al_op rfl (g_store (s := 9) (off := 0) (ps := zc27) (p := .agg (api_Caps.cells ((caps_Decode (sub (ref05_Caps a0) 0 (Int.tmod (IntKind.wrap .i64 a1) ((ref05_Caps a0).length : Int)))).1))) (qs := (api_Caps.cells ((caps_Decode (sub (ref05_Caps a0) 0 (Int.tmod (IntKind.wrap .i64 a1) ((ref05_Caps a0).length : Int)))).1))) rfl rfl ty27 rfl rfl rfl rfl rfl rfl rfl) ?_
    refine al_op rfl (g_assign (p := .sc (.bool ((caps_Decode (sub (ref05_Caps a0) 0 (Int.tmod (IntKind.wrap .i64 a1) ((ref05_Caps a0).length : Int)))).2))) rfl rfl rfl rfl) ?_
    refine al_nil ?_
    refine aw_seq ?_
    refine aw_region ?_
    refine al_op rfl (g_buildSlice (E := (eI .u8)) (l := ([] : List Int)) (tp := 32) (parts := []) (qs := []) rfl rfl rfl el36 rfl rfl rfl rfl) ?_
    refine al_op rfl (g_move (p := .sem (SL (eI .u8) (ref05_Caps a0))) rfl rfl rfl rfl) ?_
    refine al_op rfl (g_append (E := (eI .u8)) (l := ([] : List Int)) (ext := (ref05_Caps a0)) (tp := 32) rfl rfl rfl el36 rfl rfl (isSl_sem rfl) (by (try simp only [zB, zC, zD, sub_len, region_Put_len, ref01_Four_len, ref05_cut_len]); omega)) ?_
    refine al_op rfl (g_move (p := .sc (.int .u8 a2)) rfl rfl rfl rfl) ?_
    refine al_op rfl (g_buildSlice (E := (eI .u8)) (l := [a2]) (tp := 36) (parts := [(0, .tmp 35)]) (qs := [.sc (.int .u8 a2)]) rfl rfl rfl el36 rfl rfl rfl rfl) ?_
    refine al_op rfl (g_append (E := (eI .u8)) (l := (([] : List Int) ++ (ref05_Caps a0))) (ext := [a2]) (tp := 32) rfl rfl rfl el36 rfl rfl (isSl_own rfl) (by (try simp only [zB, zC, zD, sub_len, region_Put_len, ref01_Four_len, ref05_cut_len]); omega)) ?_
    refine al_op rfl (g_call (fn := Try.f33) (xs := [.tmp 37]) (args := [.sem (SL (eI .u8) ((([] : List Int) ++ (ref05_Caps a0)) ++ [a2]))]) (r := .tup [.agg (api_Caps.cells ((caps_Decode ((([] : List Int) ++ (ref05_Caps a0)) ++ [a2])).1)), .sc (.bool ((caps_Decode ((([] : List Int) ++ (ref05_Caps a0)) ++ [a2])).2))]) rfl rfl rfl Try.func33 rfl rfl rfl rfl rfl (caps_Decode_pf ((([] : List Int) ++ (ref05_Caps a0)) ++ [a2]) (gdL_app (gdL_app gdL_nil (ref05_Caps_ok a0)) (gdL_cons ok_a2 gdL_nil)))) ?_
    refine al_op rfl (g_move (p := .tup [.agg (api_Caps.cells ((caps_Decode ((([] : List Int) ++ (ref05_Caps a0)) ++ [a2])).1)), .sc (.bool ((caps_Decode ((([] : List Int) ++ (ref05_Caps a0)) ++ [a2])).2))]) rfl rfl rfl rfl) ?_
    refine al_op rfl (g_extract (ps := [.agg (api_Caps.cells ((caps_Decode ((([] : List Int) ++ (ref05_Caps a0)) ++ [a2])).1)), .sc (.bool ((caps_Decode ((([] : List Int) ++ (ref05_Caps a0)) ++ [a2])).2))]) (p := .agg (api_Caps.cells ((caps_Decode ((([] : List Int) ++ (ref05_Caps a0)) ++ [a2])).1))) rfl rfl rfl rfl rfl) ?_
    refine al_op rfl (g_extract (ps := [.agg (api_Caps.cells ((caps_Decode ((([] : List Int) ++ (ref05_Caps a0)) ++ [a2])).1)), .sc (.bool ((caps_Decode ((([] : List Int) ++ (ref05_Caps a0)) ++ [a2])).2))]) (p := .sc (.bool ((caps_Decode ((([] : List Int) ++ (ref05_Caps a0)) ++ [a2])).2))) rfl rfl rfl rfl rfl) ?_
    refine al_op rfl (g_alloc (s := 11) (z := zv27) (qs := zc27) rfl rfl rfl rfl z27 rfl rfl) ?_
    refine al_op rfl (g_store (s := 11) (off := 0) (ps := zc27) (p := .agg (api_Caps.cells ((caps_Decode ((([] : List Int) ++ (ref05_Caps a0)) ++ [a2])).1))) (qs := (api_Caps.cells ((caps_Decode ((([] : List Int) ++ (ref05_Caps a0)) ++ [a2])).1))) rfl rfl ty27 rfl rfl rfl rfl rfl rfl rfl) ?_
    refine al_op rfl (g_assign (p := .sc (.bool ((caps_Decode ((([] : List Int) ++ (ref05_Caps a0)) ++ [a2])).2))) rfl rfl rfl rfl) ?_
    refine al_nil ?_
    refine aw_seq ?_
    refine aw_region ?_
    refine al_op rfl (g_call (fn := Try.f32) (xs := []) (args := []) (r := .sc (.bool law08_answers)) rfl rfl rfl Try.func32 rfl rfl rfl rfl rfl (law08_answers_pf)) ?_
    refine al_op rfl (g_move (p := .sc (.bool law08_answers)) rfl rfl rfl rfl) ?_
    refine al_gW (C := law08_answers) (p := .sc (.bool ((caps_Decode (sub (ref05_Caps a0) 0 (Int.tmod (IntKind.wrap .i64 a1) ((ref05_Caps a0).length : Int)))).2))) (gd_T rfl rfl rfl rfl rfl) rfl rfl (fun g4 => g_move (p := .sc (.bool ((caps_Decode (sub (ref05_Caps a0) 0 (Int.tmod (IntKind.wrap .i64 a1) ((ref05_Caps a0).length : Int)))).2))) rfl rfl rfl rfl) ?_
    refine al_gW (C := law08_answers) (p := .sc (.int .i64 (Int.tmod (IntKind.wrap .i64 a1) ((ref05_Caps a0).length : Int)))) (gd_T rfl rfl rfl rfl rfl) rfl rfl (fun g5 => g_move (p := .sc (.int .i64 (Int.tmod (IntKind.wrap .i64 a1) ((ref05_Caps a0).length : Int)))) rfl rfl rfl rfl) ?_
    refine al_gW (C := law08_answers) (p := .sc (.bool (decide (((Int.tmod (IntKind.wrap .i64 a1) ((ref05_Caps a0).length : Int)) : Int) = 0)))) (gd_T rfl rfl rfl rfl rfl) rfl rfl (fun g6 => g_bin (u1 := .int .i64 (Int.tmod (IntKind.wrap .i64 a1) ((ref05_Caps a0).length : Int))) (u2 := .int .i64 0) (v := .bool (decide (((Int.tmod (IntKind.wrap .i64 a1) ((ref05_Caps a0).length : Int)) : Int) = 0))) rfl rfl rfl (gt (p := .sc (.int .i64 (Int.tmod (IntKind.wrap .i64 a1) ((ref05_Caps a0).length : Int)))) (q := .sc undef) g6) rfl (fun _ => rfl)) ?_
    refine al_gW (C := law08_answers) (p := .sc (.bool (decide (((caps_Decode (sub (ref05_Caps a0) 0 (Int.tmod (IntKind.wrap .i64 a1) ((ref05_Caps a0).length : Int)))).2) = (decide (((Int.tmod (IntKind.wrap .i64 a1) ((ref05_Caps a0).length : Int)) : Int) = 0)))))) (gd_T rfl rfl rfl rfl rfl) rfl rfl (fun g7 => g_eqB (a := ((caps_Decode (sub (ref05_Caps a0) 0 (Int.tmod (IntKind.wrap .i64 a1) ((ref05_Caps a0).length : Int)))).2)) (b := (decide (((Int.tmod (IntKind.wrap .i64 a1) ((ref05_Caps a0).length : Int)) : Int) = 0))) rfl rfl rfl Try.underlying4 (gt (p := .sc (.bool ((caps_Decode (sub (ref05_Caps a0) 0 (Int.tmod (IntKind.wrap .i64 a1) ((ref05_Caps a0).length : Int)))).2))) (q := .sc undef) g7) (gt (p := .sc (.bool (decide (((Int.tmod (IntKind.wrap .i64 a1) ((ref05_Caps a0).length : Int)) : Int) = 0)))) (q := .sc undef) g7)) ?_
    refine al_op rfl (g_andU (b := law08_answers) (y := decide (((caps_Decode (sub (ref05_Caps a0) 0 (Int.tmod (IntKind.wrap .i64 a1) ((ref05_Caps a0).length : Int)))).2) = (decide (((Int.tmod (IntKind.wrap .i64 a1) ((ref05_Caps a0).length : Int)) : Int) = 0)))) rfl rfl rfl rfl rfl) ?_
    refine al_op rfl (g_move (p := .sc (.bool (law08_answers && (decide (((caps_Decode (sub (ref05_Caps a0) 0 (Int.tmod (IntKind.wrap .i64 a1) ((ref05_Caps a0).length : Int)))).2) = (decide (((Int.tmod (IntKind.wrap .i64 a1) ((ref05_Caps a0).length : Int)) : Int) = 0))))))) rfl rfl rfl rfl) ?_
    refine al_gW (C := law08_answers && (decide (((caps_Decode (sub (ref05_Caps a0) 0 (Int.tmod (IntKind.wrap .i64 a1) ((ref05_Caps a0).length : Int)))).2) = (decide (((Int.tmod (IntKind.wrap .i64 a1) ((ref05_Caps a0).length : Int)) : Int) = 0))))) (p := .sc (.bool ((caps_Decode ((([] : List Int) ++ (ref05_Caps a0)) ++ [a2])).2))) (gd_T rfl rfl rfl rfl rfl) rfl rfl (fun g8 => g_move (p := .sc (.bool ((caps_Decode ((([] : List Int) ++ (ref05_Caps a0)) ++ [a2])).2))) rfl rfl rfl rfl) ?_
    refine al_gW (C := law08_answers && (decide (((caps_Decode (sub (ref05_Caps a0) 0 (Int.tmod (IntKind.wrap .i64 a1) ((ref05_Caps a0).length : Int)))).2) = (decide (((Int.tmod (IntKind.wrap .i64 a1) ((ref05_Caps a0).length : Int)) : Int) = 0))))) (p := .sc (.bool (!((caps_Decode ((([] : List Int) ++ (ref05_Caps a0)) ++ [a2])).2)))) (gd_T rfl rfl rfl rfl rfl) rfl rfl (fun g9 => g_un (u := .bool ((caps_Decode ((([] : List Int) ++ (ref05_Caps a0)) ++ [a2])).2)) (v := .bool (!((caps_Decode ((([] : List Int) ++ (ref05_Caps a0)) ++ [a2])).2))) rfl rfl rfl (gt (p := .sc (.bool ((caps_Decode ((([] : List Int) ++ (ref05_Caps a0)) ++ [a2])).2))) (q := .sc undef) g9) (fun _ => rfl)) ?_
    refine al_op rfl (g_andU (b := law08_answers && (decide (((caps_Decode (sub (ref05_Caps a0) 0 (Int.tmod (IntKind.wrap .i64 a1) ((ref05_Caps a0).length : Int)))).2) = (decide (((Int.tmod (IntKind.wrap .i64 a1) ((ref05_Caps a0).length : Int)) : Int) = 0))))) (y := !((caps_Decode ((([] : List Int) ++ (ref05_Caps a0)) ++ [a2])).2)) rfl rfl rfl rfl rfl) ?_
    refine al_op rfl (g_assign (p := .sc (.bool ((law08_answers && (decide (((caps_Decode (sub (ref05_Caps a0) 0 (Int.tmod (IntKind.wrap .i64 a1) ((ref05_Caps a0).length : Int)))).2) = (decide (((Int.tmod (IntKind.wrap .i64 a1) ((ref05_Caps a0).length : Int)) : Int) = 0))))) && (!((caps_Decode ((([] : List Int) ++ (ref05_Caps a0)) ++ [a2])).2))))) rfl rfl rfl rfl) ?_
    refine al_nil ?_
    refine aw_ret ?_
    exact endG_mk (F := (fun (z : Bool) => ⟨[], [], .sc (.bool z)⟩)) (z := (CapsCut_s a0 a1 a2)) (v := (law08_answers && (decide (((caps_Decode (sub (ref05_Caps a0) 0 (Int.tmod (IntKind.wrap .i64 a1) ((ref05_Caps a0).length : Int)))).2) = (decide (((Int.tmod (IntKind.wrap .i64 a1) ((ref05_Caps a0).length : Int)) : Int) = 0))))) && (!((caps_Decode ((([] : List Int) ++ (ref05_Caps a0)) ++ [a2])).2))) (bF k2 rfl) rfl (.one (.tmp 6 (.sc (.bool ((law08_answers && (decide (((caps_Decode (sub (ref05_Caps a0) 0 (Int.tmod (IntKind.wrap .i64 a1) ((ref05_Caps a0).length : Int)))).2) = (decide (((Int.tmod (IntKind.wrap .i64 a1) ((ref05_Caps a0).length : Int)) : Int) = 0))))) && (!((caps_Decode ((([] : List Int) ++ (ref05_Caps a0)) ++ [a2])).2))))) rfl) (.one (.rfl _)) rfl) trivial trivial
theorem CapsCut_s_pf (a0 : api_Caps) (a1 : Int) (a2 : Int) (ok_a1 : okI .u8 a1) (ok_a2 : okI .u8 a2) : PF Try.prog 13 [.agg (api_Caps.cells a0), .sc (.int .u8 a1), .sc (.int .u8 a2)] (.sc (.bool (CapsCut_s a0 a1 a2))) := pf_ofG (CapsCut_s_pf_g a0 a1 a2 ok_a1 ok_a2) rfl
theorem Decode_ok (b : List Int) (hb : gdL (okI .u8) b) (hs : b.length ≤ 1000000000000) (h : tlv b = none) : (caps_Decode b).2 = false := by
  rw [Decode_eq b hb hs, capRead, h]; rfl
theorem CapsCut_true (a0 : api_Caps) (a1 a2 : Int) (o0 : api_Caps.ok a0) (o1 : okI .u8 a1) (o2 : okI .u8 a2) : CapsCut_s a0 a1 a2 = true := by
  have ho := okI_u8 o1
  have hlen := Enc_len a0
  have hok := caps_Encode_ok a0
  unfold CapsCut_s
  rw [Caps_eq]
  by_cases h0 : (caps_Encode a0).length = 0
  · rw [decide_eq_true (by omega)]; exact answers08
  · rw [decide_eq_false (by omega)]
    have hg : GoodP a0 := by
      by_cases hg : GoodP a0
      · exact hg
      · rw [Encode_bad a0 hg] at h0; exact absurd rfl h0
    obtain ⟨l, h1, _⟩ := tlvE a0 hg
    have hE := Encode_good a0 hg
    have hne : LB a0 ≠ [] := fun e => by rw [if_pos e] at hE; rw [hE] at h0; exact h0 rfl
    rw [if_neg hne] at hE
    have hw : IntKind.wrap .i64 a1 = a1 := wrap64_id (by omega)
    have hm : Int.tmod a1 ((caps_Encode a0).length : Int) = a1 % ((caps_Encode a0).length : Int) := by rw [tmod_ite, if_pos ho.1]
    rw [hw, hm, answers08]
    obtain ⟨k, hk⟩ := Int.eq_ofNat_of_zero_le (Int.emod_nonneg a1 (show ((caps_Encode a0).length : Int) ≠ 0 by omega))
    have hlt := Int.emod_lt_of_pos a1 (show (0 : Int) < ((caps_Encode a0).length : Int) by omega)
    rw [hk] at hlt ⊢
    have e2 : (caps_Decode ((([] : List Int) ++ (caps_Encode a0)) ++ [a2])).2 = false := by
      refine Decode_ok _ (gdL_app (gdL_app gdL_nil hok) (gdL_cons o2 gdL_nil)) (by simp; omega) ?_
      rw [List.nil_append, tlv_app h1, tlv]
      rfl
    rw [e2]
    have hsub : sub (caps_Encode a0) 0 (k : Int) = (caps_Encode a0).take k := by unfold sub; rfl
    rw [hsub]
    by_cases hk0 : k = 0
    · subst hk0
      rw [List.take_zero, Decode_eq [] gdL_nil (by simp), capRead, tlv_nil]
      rfl
    · have e1 : (caps_Decode ((caps_Encode a0).take k)).2 = false := by
        refine Decode_ok _ (fun x hx => hok x (List.mem_of_mem_take hx)) (by simp; omega) ?_
        rw [hE] at hlt ⊢
        match k, hk0 with
        | 1, _ => rw [List.take_succ_cons, List.take_zero, tlv]
        | k + 2, _ =>
          rw [List.take_succ_cons, List.take_succ_cons, tlv, if_neg]
          simp only [List.length_cons, List.length_take] at hlt ⊢
          omega
      rw [e1, decide_eq_false (p := (k : Int) = 0) (by omega)]
      rfl
theorem CapsCut_ok (a0 : api_Caps) (a1 : Int) (a2 : Int) (o0 : api_Caps.ok a0) (o1 : okI .u8 a1) (o2 : okI .u8 a2) : PF Try.prog 13 [.agg [.sc (.bool a0.fFour), .sc (.int .i64 a0.fAS4), .sc (.bool a0.fGR), .sc (.bool a0.fRestarting), .sc (.int .i64 a0.fTime), .sc (.bool a0.fFamily), .sc (.bool a0.fForward), .sc (.bool a0.fLL), .sc (.int .i64 a0.fLLTime)], .sc (.int .u8 a1), .sc (.int .u8 a2)] (.sc (.bool true)) := by
  have h := CapsCut_s_pf a0 a1 a2 o1 o2
  rw [CapsCut_true a0 a1 a2 o0 o1 o2] at h
  exact h
end Go.Proofs.Ytnpipeihomebhaa
namespace Go.Proofs.Ytnpipeihomebhaa.capsCut
open Go.Ab Go.ChangeShapes Go.WideShapes Go.ChangeAt Go.RowKit
open Go.ChangeMaps (open_string shut_string)
set_option linter.unusedVariables false
set_option linter.unusedSimpArgs false
theorem own : ownKnob Try.prog.godebug = none := by kernel_rfl
theorem laidOut : laidOutB Try.prog = true := by kernel_rfl
set_option maxRecDepth 100000 in
theorem lifted (os : Os) (started : os.Started) (H : Type) (enc : TypeId × Value → H) :
    ReturnsInHanded {} Try.checked os 13 .any (Rows.capsCutSpec.pre6 enc Try.prog Try.f13 Rows.capsCutRow.domain false) (Rows.capsCutSpec.post enc Try.prog Try.f13 false true false false) := by
  refine returnsInHanded_of_change_sized (C := Try.checked) own started (by kernel_rfl) Try.func13
    (ChangeSpec.witness6 (enc := enc) (C := Try.checked) false ⟨#[], #[.agg #[.bool false, .int .i64 0, .bool false, .bool false, .int .i64 0, .bool false, .bool false, .bool false, .int .i64 0], .int .u8 0, .int .u8 0], []⟩ 8 (by kernel_rfl) (by kernel_rfl) (by kernel_rfl) (by kernel_rfl)) ?_
  intro W base args ds gs before hval0 hW hcnd hsz0 _
  have hsz : (DataW.weightsEach Try.prog (Try.f13.params.toList ++ Rows.capsCutSpec.plain.varTypes Try.prog) (ds ++ gs)).all (· ≤ reachBytes) = true := hsz0
  have hval : ∀ (j : Nat) t v, Try.f13.params[j]? = some t → args[j]? = some v → Value.okWide Try.prog W .any base t v := hval0
  have hW' := hW
  obtain ⟨p, q, hA0, hV, rfl, hfz, hnd⟩ := hW
  have hA : DataW.TrodAll enc Try.prog W 0 (fun _ => true) true Try.f13.params.toList args.toList ds p := hA0
  rw [Try.params13] at hA hval hsz
  obtain ⟨v0, vs0, d0, ds0, p0, q0, hargs, rfl, rfl, h0, r0⟩ := trodAll_cons hA
  obtain ⟨v1, vs1, d1, ds1, p1, q1, rfl, rfl, rfl, h1, r1⟩ := trodAll_cons r0
  obtain ⟨v2, vs2, d2, ds2, p2, q2, rfl, rfl, rfl, h2, r2⟩ := trodAll_cons r1
  obtain ⟨rfl, rfl, rfl⟩ := trodAll_nil r2
  obtain rfl : args = #[v0, v1, v2] := by cases args; simp_all
  obtain ⟨rfl, rfl⟩ := trodVars_none hV
  have k0 := h0
  have lt0 : ∀ x ∈ p0, x.block < W.heap.size := by obtain ⟨m, hm⟩ := k0; exact DataW.trod_lt m _ _ _ hm
  obtain ⟨c0, rfl⟩ := okWide_agg Try.underlying27 (hval 0 27 v0 rfl rfl)
  obtain ⟨fuel0, e0⟩ := h0
  obtain ⟨x0, g0, o0⟩ := rd27 H enc W fuel0 _ d0 p0 e0 (by rw [List.all_eq_true] at hsz ⊢; exact fun z hz => hsz z (DataW.weights_mem_each (j := 0) rfl rfl z hz))
  have k1 := h1
  have lt1 : ∀ x ∈ p1, x.block < W.heap.size := by obtain ⟨m, hm⟩ := k1; exact DataW.trod_lt m _ _ _ hm
  obtain ⟨x1, rfl, -, -, o1⟩ := open_int Try.underlying5 (hval 1 5 v1 rfl rfl) h1
  have k2 := h2
  have lt2 : ∀ x ∈ p2, x.block < W.heap.size := by obtain ⟨m, hm⟩ := k2; exact DataW.trod_lt m _ _ _ hm
  obtain ⟨x2, rfl, -, -, o2⟩ := open_int Try.underlying5 (hval 2 5 v2 rfl rfl) h2
  clear hA0 hval0 hsz0 hsz
  refine ((CapsCut_ok x0 x1 x2 o0 o1 o2) (immOf W) W [_, _, _] (immOk_of W) ⟨_, _, rfl, ⟨c0.toList, by simp, g0⟩, ⟨_, _, rfl, rfl, ⟨_, _, rfl, rfl, rfl⟩⟩⟩).mono ?_
  rintro e W' ⟨v, imm', rfl, -, -, -, hv, bel⟩
  obtain rfl : v = .bool true := hv
  exact ⟨_, rfl, _, _, _, [], _, [], hW', trodAll_mk1 (shut_bool Try.underlying4 _), (trodAll_cons_mk (Below.trod laidOut (by kernel_rfl) (of_decide_eq_true (by kernel_rfl)) k0 bel lt0) (trodAll_cons_mk (Below.trod laidOut (by kernel_rfl) (of_decide_eq_true (by kernel_rfl)) k1 bel lt1) (trodAll_cons_mk (Below.trod laidOut (by kernel_rfl) (of_decide_eq_true (by kernel_rfl)) k2 bel lt2) trodAll_mk0))), rfl, bel.frame _, fun h => by cases h⟩
theorem over : Rows.capsCutRow.holds Try.pinned (OpenSpec.ofChange Rows.capsCutSpec) :=
  OpenClaim.holds_of_wide 13 Try.f13 rfl rfl rfl rfl rfl rfl rfl ⟨rfl, rfl, rfl, rfl, rfl⟩ rfl rfl rfl rfl rfl (by kernel_rfl) Try.func13 (by kernel_rfl)
    (of_decide_eq_true (by kernel_rfl)) (by unfold Func.isWrapper; first | (rw [if_pos (by decide +kernel)]; kernel_rfl) | (rw [if_neg (by decide +kernel)]; exact ⟨rfl, rfl⟩))
    (fun os started H enc _ => lifted os started H enc)
theorem proved : Rows.CapsCutSaid := over
#print axioms proved
end Go.Proofs.Ytnpipeihomebhaa.capsCut
