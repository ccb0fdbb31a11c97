/- The statement MsgMarker of this seat is proved: the function of that name hands back true at whatever input it is given, and never panics. No condition beyond those of the given statement. -/
import Derived.Test.YtepnimdjcnjlfaaDoorRcPMsg
import Derived.Test.YtepnimdjcnjlfaaDoorRows
import Derived.Test.YtepnimdjcnjlfaaDoorCards
import Derived.Test.YtepnimdjcnjlfaaDoorTie
import Derived.ProofKit
import Derived.LaidMore
import Derived.OpenShut
import Derived.Stop.Joined
import Derived.SevenTiedAt
import Derived.RowKit
namespace Go.Proofs.YtepnimdjcnjlfaaDoor
open Go.Ab
set_option linter.unusedSimpArgs false
set_option linter.unusedVariables false
/-- interregnum/interregnumlaw09.MsgMarker -/
def MsgMarker_s (b : List Int) (at_ : Int) (c : Int) : Bool :=
  (bif ((decide (((b.length : Int) : Int) < 19)) || (decide ((5000 : Int) < (b.length : Int)))) || (decide ((c : Int) = 255)) then
    law09_answers
  else
    (((law09_answers && (decide ((((msg_Head (List.set b (Int.toNat (Int.tmod at_ 16)) c)).2).fCode : Int) = 1))) && (decide ((((msg_Head (List.set b (Int.toNat (Int.tmod at_ 16)) c)).2).fSub : Int) = 1))) && (decide ((((((msg_Head (List.set b (Int.toNat (Int.tmod at_ 16)) c)).2).fData).length : Int) : Int) = 0))) && (ref05_SameNote ((msg_Head (List.set b (Int.toNat (Int.tmod at_ 16)) c)).2) ((msg_DecodeB (List.set b (Int.toNat (Int.tmod at_ 16)) c)).2)))
set_option maxRecDepth 100000 in
set_option maxHeartbeats 4000000 in
theorem MsgMarker_s_pf_g (b : List Int) (at_ : Int) (c : Int) (ok_at_ : okI .u8 at_) (ok_c : okI .u8 c) : PG Tryd.prog 3 [] [] [.sem (SL (eI .u8) b), .sc (.int .u8 at_), .sc (.int .u8 c)] (fun _ : Unit => True) (fun _ => (fun (z : Bool) => ⟨[], [], .sc (.bool z)⟩) (MsgMarker_s b at_ c)) := by
  refine pg_of (N := 65) (l := [.tmp 6]) Tryd.func3 rfl rfl rfl (Nat.le_of_ble_eq_true rfl) fun w0 i0 F βs => ?_
  have hr_at_ := okI8.1 ok_at_
  have hr_c := okI8.1 ok_c
  refine aw_seq ?_
  refine aw_region ?_
  refine al_op rfl (g_assign (p := .sc (.bool false)) rfl rfl rfl rfl) ?_
  refine al_nil ?_
  refine aw_seq ?_
  refine aw_seq ?_
  refine aw_region ?_
  refine al_op rfl (g_move (p := .sem (SL (eI .u8) b)) rfl rfl rfl rfl) ?_
  refine al_op rfl (g_len rfl rfl rfl Tryd.underlying22 (isSl_sem rfl)) ?_
  refine al_op rfl (g_bin (u1 := .int .i64 (b.length : Int)) (u2 := .int .i64 19) (v := .bool (decide (((b.length : Int) : Int) < 19))) rfl rfl rfl rfl rfl (fun _ => rfl)) ?_
  refine al_op rfl (g_move (p := .sc (.bool (decide (((b.length : Int) : Int) < 19)))) rfl rfl rfl rfl) ?_
  refine al_gW (C := !(decide (((b.length : Int) : Int) < 19))) (p := .sem (SL (eI .u8) b)) (gd_F (b := decide (((b.length : Int) : Int) < 19)) (c := !(decide (((b.length : Int) : Int) < 19))) rfl rfl rfl rfl rfl rfl) rfl rfl (fun g1 => g_move (p := .sem (SL (eI .u8) b)) rfl rfl rfl rfl) ?_
  refine al_gW (C := !(decide (((b.length : Int) : Int) < 19))) (p := .sc (.int .i64 (b.length : Int))) (gd_F (b := decide (((b.length : Int) : Int) < 19)) (c := !(decide (((b.length : Int) : Int) < 19))) rfl rfl rfl rfl rfl rfl) rfl rfl (fun g2 => g_len rfl rfl rfl Tryd.underlying22 (by exact (isSl_sem (by exact (gt (p := .sem (SL (eI .u8) b)) (q := .sc undef) g2))))) ?_
  refine al_gW (C := !(decide (((b.length : Int) : Int) < 19))) (p := .sc (.bool (decide ((5000 : Int) < (b.length : Int))))) (gd_F (b := decide (((b.length : Int) : Int) < 19)) (c := !(decide (((b.length : Int) : Int) < 19))) rfl rfl rfl rfl rfl rfl) rfl rfl (fun g3 => g_bin (u1 := .int .i64 (b.length : Int)) (u2 := .int .i64 5000) (v := .bool (decide ((5000 : Int) < (b.length : Int)))) rfl rfl rfl (gt (p := .sc (.int .i64 (b.length : Int))) (q := .sc undef) g3) rfl (fun _ => rfl)) ?_
  refine al_op rfl (g_orU (b := decide (((b.length : Int) : Int) < 19)) (y := decide ((5000 : Int) < (b.length : Int))) rfl rfl rfl rfl rfl rfl) ?_
  refine al_op rfl (g_move (p := .sc (.bool ((decide (((b.length : Int) : Int) < 19)) || (decide ((5000 : Int) < (b.length : Int)))))) rfl rfl rfl rfl) ?_
  refine al_gW (C := !((decide (((b.length : Int) : Int) < 19)) || (decide ((5000 : Int) < (b.length : Int))))) (p := .sc (.int .u8 c)) (gd_F (b := (decide (((b.length : Int) : Int) < 19)) || (decide ((5000 : Int) < (b.length : Int)))) (c := !((decide (((b.length : Int) : Int) < 19)) || (decide ((5000 : Int) < (b.length : Int))))) rfl rfl rfl rfl rfl rfl) rfl rfl (fun g4 => g_move (p := .sc (.int .u8 c)) rfl rfl rfl rfl) ?_
  refine al_gW (C := !((decide (((b.length : Int) : Int) < 19)) || (decide ((5000 : Int) < (b.length : Int))))) (p := .sc (.bool (decide ((c : Int) = 255)))) (gd_F (b := (decide (((b.length : Int) : Int) < 19)) || (decide ((5000 : Int) < (b.length : Int)))) (c := !((decide (((b.length : Int) : Int) < 19)) || (decide ((5000 : Int) < (b.length : Int))))) rfl rfl rfl rfl rfl rfl) rfl rfl (fun g5 => g_bin (u1 := .int .u8 c) (u2 := .int .u8 255) (v := .bool (decide ((c : Int) = 255))) rfl rfl rfl (gt (p := .sc (.int .u8 c)) (q := .sc undef) g5) rfl (fun _ => rfl)) ?_
  refine al_op rfl (g_orU (b := (decide (((b.length : Int) : Int) < 19)) || (decide ((5000 : Int) < (b.length : Int)))) (y := decide ((c : Int) = 255)) rfl rfl rfl rfl rfl rfl) ?_
  refine al_nil ?_
  refine aw_cond (b := ((decide (((b.length : Int) : Int) < 19)) || (decide ((5000 : Int) < (b.length : Int)))) || (decide ((c : Int) = 255))) rfl (fun k6 => ?_) (fun k6 => ?_)
  · skip
    refine aw_seq ?_
    refine aw_region ?_
    refine al_op rfl (g_call (fn := Tryd.f5) (xs := []) (args := []) (r := .sc (.bool law09_answers)) rfl rfl rfl Tryd.func5 rfl rfl rfl rfl rfl (law09_answers_pf)) ?_
    refine al_op rfl (g_assign (p := .sc (.bool law09_answers)) rfl rfl rfl rfl) ?_
    refine al_nil ?_
    refine aw_ret ?_
    exact endG_mk (F := (fun (z : Bool) => ⟨[], [], .sc (.bool z)⟩)) (z := (MsgMarker_s b at_ c)) (v := law09_answers) (bT k6 rfl) rfl (.one (.tmp 6 (.sc (.bool law09_answers)) rfl) (.one (.rfl _)) rfl) trivial trivial
  · skip
    refine aw_skip ?_
    refine aw_seq ?_
    refine aw_region ?_
    refine al_op rfl (g_litArr (E := (eI .u8)) (l := []) (s := 5025) (parts := []) (qs := []) rfl rfl rfl rfl el22 rfl rfl rfl rfl (fun _ => rfl) (fun _ => rfl)) ?_
    refine al_op rfl (g_move (p := .sem (SL (eI .u8) b)) rfl rfl rfl rfl) ?_
    refine al_opX rfl (g_appArr (E := (eI .u8)) (l := b) (s := 6027) (s0 := 5025) (off := 0) rfl rfl rfl rfl el22 rfl (isSl_sem rfl) (by first | omega | ((try simp only [z1, z2, z3, z4, z5, z6, z7, z8, z9, zA, zB, zC, zD, wrap64, wrapu8, wrapu16, wrapu32, wrapu64, tmod_ite, tdiv_ite, sub_len, msg_two_len, rep16_len] at *); omega) | ((try simp only [z1, z2, z3, z4, z5, z6, z7, z8, z9, zA, tmod_ite, tdiv_ite, sub_len, msg_two_len, rep16_len] at *); (try simp (disch := omega) only [wrap64_id]); (try simp only [z1, z2, z3, z4, z5, z6, z7, z8, z9, zA, zB, zC, zD, wrap64, wrapu8, wrapu16, wrapu32, wrapu64, tmod_ite, tdiv_ite, sub_len] at *); omega)) (by first | ((try simp only [zB, zC, zD, sub_len, msg_two_len, rep16_len]); omega) | ((try simp only [z1, z2, z3, z4, z5, z6, z7, z8, z9, zA, zB, zC, zD, wrap64, wrapu8, wrapu16, wrapu32, wrapu64, tmod_ite, tdiv_ite, sub_len, msg_two_len, rep16_len] at *); omega)) (fun _ => rfl) (fun _ => rfl)) (fun cap27 hcap27 => ?_)
    refine al_op rfl (g_assign (p := .arr 6027 0 (List.length b) cap27) rfl rfl rfl rfl) ?_
    refine al_nil ?_
    refine aw_seq ?_
    refine aw_region ?_
    refine al_op rfl (g_move (p := .arr 6027 0 (List.length b) cap27) rfl rfl rfl rfl) ?_
    refine al_op rfl (g_move (p := .sc (.int .u8 at_)) rfl rfl rfl rfl) ?_
    refine al_op rfl (g_bin (u1 := .int .u8 at_) (u2 := .int .u8 16) (v := .int .u8 (Int.tmod at_ 16)) rfl rfl rfl rfl rfl (fun _ => rfl)) ?_
    refine al_op rfl (g_move (p := .sc (.int .u8 c)) rfl rfl rfl rfl) ?_
    refine al_op rfl (g_ixArr (s := 6027) (off := 0) (n := (List.length b)) (i := (Int.tmod at_ 16)) (sz := 1) (off' := Int.toNat (Int.tmod at_ 16) * 1) rfl rfl rfl Tryd.underlying22 ty5 rfl rfl (by first | omega | ((try simp only [z1, z2, z3, z4, z5, z6, z7, z8, z9, zA, zB, zC, zD, wrap64, wrapu8, wrapu16, wrapu32, wrapu64, tmod_ite, tdiv_ite, sub_len, msg_two_len, rep16_len] at *); omega) | ((try simp only [z1, z2, z3, z4, z5, z6, z7, z8, z9, zA, tmod_ite, tdiv_ite, sub_len, msg_two_len, rep16_len] at *); (try simp (disch := omega) only [wrap64_id]); (try simp only [z1, z2, z3, z4, z5, z6, z7, z8, z9, zA, zB, zC, zD, wrap64, wrapu8, wrapu16, wrapu32, wrapu64, tmod_ite, tdiv_ite, sub_len] at *); omega)) (Nat.zero_add _)) ?_
    refine al_op rfl (g_stArrT (E := (eI .u8)) (s := 6027) (l := b) (tl := List.replicate ((cap27 - (List.length b)) * 1) .any) (z := c) (p := .sc (.int .u8 c)) (Int.toNat (Int.tmod at_ 16)) rfl rfl ty5 rfl rfl rfl rfl (by (try simp only [List.length_set]); first | omega | (first | omega | ((try simp only [z1, z2, z3, z4, z5, z6, z7, z8, z9, zA, zB, zC, zD, wrap64, wrapu8, wrapu16, wrapu32, wrapu64, tmod_ite, tdiv_ite, sub_len, msg_two_len, rep16_len] at *); omega) | ((try simp only [z1, z2, z3, z4, z5, z6, z7, z8, z9, zA, tmod_ite, tdiv_ite, sub_len, msg_two_len, rep16_len] at *); (try simp (disch := omega) only [wrap64_id]); (try simp only [z1, z2, z3, z4, z5, z6, z7, z8, z9, zA, zB, zC, zD, wrap64, wrapu8, wrapu16, wrapu32, wrapu64, tmod_ite, tdiv_ite, sub_len] at *); omega))) rfl rfl) ?_
    refine al_nil ?_
    refine aw_seq ?_
    refine aw_freeze (E := (eI .u8)) (s := 6027) (d := 7) (n := (List.length b)) (c := cap27) (l := (List.set b (Int.toNat (Int.tmod at_ 16)) c)) (ps := (List.flatMap ((eI .u8)).pv (List.set b (Int.toNat (Int.tmod at_ 16)) c) ++ List.replicate ((cap27 - (List.length b)) * 1) .any)) rfl rfl (by first | rfl | simp only [List.length_set]) rfl (take_flat _ _) (fun _ => rfl) (by simp only [List.length_set]; omega) ?_
    refine aw_region ?_
    refine al_op rfl (g_move (p := .sem (SL (eI .u8) (List.set b (Int.toNat (Int.tmod at_ 16)) c))) rfl rfl rfl rfl) ?_
    refine al_op rfl (g_call (fn := Tryd.f6) (xs := [.tmp 34]) (args := [.sem (SL (eI .u8) (List.set b (Int.toNat (Int.tmod at_ 16)) c))]) (r := .tup [.sc (.int .i64 ((msg_Head (List.set b (Int.toNat (Int.tmod at_ 16)) c)).1)), .agg (api_Note.cells ((msg_Head (List.set b (Int.toNat (Int.tmod at_ 16)) c)).2))]) rfl rfl rfl Tryd.func6 rfl rfl rfl rfl rfl (msg_Head_pf (List.set b (Int.toNat (Int.tmod at_ 16)) c))) ?_
    refine al_op rfl (g_move (p := .tup [.sc (.int .i64 ((msg_Head (List.set b (Int.toNat (Int.tmod at_ 16)) c)).1)), .agg (api_Note.cells ((msg_Head (List.set b (Int.toNat (Int.tmod at_ 16)) c)).2))]) rfl rfl rfl rfl) ?_
    refine al_op rfl (g_extract (ps := [.sc (.int .i64 ((msg_Head (List.set b (Int.toNat (Int.tmod at_ 16)) c)).1)), .agg (api_Note.cells ((msg_Head (List.set b (Int.toNat (Int.tmod at_ 16)) c)).2))]) (p := .sc (.int .i64 ((msg_Head (List.set b (Int.toNat (Int.tmod at_ 16)) c)).1))) rfl rfl rfl rfl rfl) ?_
    refine al_op rfl (g_extract (ps := [.sc (.int .i64 ((msg_Head (List.set b (Int.toNat (Int.tmod at_ 16)) c)).1)), .agg (api_Note.cells ((msg_Head (List.set b (Int.toNat (Int.tmod at_ 16)) c)).2))]) (p := .agg (api_Note.cells ((msg_Head (List.set b (Int.toNat (Int.tmod at_ 16)) c)).2))) rfl rfl rfl rfl rfl) ?_
    refine al_op rfl (g_alloc (s := 9) (z := zv25) (qs := zc25) rfl rfl rfl rfl z25 rfl rfl) ?_
    refine al_op rfl (g_assign (p := .sc (.int .i64 ((msg_Head (List.set b (Int.toNat (Int.tmod at_ 16)) c)).1))) rfl rfl rfl rfl) ?_
    refine al_op rfl (g_store (s := 9) (off := 0) (ps := zc25) (p := .agg (api_Note.cells ((msg_Head (List.set b (Int.toNat (Int.tmod at_ 16)) c)).2))) (qs := (api_Note.cells ((msg_Head (List.set b (Int.toNat (Int.tmod at_ 16)) c)).2))) rfl rfl ty25 rfl rfl rfl rfl rfl rfl rfl) ?_
    refine al_nil ?_
    refine aw_seq ?_
    refine aw_region ?_
    refine al_op rfl (g_move (p := .sem (SL (eI .u8) (List.set b (Int.toNat (Int.tmod at_ 16)) c))) rfl rfl rfl rfl) ?_
    refine al_op rfl (g_call (fn := Tryd.f7) (xs := [.tmp 39]) (args := [.sem (SL (eI .u8) (List.set b (Int.toNat (Int.tmod at_ 16)) c))]) (r := .tup [.agg (api_Msg.cells ((msg_DecodeB (List.set b (Int.toNat (Int.tmod at_ 16)) c)).1)), .agg (api_Note.cells ((msg_DecodeB (List.set b (Int.toNat (Int.tmod at_ 16)) c)).2))]) rfl rfl rfl Tryd.func7 rfl rfl rfl rfl rfl (msg_DecodeB_pf (List.set b (Int.toNat (Int.tmod at_ 16)) c) (by exact marker_bad (by assumption) (by assumption) (by assumption)))) ?_
    refine al_op rfl (g_move (p := .tup [.agg (api_Msg.cells ((msg_DecodeB (List.set b (Int.toNat (Int.tmod at_ 16)) c)).1)), .agg (api_Note.cells ((msg_DecodeB (List.set b (Int.toNat (Int.tmod at_ 16)) c)).2))]) rfl rfl rfl rfl) ?_
    refine al_op rfl (g_extract (ps := [.agg (api_Msg.cells ((msg_DecodeB (List.set b (Int.toNat (Int.tmod at_ 16)) c)).1)), .agg (api_Note.cells ((msg_DecodeB (List.set b (Int.toNat (Int.tmod at_ 16)) c)).2))]) (p := .agg (api_Msg.cells ((msg_DecodeB (List.set b (Int.toNat (Int.tmod at_ 16)) c)).1))) rfl rfl rfl rfl rfl) ?_
    refine al_op rfl (g_extract (ps := [.agg (api_Msg.cells ((msg_DecodeB (List.set b (Int.toNat (Int.tmod at_ 16)) c)).1)), .agg (api_Note.cells ((msg_DecodeB (List.set b (Int.toNat (Int.tmod at_ 16)) c)).2))]) (p := .agg (api_Note.cells ((msg_DecodeB (List.set b (Int.toNat (Int.tmod at_ 16)) c)).2))) rfl rfl rfl rfl rfl) ?_
    refine al_op rfl (g_alloc (s := 10) (z := zv42) (qs := zc42) rfl rfl rfl rfl z42 rfl rfl) ?_
    refine al_op rfl (g_alloc (s := 11) (z := zv25) (qs := zc25) rfl rfl rfl rfl z25 rfl rfl) ?_
    refine al_op rfl (g_store (s := 10) (off := 0) (ps := zc42) (p := .agg (api_Msg.cells ((msg_DecodeB (List.set b (Int.toNat (Int.tmod at_ 16)) c)).1))) (qs := (api_Msg.cells ((msg_DecodeB (List.set b (Int.toNat (Int.tmod at_ 16)) c)).1))) rfl rfl ty42 rfl rfl rfl rfl rfl rfl rfl) ?_
    refine al_op rfl (g_store (s := 11) (off := 0) (ps := zc25) (p := .agg (api_Note.cells ((msg_DecodeB (List.set b (Int.toNat (Int.tmod at_ 16)) c)).2))) (qs := (api_Note.cells ((msg_DecodeB (List.set b (Int.toNat (Int.tmod at_ 16)) c)).2))) rfl rfl ty25 rfl rfl rfl rfl rfl rfl rfl) ?_
    refine al_nil ?_
    refine aw_seq ?_
    refine aw_region ?_
    refine al_op rfl (g_call (fn := Tryd.f5) (xs := []) (args := []) (r := .sc (.bool law09_answers)) rfl rfl rfl Tryd.func5 rfl rfl rfl rfl rfl (law09_answers_pf)) ?_
    refine al_op rfl (g_move (p := .sc (.bool law09_answers)) rfl rfl rfl rfl) ?_
    refine al_gW (C := law09_answers) (p := .loc 9 0) (gd_T rfl rfl rfl rfl rfl) rfl rfl (fun g7 => g_fieldAddr (b := 9) (k := 0) (m := 0) rfl rfl rfl fld25_0 rfl rfl) ?_
    refine al_gW (C := law09_answers) (p := .sc (.int .i64 (((msg_Head (List.set b (Int.toNat (Int.tmod at_ 16)) c)).2).fCode))) (gd_T rfl rfl rfl rfl rfl) rfl rfl (fun g8 => g_load (s := 9) (off := 0) (ps := (api_Note.cells ((msg_Head (List.set b (Int.toNat (Int.tmod at_ 16)) c)).2))) (p := .sc (.int .i64 (((msg_Head (List.set b (Int.toNat (Int.tmod at_ 16)) c)).2).fCode))) rfl rfl rfl ty3 (gt (p := .loc 9 0) (q := .sc undef) g8) rfl rfl rfl rfl) ?_
    refine al_gW (C := law09_answers) (p := .sc (.bool (decide ((((msg_Head (List.set b (Int.toNat (Int.tmod at_ 16)) c)).2).fCode : Int) = 1)))) (gd_T rfl rfl rfl rfl rfl) rfl rfl (fun g9 => g_bin (u1 := .int .i64 (((msg_Head (List.set b (Int.toNat (Int.tmod at_ 16)) c)).2).fCode)) (u2 := .int .i64 1) (v := .bool (decide ((((msg_Head (List.set b (Int.toNat (Int.tmod at_ 16)) c)).2).fCode : Int) = 1))) rfl rfl rfl (gt (p := .sc (.int .i64 (((msg_Head (List.set b (Int.toNat (Int.tmod at_ 16)) c)).2).fCode))) (q := .sc undef) g9) rfl (fun _ => rfl)) ?_
    refine al_op rfl (g_andU (b := law09_answers) (y := decide ((((msg_Head (List.set b (Int.toNat (Int.tmod at_ 16)) c)).2).fCode : Int) = 1)) rfl rfl rfl rfl rfl) ?_
    refine al_op rfl (g_move (p := .sc (.bool (law09_answers && (decide ((((msg_Head (List.set b (Int.toNat (Int.tmod at_ 16)) c)).2).fCode : Int) = 1))))) rfl rfl rfl rfl) ?_
    refine al_gW (C := law09_answers && (decide ((((msg_Head (List.set b (Int.toNat (Int.tmod at_ 16)) c)).2).fCode : Int) = 1))) (p := .loc 9 1) (gd_T rfl rfl rfl rfl rfl) rfl rfl (fun g10 => g_fieldAddr (b := 9) (k := 0) (m := 1) rfl rfl rfl fld25_1 rfl rfl) ?_
    refine al_gW (C := law09_answers && (decide ((((msg_Head (List.set b (Int.toNat (Int.tmod at_ 16)) c)).2).fCode : Int) = 1))) (p := .sc (.int .i64 (((msg_Head (List.set b (Int.toNat (Int.tmod at_ 16)) c)).2).fSub))) (gd_T rfl rfl rfl rfl rfl) rfl rfl (fun g11 => g_load (s := 9) (off := 1) (ps := (api_Note.cells ((msg_Head (List.set b (Int.toNat (Int.tmod at_ 16)) c)).2))) (p := .sc (.int .i64 (((msg_Head (List.set b (Int.toNat (Int.tmod at_ 16)) c)).2).fSub))) rfl rfl rfl ty3 (gt (p := .loc 9 1) (q := .sc undef) g11) rfl rfl rfl rfl) ?_
    refine al_gW (C := law09_answers && (decide ((((msg_Head (List.set b (Int.toNat (Int.tmod at_ 16)) c)).2).fCode : Int) = 1))) (p := .sc (.bool (decide ((((msg_Head (List.set b (Int.toNat (Int.tmod at_ 16)) c)).2).fSub : Int) = 1)))) (gd_T rfl rfl rfl rfl rfl) rfl rfl (fun g12 => g_bin (u1 := .int .i64 (((msg_Head (List.set b (Int.toNat (Int.tmod at_ 16)) c)).2).fSub)) (u2 := .int .i64 1) (v := .bool (decide ((((msg_Head (List.set b (Int.toNat (Int.tmod at_ 16)) c)).2).fSub : Int) = 1))) rfl rfl rfl (gt (p := .sc (.int .i64 (((msg_Head (List.set b (Int.toNat (Int.tmod at_ 16)) c)).2).fSub))) (q := .sc undef) g12) rfl (fun _ => rfl)) ?_
    refine al_op rfl (g_andU (b := law09_answers && (decide ((((msg_Head (List.set b (Int.toNat (Int.tmod at_ 16)) c)).2).fCode : Int) = 1))) (y := decide ((((msg_Head (List.set b (Int.toNat (Int.tmod at_ 16)) c)).2).fSub : Int) = 1)) rfl rfl rfl rfl rfl) ?_
    refine al_op rfl (g_move (p := .sc (.bool ((law09_answers && (decide ((((msg_Head (List.set b (Int.toNat (Int.tmod at_ 16)) c)).2).fCode : Int) = 1))) && (decide ((((msg_Head (List.set b (Int.toNat (Int.tmod at_ 16)) c)).2).fSub : Int) = 1))))) rfl rfl rfl rfl) ?_
    refine al_gW (C := (law09_answers && (decide ((((msg_Head (List.set b (Int.toNat (Int.tmod at_ 16)) c)).2).fCode : Int) = 1))) && (decide ((((msg_Head (List.set b (Int.toNat (Int.tmod at_ 16)) c)).2).fSub : Int) = 1))) (p := .loc 9 2) (gd_T rfl rfl rfl rfl rfl) rfl rfl (fun g13 => g_fieldAddr (b := 9) (k := 0) (m := 2) rfl rfl rfl fld25_2 rfl rfl) ?_
    refine al_gW (C := (law09_answers && (decide ((((msg_Head (List.set b (Int.toNat (Int.tmod at_ 16)) c)).2).fCode : Int) = 1))) && (decide ((((msg_Head (List.set b (Int.toNat (Int.tmod at_ 16)) c)).2).fSub : Int) = 1))) (p := .sem (SL (eI .u8) (((msg_Head (List.set b (Int.toNat (Int.tmod at_ 16)) c)).2).fData))) (gd_T rfl rfl rfl rfl rfl) rfl rfl (fun g14 => g_load (s := 9) (off := 2) (ps := (api_Note.cells ((msg_Head (List.set b (Int.toNat (Int.tmod at_ 16)) c)).2))) (p := .sem (SL (eI .u8) (((msg_Head (List.set b (Int.toNat (Int.tmod at_ 16)) c)).2).fData))) rfl rfl rfl ty22 (gt (p := .loc 9 2) (q := .sc undef) g14) rfl rfl rfl rfl) ?_
    refine al_gW (C := (law09_answers && (decide ((((msg_Head (List.set b (Int.toNat (Int.tmod at_ 16)) c)).2).fCode : Int) = 1))) && (decide ((((msg_Head (List.set b (Int.toNat (Int.tmod at_ 16)) c)).2).fSub : Int) = 1))) (p := .sc (.int .i64 ((((msg_Head (List.set b (Int.toNat (Int.tmod at_ 16)) c)).2).fData).length : Int))) (gd_T rfl rfl rfl rfl rfl) rfl rfl (fun g15 => g_len rfl rfl rfl Tryd.underlying22 (by exact (isSl_sem (by exact (gt (p := .sem (SL (eI .u8) (((msg_Head (List.set b (Int.toNat (Int.tmod at_ 16)) c)).2).fData))) (q := .sc undef) g15))))) ?_
    refine al_gW (C := (law09_answers && (decide ((((msg_Head (List.set b (Int.toNat (Int.tmod at_ 16)) c)).2).fCode : Int) = 1))) && (decide ((((msg_Head (List.set b (Int.toNat (Int.tmod at_ 16)) c)).2).fSub : Int) = 1))) (p := .sc (.bool (decide ((((((msg_Head (List.set b (Int.toNat (Int.tmod at_ 16)) c)).2).fData).length : Int) : Int) = 0)))) (gd_T rfl rfl rfl rfl rfl) rfl rfl (fun g16 => g_bin (u1 := .int .i64 ((((msg_Head (List.set b (Int.toNat (Int.tmod at_ 16)) c)).2).fData).length : Int)) (u2 := .int .i64 0) (v := .bool (decide ((((((msg_Head (List.set b (Int.toNat (Int.tmod at_ 16)) c)).2).fData).length : Int) : Int) = 0))) rfl rfl rfl (gt (p := .sc (.int .i64 ((((msg_Head (List.set b (Int.toNat (Int.tmod at_ 16)) c)).2).fData).length : Int))) (q := .sc undef) g16) rfl (fun _ => rfl)) ?_
    refine al_op rfl (g_andU (b := (law09_answers && (decide ((((msg_Head (List.set b (Int.toNat (Int.tmod at_ 16)) c)).2).fCode : Int) = 1))) && (decide ((((msg_Head (List.set b (Int.toNat (Int.tmod at_ 16)) c)).2).fSub : Int) = 1))) (y := decide ((((((msg_Head (List.set b (Int.toNat (Int.tmod at_ 16)) c)).2).fData).length : Int) : Int) = 0)) rfl rfl rfl rfl rfl) ?_
    refine al_op rfl (g_move (p := .sc (.bool (((law09_answers && (decide ((((msg_Head (List.set b (Int.toNat (Int.tmod at_ 16)) c)).2).fCode : Int) = 1))) && (decide ((((msg_Head (List.set b (Int.toNat (Int.tmod at_ 16)) c)).2).fSub : Int) = 1))) && (decide ((((((msg_Head (List.set b (Int.toNat (Int.tmod at_ 16)) c)).2).fData).length : Int) : Int) = 0))))) rfl rfl rfl rfl) ?_
    refine al_gW (C := ((law09_answers && (decide ((((msg_Head (List.set b (Int.toNat (Int.tmod at_ 16)) c)).2).fCode : Int) = 1))) && (decide ((((msg_Head (List.set b (Int.toNat (Int.tmod at_ 16)) c)).2).fSub : Int) = 1))) && (decide ((((((msg_Head (List.set b (Int.toNat (Int.tmod at_ 16)) c)).2).fData).length : Int) : Int) = 0))) (p := .agg (api_Note.cells ((msg_Head (List.set b (Int.toNat (Int.tmod at_ 16)) c)).2))) (gd_T rfl rfl rfl rfl rfl) rfl rfl (fun g17 => g_load (s := 9) (off := 0) (ps := (api_Note.cells ((msg_Head (List.set b (Int.toNat (Int.tmod at_ 16)) c)).2))) (p := .agg (api_Note.cells ((msg_Head (List.set b (Int.toNat (Int.tmod at_ 16)) c)).2))) rfl rfl rfl ty25 rfl rfl rfl rfl rfl) ?_
    refine al_gW (C := ((law09_answers && (decide ((((msg_Head (List.set b (Int.toNat (Int.tmod at_ 16)) c)).2).fCode : Int) = 1))) && (decide ((((msg_Head (List.set b (Int.toNat (Int.tmod at_ 16)) c)).2).fSub : Int) = 1))) && (decide ((((((msg_Head (List.set b (Int.toNat (Int.tmod at_ 16)) c)).2).fData).length : Int) : Int) = 0))) (p := .agg (api_Note.cells ((msg_DecodeB (List.set b (Int.toNat (Int.tmod at_ 16)) c)).2))) (gd_T rfl rfl rfl rfl rfl) rfl rfl (fun g18 => g_load (s := 11) (off := 0) (ps := (api_Note.cells ((msg_DecodeB (List.set b (Int.toNat (Int.tmod at_ 16)) c)).2))) (p := .agg (api_Note.cells ((msg_DecodeB (List.set b (Int.toNat (Int.tmod at_ 16)) c)).2))) rfl rfl rfl ty25 rfl rfl rfl rfl rfl) ?_
    refine al_gW (C := ((law09_answers && (decide ((((msg_Head (List.set b (Int.toNat (Int.tmod at_ 16)) c)).2).fCode : Int) = 1))) && (decide ((((msg_Head (List.set b (Int.toNat (Int.tmod at_ 16)) c)).2).fSub : Int) = 1))) && (decide ((((((msg_Head (List.set b (Int.toNat (Int.tmod at_ 16)) c)).2).fData).length : Int) : Int) = 0))) (p := .sc (.bool (ref05_SameNote ((msg_Head (List.set b (Int.toNat (Int.tmod at_ 16)) c)).2) ((msg_DecodeB (List.set b (Int.toNat (Int.tmod at_ 16)) c)).2)))) (gd_T rfl rfl rfl rfl rfl) rfl rfl (fun g19 => g_call (fn := Tryd.f8) (xs := [.tmp 61, .tmp 62]) (args := [.agg (api_Note.cells ((msg_Head (List.set b (Int.toNat (Int.tmod at_ 16)) c)).2)), .agg (api_Note.cells ((msg_DecodeB (List.set b (Int.toNat (Int.tmod at_ 16)) c)).2))]) (r := .sc (.bool (ref05_SameNote ((msg_Head (List.set b (Int.toNat (Int.tmod at_ 16)) c)).2) ((msg_DecodeB (List.set b (Int.toNat (Int.tmod at_ 16)) c)).2)))) rfl rfl rfl Tryd.func8 rfl rfl (congrS2 (b0 := .agg (api_Note.cells ((msg_Head (List.set b (Int.toNat (Int.tmod at_ 16)) c)).2))) (b1 := .agg (api_Note.cells ((msg_DecodeB (List.set b (Int.toNat (Int.tmod at_ 16)) c)).2))) (gt (p := .agg (api_Note.cells ((msg_Head (List.set b (Int.toNat (Int.tmod at_ 16)) c)).2))) (q := .sc undef) g19) (gt (p := .agg (api_Note.cells ((msg_DecodeB (List.set b (Int.toNat (Int.tmod at_ 16)) c)).2))) (q := .sc undef) g19)) rfl rfl (ref05_SameNote_pf ((msg_Head (List.set b (Int.toNat (Int.tmod at_ 16)) c)).2) ((msg_DecodeB (List.set b (Int.toNat (Int.tmod at_ 16)) c)).2))) ?_
    refine al_op rfl (g_andU (b := ((law09_answers && (decide ((((msg_Head (List.set b (Int.toNat (Int.tmod at_ 16)) c)).2).fCode : Int) = 1))) && (decide ((((msg_Head (List.set b (Int.toNat (Int.tmod at_ 16)) c)).2).fSub : Int) = 1))) && (decide ((((((msg_Head (List.set b (Int.toNat (Int.tmod at_ 16)) c)).2).fData).length : Int) : Int) = 0))) (y := (ref05_SameNote ((msg_Head (List.set b (Int.toNat (Int.tmod at_ 16)) c)).2) ((msg_DecodeB (List.set b (Int.toNat (Int.tmod at_ 16)) c)).2))) rfl rfl rfl rfl rfl) ?_
    refine al_op rfl (g_assign (p := .sc (.bool ((((law09_answers && (decide ((((msg_Head (List.set b (Int.toNat (Int.tmod at_ 16)) c)).2).fCode : Int) = 1))) && (decide ((((msg_Head (List.set b (Int.toNat (Int.tmod at_ 16)) c)).2).fSub : Int) = 1))) && (decide ((((((msg_Head (List.set b (Int.toNat (Int.tmod at_ 16)) c)).2).fData).length : Int) : Int) = 0))) && (ref05_SameNote ((msg_Head (List.set b (Int.toNat (Int.tmod at_ 16)) c)).2) ((msg_DecodeB (List.set b (Int.toNat (Int.tmod at_ 16)) c)).2))))) rfl rfl rfl rfl) ?_
    refine al_nil ?_
    refine aw_ret ?_
    exact endG_mk (F := (fun (z : Bool) => ⟨[], [], .sc (.bool z)⟩)) (z := (MsgMarker_s b at_ c)) (v := (((law09_answers && (decide ((((msg_Head (List.set b (Int.toNat (Int.tmod at_ 16)) c)).2).fCode : Int) = 1))) && (decide ((((msg_Head (List.set b (Int.toNat (Int.tmod at_ 16)) c)).2).fSub : Int) = 1))) && (decide ((((((msg_Head (List.set b (Int.toNat (Int.tmod at_ 16)) c)).2).fData).length : Int) : Int) = 0))) && (ref05_SameNote ((msg_Head (List.set b (Int.toNat (Int.tmod at_ 16)) c)).2) ((msg_DecodeB (List.set b (Int.toNat (Int.tmod at_ 16)) c)).2))) (bF k6 rfl) rfl (.one (.tmp 6 (.sc (.bool ((((law09_answers && (decide ((((msg_Head (List.set b (Int.toNat (Int.tmod at_ 16)) c)).2).fCode : Int) = 1))) && (decide ((((msg_Head (List.set b (Int.toNat (Int.tmod at_ 16)) c)).2).fSub : Int) = 1))) && (decide ((((((msg_Head (List.set b (Int.toNat (Int.tmod at_ 16)) c)).2).fData).length : Int) : Int) = 0))) && (ref05_SameNote ((msg_Head (List.set b (Int.toNat (Int.tmod at_ 16)) c)).2) ((msg_DecodeB (List.set b (Int.toNat (Int.tmod at_ 16)) c)).2))))) rfl) (.one (.rfl _)) rfl) trivial trivial
theorem MsgMarker_s_pf (b : List Int) (at_ : Int) (c : Int) (ok_at_ : okI .u8 at_) (ok_c : okI .u8 c) : PF Tryd.prog 3 [.sem (SL (eI .u8) b), .sc (.int .u8 at_), .sc (.int .u8 c)] (.sc (.bool (MsgMarker_s b at_ c))) := pf_ofG (MsgMarker_s_pf_g b at_ c ok_at_ ok_c) rfl
theorem MsgMarker_true (b : List Int) (at_ c : Int) (o0 : okL (okI .u8) b) (o1 : okI .u8 at_) (o2 : okI .u8 c) : MsgMarker_s b at_ c = true := by
  unfold MsgMarker_s
  rw [law09_true]
  cases h : ((decide (((b.length : Int) : Int) < 19)) || (decide ((5000 : Int) < (b.length : Int)))) || (decide ((c : Int) = 255)) with
  | true => rfl
  | false =>
    simp only [Bool.or_eq_false_iff, decide_eq_false_iff_not] at h
    have ha := okI8.1 o1
    have hm : msg_Head (List.set b (Int.toNat (Int.tmod at_ 16)) c) = (0, msg_wrong 1 1 []) := head_marker (by rw [tmod_ite]; omega) (by omega) (okI8.1 o2) h.2
    unfold msg_DecodeB
    rw [hm]
    rfl
theorem MsgMarker_ok (b : List Int) (at_ : Int) (c : Int) (o0 : okL (okI .u8) b) (o1 : okI .u8 at_) (o2 : okI .u8 c) : PF Tryd.prog 3 [.sem (SL (eI .u8) b), .sc (.int .u8 at_), .sc (.int .u8 c)] (.sc (.bool true)) := by
  have h := MsgMarker_s_pf b at_ c o1 o2
  rw [MsgMarker_true b at_ c o0 o1 o2] at h
  exact h
end Go.Proofs.YtepnimdjcnjlfaaDoor
namespace Go.Proofs.YtepnimdjcnjlfaaDoor.msgMarker
open Go.Ab Go.ChangeShapes Go.WideShapes Go.ChangeAt Go.RowKit
open Go.ChangeMaps (open_string shut_string)
open Go.WideMaps Go.WideElems
set_option linter.unusedVariables false
set_option linter.unusedSimpArgs false
theorem own : ownKnob Tryd.prog.godebug = none := by kernel_rfl
theorem laidOut : laidOutB Tryd.prog = true := by kernel_rfl
theorem door_met (os : Os) (args : Array Value) : laidMetH Tryd.prog (Rows.msgMarkerRow.laid) ((World.doorLaid Tryd.prog 400 os).forCall (fun _ _ => 0) ⟨#[], args, []⟩).memory :=
  laidMetH_of_parts3 (fuel := 8) (laidMet_of_run' 8 (by kernel_rfl) (by kernel_rfl)) (by kernel_rfl) (by kernel_rfl)
set_option maxRecDepth 100000 in
theorem lifted (os : Os) (started : os.Started) (H : Type) (enc : TypeId × Value → H) :
    ReturnsInHanded {} Tryd.checked os 3 .any (fun w args => (Rows.msgMarkerSpec.pre enc Tryd.prog Tryd.f3 Rows.msgMarkerRow.domain false w args ∧ laidMetH Tryd.prog (Rows.msgMarkerRow.laid) w) ∧ sizedMet enc Tryd.prog Tryd.f3 (OpenSpec.ofChange Rows.msgMarkerSpec) false w args) (Rows.msgMarkerSpec.post enc Tryd.prog Tryd.f3 false true false false) := by
  refine returnsInHanded_of_change_and (C := Tryd.checked) (X := fun w _ => laidMetH Tryd.prog (Rows.msgMarkerRow.laid) w) (fun _ _ _ hh h => h.of_heap hh) own started (by kernel_rfl) Tryd.func3
    (ChangeSpec.witness_shaped (enc := enc) (C := Tryd.checked) (os := os) (X := fun w _ => laidMetH Tryd.prog (Rows.msgMarkerRow.laid) w) false (World.doorLaid Tryd.prog 400 os) #[.slice none 0 0, .int .u8 0, .int .u8 0] 8 rfl (World.shaped_of_RefB (by kernel_rfl) (by kernel_rfl)) (by kernel_rfl) (by kernel_rfl) (by kernel_rfl) (door_met os _)) ?_
  intro W base args ds gs before hval0 hW hcnd hsz0 hL _
  have hsz : (DataW.weightsEach Tryd.prog (Tryd.f3.params.toList ++ Rows.msgMarkerSpec.plain.varTypes Tryd.prog) (ds ++ gs)).all (· ≤ reachBytes) = true := hsz0
  have hval : ∀ (j : Nat) t v, Tryd.f3.params[j]? = some t → args[j]? = some v → Value.okWide Tryd.prog W .any base t v := hval0
  have hW' := hW
  obtain ⟨p, q, hA0, hV, rfl, hfz, hnd⟩ := hW
  have hA : DataW.TrodAll enc Tryd.prog W 0 (fun _ => true) true Tryd.f3.params.toList args.toList ds p := hA0
  rw [Tryd.params3] at hA hval hsz
  obtain ⟨v0, vs0, d0, ds0, p0, q0, hargs, rfl, rfl, h0, r0⟩ := trodAll_cons hA
  obtain ⟨v1, vs1, d1, ds1, p1, q1, rfl, rfl, rfl, h1, r1⟩ := trodAll_cons r0
  obtain ⟨v2, vs2, d2, ds2, p2, q2, rfl, rfl, rfl, h2, r2⟩ := trodAll_cons r1
  obtain ⟨rfl, rfl, rfl⟩ := trodAll_nil r2
  obtain rfl : args = #[v0, v1, v2] := by cases args; simp_all
  obtain ⟨rfl, rfl⟩ := trodVars_none hV
  have k0 := h0
  have lt0 : ∀ x ∈ p0, x.block < W.heap.size := by obtain ⟨m, hm⟩ := k0; exact DataW.trod_lt m _ _ _ hm
  obtain ⟨a0, l0, c0, rfl⟩ := okWide_slice Tryd.underlying22 (hval 0 22 v0 rfl rfl)
  obtain ⟨fuel0, e0⟩ := h0
  obtain ⟨x0, g0, o0⟩ := rd22 H enc W fuel0 _ d0 p0 e0 (by rw [List.all_eq_true] at hsz ⊢; exact fun z hz => hsz z (DataW.weights_mem_each (j := 0) rfl rfl z hz))
  have k1 := h1
  have lt1 : ∀ x ∈ p1, x.block < W.heap.size := by obtain ⟨m, hm⟩ := k1; exact DataW.trod_lt m _ _ _ hm
  obtain ⟨x1, rfl, -, -, o1⟩ := open_int Tryd.underlying5 (hval 1 5 v1 rfl rfl) h1
  have k2 := h2
  have lt2 : ∀ x ∈ p2, x.block < W.heap.size := by obtain ⟨m, hm⟩ := k2; exact DataW.trod_lt m _ _ _ hm
  obtain ⟨x2, rfl, -, -, o2⟩ := open_int Tryd.underlying5 (hval 2 5 v2 rfl rfl) h2
  clear hA0 hval0 hsz0 hsz
  refine ((MsgMarker_ok x0 x1 x2 o0 o1 o2) (immOf W) W [_, _, _] (immOk_of W) ⟨_, _, rfl, (repL_one g0), ⟨_, _, rfl, rfl, ⟨_, _, rfl, rfl, rfl⟩⟩⟩).mono ?_
  rintro e W' ⟨v, imm', rfl, -, -, -, hv, bel⟩
  obtain rfl : v = .bool true := hv
  exact ⟨_, rfl, _, _, _, [], _, [], hW', trodAll_mk1 (shut_bool Tryd.underlying4 _), (trodAll_cons_mk (Below.trod laidOut (by kernel_rfl) (of_decide_eq_true (by kernel_rfl)) k0 bel lt0) (trodAll_cons_mk (Below.trod laidOut (by kernel_rfl) (of_decide_eq_true (by kernel_rfl)) k1 bel lt1) (trodAll_cons_mk (Below.trod laidOut (by kernel_rfl) (of_decide_eq_true (by kernel_rfl)) k2 bel lt2) trodAll_mk0))), rfl, bel.frame _, fun h => by cases h⟩
theorem over : Rows.msgMarkerRow.holds Tryd.pinned (OpenSpec.ofChange Rows.msgMarkerSpec) :=
  OpenClaim.holds_of_wide 3 Tryd.f3 rfl rfl rfl rfl rfl rfl rfl ⟨rfl, rfl, rfl, rfl, rfl⟩ rfl rfl rfl rfl rfl (by kernel_rfl) Tryd.func3 (by kernel_rfl)
    (of_decide_eq_true (by kernel_rfl)) (by unfold Func.isWrapper; first | (rw [if_pos (by decide +kernel)]; kernel_rfl) | (rw [if_neg (by decide +kernel)]; exact ⟨rfl, rfl⟩))
    (fun os started H enc _ => lifted os started H enc)
theorem row_ : Rows.MsgMarkerSaid := over
theorem proved : Rows.MsgMarkerCardSaid :=
  Claim7.holds_tied_plain_at .later [] [.data] true (true, "f6530f60333f59e683b076e2e16b30d357ab9fd2d874d952b7f4ac3e68e8d5f8") true
    row_ (fun _ h => by cases h) (by kernel_rfl) (fun _ h => by cases h) msgMarker_row_tie rfl ⟨rfl, rfl⟩ (by kernel_rfl) rfl
    (fun f fn hf hfn => by
      obtain rfl : f = 3 := Option.some.inj ((show Tryd.prog.funcNamed "interregnum/interregnumlaw09.MsgMarker" = some 3 by kernel_rfl).symm.trans hf) |>.symm
      obtain rfl : fn = Tryd.f3 := (Option.some.inj (Tryd.func3.symm.trans hfn)).symm
      exact ⟨by kernel_rfl, fun j t ht => by
        rw [Tryd.params3] at ht
        have hm : t ∈ [22, 5] := by simpa using Array.mem_of_getElem? ht
        have hall : ([22, 5].all fun u => !Tryd.prog.wantsStandIn u) = true := by kernel_rfl
        exact (show Tryd.prog.wantsStandIn t = false by simpa using List.all_eq_true.1 hall t hm)⟩)
    (by kernel_rfl)
#print axioms proved
end Go.Proofs.YtepnimdjcnjlfaaDoor.msgMarker
