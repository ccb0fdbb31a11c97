/- The statement CapsBack of this seat is proved: the function of that name hands back true at whatever input it is given, and never panics. No condition beyond those of the given statement. -/
import Derived.Test.YtnpipeihomebhaaRaPCaps
import Derived.Test.YtnpipeihomebhaaRows
import Derived.RowKit
namespace Go.Proofs.Ytnpipeihomebhaa
open Go.Ab
set_option linter.unusedSimpArgs false
set_option linter.unusedVariables false
/-- interregnum/interregnumlaw08.CapsBack -/
def CapsBack_s (a0 : api_Caps) : Bool :=
  (bif (!(decide ((caps_Good a0) = (ref05_GoodCaps a0)))) || (!(ref01_Same (caps_Encode a0) (ref05_Caps a0))) then
    false
  else
    (bif !(ref05_GoodCaps a0) then
      law08_answers && (decide ((((caps_Encode a0).length : Int) : Int) = 0))
    else
      (law08_answers && ((caps_Decode (caps_Encode a0)).2)) && (decide (((caps_Decode (caps_Encode a0)).1) = a0))))
set_option maxRecDepth 100000 in
set_option maxHeartbeats 4000000 in
theorem CapsBack_s_pf_g (a0 : api_Caps) : PG Try.prog 10 [] [] [.agg (api_Caps.cells a0)] (fun _ : Unit => True) (fun _ => (fun (z : Bool) => ⟨[], [], .sc (.bool z)⟩) (CapsBack_s a0)) := by
  refine pg_of (N := 43) (l := [.tmp 2]) Try.func10 rfl rfl rfl (Nat.le_of_ble_eq_true rfl) fun w0 i0 F βs => ?_
  refine aw_seq ?_
  refine aw_region ?_
  refine al_op rfl (g_box (s := 1) (p := .agg (api_Caps.cells a0)) (qs := (api_Caps.cells a0)) rfl rfl rfl rfl rfl rfl rfl) ?_
  refine al_op rfl (g_assign (p := .sc (.bool false)) rfl rfl rfl rfl) ?_
  refine al_nil ?_
  refine aw_seq ?_
  refine aw_region ?_
  refine al_op rfl (g_load (s := 1) (off := 0) (ps := (api_Caps.cells a0)) (p := .agg (api_Caps.cells a0)) rfl rfl rfl ty27 rfl rfl rfl rfl rfl) ?_
  refine al_op rfl (g_call (fn := Try.f27) (xs := [.tmp 6]) (args := [.agg (api_Caps.cells a0)]) (r := .sem (SL (eI .u8) (caps_Encode a0))) rfl rfl rfl Try.func27 rfl rfl rfl rfl rfl (caps_Encode_pf a0)) ?_
  refine al_op rfl (g_assign (p := .sem (SL (eI .u8) (caps_Encode a0))) rfl rfl rfl rfl) ?_
  refine al_nil ?_
  refine aw_seq ?_
  refine aw_seq ?_
  refine aw_plan { ds := [some 8, some 9, some 10, some 11, some 12, some 13, some 14, some 15, some 16, some 17, some 18, some 19], p := fun i => [.agg (api_Caps.cells a0), .sc (.bool (caps_Good a0)), .agg (api_Caps.cells a0), .sc (.bool (ref05_GoodCaps a0)), .sc (.bool (!(decide ((caps_Good a0) = (ref05_GoodCaps a0))))), .sc (.bool (!(decide ((caps_Good a0) = (ref05_GoodCaps a0))))), cond (decide ((caps_Good a0) = (ref05_GoodCaps a0))) (.sem (SL (eI .u8) (caps_Encode a0))) (.sc undef), cond (decide ((caps_Good a0) = (ref05_GoodCaps a0))) (.agg (api_Caps.cells a0)) (.sc undef), cond (decide ((caps_Good a0) = (ref05_GoodCaps a0))) (.sem (SL (eI .u8) (ref05_Caps a0))) (.sc undef), cond (decide ((caps_Good a0) = (ref05_GoodCaps a0))) (.sc (.bool (ref01_Same (caps_Encode a0) (ref05_Caps a0)))) (.sc undef), cond (decide ((caps_Good a0) = (ref05_GoodCaps a0))) (.sc (.bool (!(ref01_Same (caps_Encode a0) (ref05_Caps a0))))) (.sc undef), .sc (.bool ((!(decide ((caps_Good a0) = (ref05_GoodCaps a0)))) || (!(ref01_Same (caps_Encode a0) (ref05_Caps a0)))))].getD i .any, al := [], st := [] } rfl rfl rfl rfl ?_ (fun bD hb => ?_)
  · refine ⟨fun bD hc hi hd => ?_, fun bD hc hi hd => ?_, fun bD hc hi hd => ?_, fun bD hc hi hd => ?_, fun bD hc hi hd => ?_, fun bD hc hi hd => ?_, fun bD hc hi hd => ?_, fun bD hc hi hd => ?_, fun bD hc hi hd => ?_, fun bD hc hi hd => ?_, fun bD hc hi hd => ?_, fun bD hc hi hd => ?_, trivial⟩
    · exact Plan.putStep (i := 0) (q := .agg (api_Caps.cells a0)) rfl rfl rfl (gs_plain rfl (g_load (s := 1) (off := 0) (ps := (api_Caps.cells a0)) (p := .agg (api_Caps.cells a0)) rfl rfl rfl ty27 rfl rfl rfl rfl rfl))
    · exact Plan.putStep (i := 1) (q := .sc (.bool (caps_Good a0))) rfl rfl rfl (gs_plain rfl (g_call (fn := Try.f28) (xs := [.tmp 8]) (args := [.agg (api_Caps.cells a0)]) (r := .sc (.bool (caps_Good a0))) rfl rfl rfl Try.func28 rfl rfl (congrS1 (b0 := .agg (api_Caps.cells a0)) (gt (p := .agg (api_Caps.cells a0)) (q := .any) (hd 0 (by decide)))) rfl rfl (caps_Good_pf a0)))
    · exact Plan.putStep (i := 2) (q := .agg (api_Caps.cells a0)) rfl rfl rfl (gs_plain rfl (g_load (s := 1) (off := 0) (ps := (api_Caps.cells a0)) (p := .agg (api_Caps.cells a0)) rfl rfl rfl ty27 rfl rfl rfl rfl rfl))
    · exact Plan.putStep (i := 3) (q := .sc (.bool (ref05_GoodCaps a0))) rfl rfl rfl (gs_plain rfl (g_call (fn := Try.f29) (xs := [.tmp 10]) (args := [.agg (api_Caps.cells a0)]) (r := .sc (.bool (ref05_GoodCaps a0))) rfl rfl rfl Try.func29 rfl rfl (congrS1 (b0 := .agg (api_Caps.cells a0)) (gt (p := .agg (api_Caps.cells a0)) (q := .any) (hd 2 (by decide)))) rfl rfl (ref05_GoodCaps_pf a0)))
    · exact Plan.putStep (i := 4) (q := .sc (.bool (!(decide ((caps_Good a0) = (ref05_GoodCaps a0)))))) rfl rfl rfl (gs_plain rfl (g_neB (a := (caps_Good a0)) (b := (ref05_GoodCaps a0)) rfl rfl rfl Try.underlying4 (gt (p := .sc (.bool (caps_Good a0))) (q := .any) (hd 1 (by decide))) (gt (p := .sc (.bool (ref05_GoodCaps a0))) (q := .any) (hd 3 (by decide)))))
    · exact Plan.putStep (i := 5) (q := .sc (.bool (!(decide ((caps_Good a0) = (ref05_GoodCaps a0)))))) rfl rfl rfl (gs_plain rfl (g_move (p := .sc (.bool (!(decide ((caps_Good a0) = (ref05_GoodCaps a0)))))) rfl rfl rfl (gt (p := .sc (.bool (!(decide ((caps_Good a0) = (ref05_GoodCaps a0)))))) (q := .any) (hd 4 (by decide)))))
    · exact Plan.putStep (i := 6) (q := cond (decide ((caps_Good a0) = (ref05_GoodCaps a0))) (.sem (SL (eI .u8) (caps_Encode a0))) (.sc undef)) rfl rfl rfl (gs_W (C := decide ((caps_Good a0) = (ref05_GoodCaps a0))) (p := .sem (SL (eI .u8) (caps_Encode a0))) (gd_F (b := !(decide ((caps_Good a0) = (ref05_GoodCaps a0)))) (c := decide ((caps_Good a0) = (ref05_GoodCaps a0))) rfl rfl rfl rfl (gt (p := .sc (.bool (!(decide ((caps_Good a0) = (ref05_GoodCaps a0)))))) (q := .any) (hd 5 (by decide))) (Bool.not_not _)) rfl rfl (fun g1 => g_move (p := .sem (SL (eI .u8) (caps_Encode a0))) rfl rfl rfl rfl))
    · exact Plan.putStep (i := 7) (q := cond (decide ((caps_Good a0) = (ref05_GoodCaps a0))) (.agg (api_Caps.cells a0)) (.sc undef)) rfl rfl rfl (gs_W (C := decide ((caps_Good a0) = (ref05_GoodCaps a0))) (p := .agg (api_Caps.cells a0)) (gd_F (b := !(decide ((caps_Good a0) = (ref05_GoodCaps a0)))) (c := decide ((caps_Good a0) = (ref05_GoodCaps a0))) rfl rfl rfl rfl (gt (p := .sc (.bool (!(decide ((caps_Good a0) = (ref05_GoodCaps a0)))))) (q := .any) (hd 5 (by decide))) (Bool.not_not _)) rfl rfl (fun g2 => g_load (s := 1) (off := 0) (ps := (api_Caps.cells a0)) (p := .agg (api_Caps.cells a0)) rfl rfl rfl ty27 rfl rfl rfl rfl rfl))
    · exact Plan.putStep (i := 8) (q := cond (decide ((caps_Good a0) = (ref05_GoodCaps a0))) (.sem (SL (eI .u8) (ref05_Caps a0))) (.sc undef)) rfl rfl rfl (gs_W (C := decide ((caps_Good a0) = (ref05_GoodCaps a0))) (p := .sem (SL (eI .u8) (ref05_Caps a0))) (gd_F (b := !(decide ((caps_Good a0) = (ref05_GoodCaps a0)))) (c := decide ((caps_Good a0) = (ref05_GoodCaps a0))) rfl rfl rfl rfl (gt (p := .sc (.bool (!(decide ((caps_Good a0) = (ref05_GoodCaps a0)))))) (q := .any) (hd 5 (by decide))) (Bool.not_not _)) rfl rfl (fun g3 => g_call (fn := Try.f31) (xs := [.tmp 15]) (args := [.agg (api_Caps.cells a0)]) (r := .sem (SL (eI .u8) (ref05_Caps a0))) rfl rfl rfl Try.func31 rfl rfl (congrS1 (b0 := .agg (api_Caps.cells a0)) (Eq.trans (gt (p := cond (decide ((caps_Good a0) = (ref05_GoodCaps a0))) (.agg (api_Caps.cells a0)) (.sc undef)) (q := .any) (hd 7 (by decide))) (gt (p := .agg (api_Caps.cells a0)) (q := .sc undef) g3))) rfl rfl (ref05_Caps_pf a0)))
    · exact Plan.putStep (i := 9) (q := cond (decide ((caps_Good a0) = (ref05_GoodCaps a0))) (.sc (.bool (ref01_Same (caps_Encode a0) (ref05_Caps a0)))) (.sc undef)) rfl rfl rfl (gs_W (C := decide ((caps_Good a0) = (ref05_GoodCaps a0))) (p := .sc (.bool (ref01_Same (caps_Encode a0) (ref05_Caps a0)))) (gd_F (b := !(decide ((caps_Good a0) = (ref05_GoodCaps a0)))) (c := decide ((caps_Good a0) = (ref05_GoodCaps a0))) rfl rfl rfl rfl (gt (p := .sc (.bool (!(decide ((caps_Good a0) = (ref05_GoodCaps a0)))))) (q := .any) (hd 5 (by decide))) (Bool.not_not _)) rfl rfl (fun g4 => g_call (fn := Try.f30) (xs := [.tmp 14, .tmp 16]) (args := [.sem (SL (eI .u8) (caps_Encode a0)), .sem (SL (eI .u8) (ref05_Caps a0))]) (r := .sc (.bool (ref01_Same (caps_Encode a0) (ref05_Caps a0)))) rfl rfl rfl Try.func30 rfl rfl (congrS2 (b0 := .sem (SL (eI .u8) (caps_Encode a0))) (b1 := .sem (SL (eI .u8) (ref05_Caps a0))) (Eq.trans (gt (p := cond (decide ((caps_Good a0) = (ref05_GoodCaps a0))) (.sem (SL (eI .u8) (caps_Encode a0))) (.sc undef)) (q := .any) (hd 6 (by decide))) (gt (p := .sem (SL (eI .u8) (caps_Encode a0))) (q := .sc undef) g4)) (Eq.trans (gt (p := cond (decide ((caps_Good a0) = (ref05_GoodCaps a0))) (.sem (SL (eI .u8) (ref05_Caps a0))) (.sc undef)) (q := .any) (hd 8 (by decide))) (gt (p := .sem (SL (eI .u8) (ref05_Caps a0))) (q := .sc undef) g4))) rfl rfl (ref01_Same_pf (caps_Encode a0) (ref05_Caps a0))))
    · exact Plan.putStep (i := 10) (q := cond (decide ((caps_Good a0) = (ref05_GoodCaps a0))) (.sc (.bool (!(ref01_Same (caps_Encode a0) (ref05_Caps a0))))) (.sc undef)) rfl rfl rfl (gs_W (C := decide ((caps_Good a0) = (ref05_GoodCaps a0))) (p := .sc (.bool (!(ref01_Same (caps_Encode a0) (ref05_Caps a0))))) (gd_F (b := !(decide ((caps_Good a0) = (ref05_GoodCaps a0)))) (c := decide ((caps_Good a0) = (ref05_GoodCaps a0))) rfl rfl rfl rfl (gt (p := .sc (.bool (!(decide ((caps_Good a0) = (ref05_GoodCaps a0)))))) (q := .any) (hd 5 (by decide))) (Bool.not_not _)) rfl rfl (fun g5 => g_un (u := .bool (ref01_Same (caps_Encode a0) (ref05_Caps a0))) (v := .bool (!(ref01_Same (caps_Encode a0) (ref05_Caps a0)))) rfl rfl rfl (Eq.trans (gt (p := cond (decide ((caps_Good a0) = (ref05_GoodCaps a0))) (.sc (.bool (ref01_Same (caps_Encode a0) (ref05_Caps a0)))) (.sc undef)) (q := .any) (hd 9 (by decide))) (gt (p := .sc (.bool (ref01_Same (caps_Encode a0) (ref05_Caps a0)))) (q := .sc undef) g5)) (fun _ => rfl)))
    · exact Plan.putStep (i := 11) (q := .sc (.bool ((!(decide ((caps_Good a0) = (ref05_GoodCaps a0)))) || (!(ref01_Same (caps_Encode a0) (ref05_Caps a0)))))) rfl rfl rfl (gs_plain rfl (g_orU (b := !(decide ((caps_Good a0) = (ref05_GoodCaps a0)))) (y := !(ref01_Same (caps_Encode a0) (ref05_Caps a0))) rfl rfl rfl (gt (p := .sc (.bool (!(decide ((caps_Good a0) = (ref05_GoodCaps a0)))))) (q := .any) (hd 5 (by decide))) (gt (p := cond (decide ((caps_Good a0) = (ref05_GoodCaps a0))) (.sc (.bool (!(ref01_Same (caps_Encode a0) (ref05_Caps a0))))) (.sc undef)) (q := .any) (hd 10 (by decide))) (Bool.not_not _)))
  obtain rfl : bD = fun _ => true := funext hb
  refine aw_cond (b := (!(decide ((caps_Good a0) = (ref05_GoodCaps a0)))) || (!(ref01_Same (caps_Encode a0) (ref05_Caps a0)))) rfl (fun k6 => ?_) (fun k6 => ?_)
  · skip
    refine aw_seq ?_
    refine aw_region ?_
    refine al_op rfl (g_assign (p := .sc (.bool false)) rfl rfl rfl rfl) ?_
    refine al_nil ?_
    refine aw_ret ?_
    exact endG_mk (F := (fun (z : Bool) => ⟨[], [], .sc (.bool z)⟩)) (z := (CapsBack_s a0)) (v := false) (bT k6 rfl) rfl (.one (.tmp 2 (.sc (.bool false)) rfl) (.one (.rfl _)) rfl) trivial trivial
  · skip
    refine aw_skip ?_
    refine aw_seq ?_
    refine aw_seq ?_
    refine aw_region ?_
    refine al_op rfl (g_load (s := 1) (off := 0) (ps := (api_Caps.cells a0)) (p := .agg (api_Caps.cells a0)) rfl rfl rfl ty27 rfl rfl rfl rfl rfl) ?_
    refine al_op rfl (g_call (fn := Try.f29) (xs := [.tmp 20]) (args := [.agg (api_Caps.cells a0)]) (r := .sc (.bool (ref05_GoodCaps a0))) rfl rfl rfl Try.func29 rfl rfl rfl rfl rfl (ref05_GoodCaps_pf a0)) ?_
    refine al_op rfl (g_un (u := .bool (ref05_GoodCaps a0)) (v := .bool (!(ref05_GoodCaps a0))) rfl rfl rfl rfl (fun _ => rfl)) ?_
    refine al_nil ?_
    refine aw_cond (b := !(ref05_GoodCaps a0)) rfl (fun k7 => ?_) (fun k7 => ?_)
    · skip
      refine aw_seq ?_
      refine aw_region ?_
      refine al_op rfl (g_call (fn := Try.f32) (xs := []) (args := []) (r := .sc (.bool law08_answers)) rfl rfl rfl Try.func32 rfl rfl rfl rfl rfl (law08_answers_pf)) ?_
      refine al_op rfl (g_move (p := .sc (.bool law08_answers)) rfl rfl rfl rfl) ?_
      refine al_gW (C := law08_answers) (p := .sem (SL (eI .u8) (caps_Encode a0))) (gd_T rfl rfl rfl rfl rfl) rfl rfl (fun g8 => g_move (p := .sem (SL (eI .u8) (caps_Encode a0))) rfl rfl rfl rfl) ?_
      refine al_gW (C := law08_answers) (p := .sc (.int .i64 ((caps_Encode a0).length : Int))) (gd_T rfl rfl rfl rfl rfl) rfl rfl (fun g9 => g_len rfl rfl rfl Try.underlying36 (by exact (isSl_sem (by exact (gt (p := .sem (SL (eI .u8) (caps_Encode a0))) (q := .sc undef) g9))))) ?_
      refine al_gW (C := law08_answers) (p := .sc (.bool (decide ((((caps_Encode a0).length : Int) : Int) = 0)))) (gd_T rfl rfl rfl rfl rfl) rfl rfl (fun g10 => g_bin (u1 := .int .i64 ((caps_Encode a0).length : Int)) (u2 := .int .i64 0) (v := .bool (decide ((((caps_Encode a0).length : Int) : Int) = 0))) rfl rfl rfl (gt (p := .sc (.int .i64 ((caps_Encode a0).length : Int))) (q := .sc undef) g10) rfl (fun _ => rfl)) ?_
      refine al_op rfl (g_andU (b := law08_answers) (y := decide ((((caps_Encode a0).length : Int) : Int) = 0)) rfl rfl rfl rfl rfl) ?_
      refine al_op rfl (g_assign (p := .sc (.bool (law08_answers && (decide ((((caps_Encode a0).length : Int) : Int) = 0))))) rfl rfl rfl rfl) ?_
      refine al_nil ?_
      refine aw_ret ?_
      exact endG_mk (F := (fun (z : Bool) => ⟨[], [], .sc (.bool z)⟩)) (z := (CapsBack_s a0)) (v := law08_answers && (decide ((((caps_Encode a0).length : Int) : Int) = 0))) (bF k6 (bT k7 rfl)) rfl (.one (.tmp 2 (.sc (.bool (law08_answers && (decide ((((caps_Encode a0).length : Int) : Int) = 0))))) rfl) (.one (.rfl _)) rfl) trivial trivial
    · skip
      refine aw_skip ?_
      refine aw_seq ?_
      refine aw_region ?_
      refine al_op rfl (g_move (p := .sem (SL (eI .u8) (caps_Encode a0))) rfl rfl rfl rfl) ?_
      refine al_op rfl (g_call (fn := Try.f33) (xs := [.tmp 30]) (args := [.sem (SL (eI .u8) (caps_Encode a0))]) (r := .tup [.agg (api_Caps.cells ((caps_Decode (caps_Encode a0)).1)), .sc (.bool ((caps_Decode (caps_Encode a0)).2))]) rfl rfl rfl Try.func33 rfl rfl rfl rfl rfl (caps_Decode_pf (caps_Encode a0) (caps_Encode_ok a0))) ?_
      refine al_op rfl (g_move (p := .tup [.agg (api_Caps.cells ((caps_Decode (caps_Encode a0)).1)), .sc (.bool ((caps_Decode (caps_Encode a0)).2))]) rfl rfl rfl rfl) ?_
      refine al_op rfl (g_extract (ps := [.agg (api_Caps.cells ((caps_Decode (caps_Encode a0)).1)), .sc (.bool ((caps_Decode (caps_Encode a0)).2))]) (p := .agg (api_Caps.cells ((caps_Decode (caps_Encode a0)).1))) rfl rfl rfl rfl rfl) ?_
      refine al_op rfl (g_extract (ps := [.agg (api_Caps.cells ((caps_Decode (caps_Encode a0)).1)), .sc (.bool ((caps_Decode (caps_Encode a0)).2))]) (p := .sc (.bool ((caps_Decode (caps_Encode a0)).2))) rfl rfl rfl rfl rfl) ?_
      refine al_op rfl (g_alloc (s := 4) (z := zv27) (qs := zc27) rfl rfl rfl rfl z27 rfl rfl) ?_
      refine al_op rfl (g_store (s := 4) (off := 0) (ps := zc27) (p := .agg (api_Caps.cells ((caps_Decode (caps_Encode a0)).1))) (qs := (api_Caps.cells ((caps_Decode (caps_Encode a0)).1))) rfl rfl ty27 rfl rfl rfl rfl rfl rfl rfl) ?_
      refine al_op rfl (g_assign (p := .sc (.bool ((caps_Decode (caps_Encode a0)).2))) rfl rfl rfl rfl) ?_
      refine al_nil ?_
      refine aw_seq ?_
      refine aw_region ?_
      refine al_op rfl (g_call (fn := Try.f32) (xs := []) (args := []) (r := .sc (.bool law08_answers)) rfl rfl rfl Try.func32 rfl rfl rfl rfl rfl (law08_answers_pf)) ?_
      refine al_op rfl (g_move (p := .sc (.bool law08_answers)) rfl rfl rfl rfl) ?_
      refine al_gW (C := law08_answers) (p := .sc (.bool ((caps_Decode (caps_Encode a0)).2))) (gd_T rfl rfl rfl rfl rfl) rfl rfl (fun g11 => g_move (p := .sc (.bool ((caps_Decode (caps_Encode a0)).2))) rfl rfl rfl rfl) ?_
      refine al_op rfl (g_andU (b := law08_answers) (y := (caps_Decode (caps_Encode a0)).2) rfl rfl rfl rfl rfl) ?_
      refine al_op rfl (g_move (p := .sc (.bool (law08_answers && ((caps_Decode (caps_Encode a0)).2)))) rfl rfl rfl rfl) ?_
      refine al_gW (C := law08_answers && ((caps_Decode (caps_Encode a0)).2)) (p := .agg (api_Caps.cells ((caps_Decode (caps_Encode a0)).1))) (gd_T rfl rfl rfl rfl rfl) rfl rfl (fun g12 => g_load (s := 4) (off := 0) (ps := (api_Caps.cells ((caps_Decode (caps_Encode a0)).1))) (p := .agg (api_Caps.cells ((caps_Decode (caps_Encode a0)).1))) rfl rfl rfl ty27 rfl rfl rfl rfl rfl) ?_
      refine al_gW (C := law08_answers && ((caps_Decode (caps_Encode a0)).2)) (p := .agg (api_Caps.cells a0)) (gd_T rfl rfl rfl rfl rfl) rfl rfl (fun g13 => g_load (s := 1) (off := 0) (ps := (api_Caps.cells a0)) (p := .agg (api_Caps.cells a0)) rfl rfl rfl ty27 rfl rfl rfl rfl rfl) ?_
      refine al_gW (C := law08_answers && ((caps_Decode (caps_Encode a0)).2)) (p := .sc (.bool (decide (((caps_Decode (caps_Encode a0)).1) = a0)))) (gd_T rfl rfl rfl rfl rfl) rfl rfl (fun g14 => g_eqA (us := (((caps_Decode (caps_Encode a0)).1) : api_Caps).vals) (vs := (a0 : api_Caps).vals) rfl rfl rfl (gt (p := .agg (api_Caps.cells ((caps_Decode (caps_Encode a0)).1))) (q := .sc undef) g14) (gt (p := .agg (api_Caps.cells a0)) (q := .sc undef) g14) eqg27 (eqv27 9998 ((caps_Decode (caps_Encode a0)).1) a0)) ?_
      refine al_op rfl (g_andU (b := law08_answers && ((caps_Decode (caps_Encode a0)).2)) (y := decide (((caps_Decode (caps_Encode a0)).1) = a0)) rfl rfl rfl rfl rfl) ?_
      refine al_op rfl (g_assign (p := .sc (.bool ((law08_answers && ((caps_Decode (caps_Encode a0)).2)) && (decide (((caps_Decode (caps_Encode a0)).1) = a0))))) rfl rfl rfl rfl) ?_
      refine al_nil ?_
      refine aw_ret ?_
      exact endG_mk (F := (fun (z : Bool) => ⟨[], [], .sc (.bool z)⟩)) (z := (CapsBack_s a0)) (v := (law08_answers && ((caps_Decode (caps_Encode a0)).2)) && (decide (((caps_Decode (caps_Encode a0)).1) = a0))) (bF k6 (bF k7 rfl)) rfl (.one (.tmp 2 (.sc (.bool ((law08_answers && ((caps_Decode (caps_Encode a0)).2)) && (decide (((caps_Decode (caps_Encode a0)).1) = a0))))) rfl) (.one (.rfl _)) rfl) trivial trivial
theorem CapsBack_s_pf (a0 : api_Caps) : PF Try.prog 10 [.agg (api_Caps.cells a0)] (.sc (.bool (CapsBack_s a0))) := pf_ofG (CapsBack_s_pf_g a0) rfl
theorem CapsBack_true (a0 : api_Caps) : CapsBack_s a0 = true := by
  unfold CapsBack_s
  rw [Caps_eq, GoodCaps_eq, Same_refl, answers08]
  cases hg : caps_Good a0 with
  | false =>
    have hn : ¬ GoodP a0 := fun h => by rw [(Good_iff a0).2 h] at hg; cases hg
    rw [Encode_bad a0 hn]
    simp
  | true =>
    rw [back a0 ((Good_iff a0).1 hg)]
    simp
theorem CapsBack_ok (a0 : api_Caps)  : PF Try.prog 10 [.agg [.sc (.bool a0.fFour), .sc (.int .i64 a0.fAS4), .sc (.bool a0.fGR), .sc (.bool a0.fRestarting), .sc (.int .i64 a0.fTime), .sc (.bool a0.fFamily), .sc (.bool a0.fForward), .sc (.bool a0.fLL), .sc (.int .i64 a0.fLLTime)]] (.sc (.bool true)) := by
  have h := CapsBack_s_pf a0
  rw [CapsBack_true a0] at h
  exact h
end Go.Proofs.Ytnpipeihomebhaa
namespace Go.Proofs.Ytnpipeihomebhaa.capsBack
open Go.Ab Go.ChangeShapes Go.WideShapes Go.ChangeAt Go.RowKit
open Go.ChangeMaps (open_string shut_string)
set_option linter.unusedVariables false
set_option linter.unusedSimpArgs false
theorem own : ownKnob Try.prog.godebug = none := by kernel_rfl
theorem laidOut : laidOutB Try.prog = true := by kernel_rfl
set_option maxRecDepth 100000 in
theorem lifted (os : Os) (started : os.Started) (H : Type) (enc : TypeId × Value → H) :
    ReturnsInHanded {} Try.checked os 10 .any (Rows.capsBackSpec.pre6 enc Try.prog Try.f10 Rows.capsBackRow.domain false) (Rows.capsBackSpec.post enc Try.prog Try.f10 false true false false) := by
  refine returnsInHanded_of_change_sized (C := Try.checked) own started (by kernel_rfl) Try.func10
    (ChangeSpec.witness6 (enc := enc) (C := Try.checked) false ⟨#[], #[.agg #[.bool false, .int .i64 0, .bool false, .bool false, .int .i64 0, .bool false, .bool false, .bool false, .int .i64 0]], []⟩ 8 (by kernel_rfl) (by kernel_rfl) (by kernel_rfl) (by kernel_rfl)) ?_
  intro W base args ds gs before hval0 hW hcnd hsz0 _
  have hsz : (DataW.weightsEach Try.prog (Try.f10.params.toList ++ Rows.capsBackSpec.plain.varTypes Try.prog) (ds ++ gs)).all (· ≤ reachBytes) = true := hsz0
  have hval : ∀ (j : Nat) t v, Try.f10.params[j]? = some t → args[j]? = some v → Value.okWide Try.prog W .any base t v := hval0
  have hW' := hW
  obtain ⟨p, q, hA0, hV, rfl, hfz, hnd⟩ := hW
  have hA : DataW.TrodAll enc Try.prog W 0 (fun _ => true) true Try.f10.params.toList args.toList ds p := hA0
  rw [Try.params10] at hA hval hsz
  obtain ⟨v0, vs0, d0, ds0, p0, q0, hargs, rfl, rfl, h0, r0⟩ := trodAll_cons hA
  obtain ⟨rfl, rfl, rfl⟩ := trodAll_nil r0
  obtain rfl : args = #[v0] := by cases args; simp_all
  obtain ⟨rfl, rfl⟩ := trodVars_none hV
  have k0 := h0
  have lt0 : ∀ x ∈ p0, x.block < W.heap.size := by obtain ⟨m, hm⟩ := k0; exact DataW.trod_lt m _ _ _ hm
  obtain ⟨c0, rfl⟩ := okWide_agg Try.underlying27 (hval 0 27 v0 rfl rfl)
  obtain ⟨fuel0, e0⟩ := h0
  obtain ⟨x0, g0, o0⟩ := rd27 H enc W fuel0 _ d0 p0 e0 (by rw [List.all_eq_true] at hsz ⊢; exact fun z hz => hsz z (DataW.weights_mem_each (j := 0) rfl rfl z hz))
  clear hA0 hval0 hsz0 hsz
  refine ((CapsBack_ok x0) (immOf W) W [_] (immOk_of W) ⟨_, _, rfl, ⟨c0.toList, by simp, g0⟩, rfl⟩).mono ?_
  rintro e W' ⟨v, imm', rfl, -, -, -, hv, bel⟩
  obtain rfl : v = .bool true := hv
  exact ⟨_, rfl, _, _, _, [], _, [], hW', trodAll_mk1 (shut_bool Try.underlying4 _), (trodAll_cons_mk (Below.trod laidOut (by kernel_rfl) (of_decide_eq_true (by kernel_rfl)) k0 bel lt0) trodAll_mk0), rfl, bel.frame _, fun h => by cases h⟩
theorem over : Rows.capsBackRow.holds Try.pinned (OpenSpec.ofChange Rows.capsBackSpec) :=
  OpenClaim.holds_of_wide 10 Try.f10 rfl rfl rfl rfl rfl rfl rfl ⟨rfl, rfl, rfl, rfl, rfl⟩ rfl rfl rfl rfl rfl (by kernel_rfl) Try.func10 (by kernel_rfl)
    (of_decide_eq_true (by kernel_rfl)) (by unfold Func.isWrapper; first | (rw [if_pos (by decide +kernel)]; kernel_rfl) | (rw [if_neg (by decide +kernel)]; exact ⟨rfl, rfl⟩))
    (fun os started H enc _ => lifted os started H enc)
theorem proved : Rows.CapsBackSaid := over
#print axioms proved
end Go.Proofs.Ytnpipeihomebhaa.capsBack
