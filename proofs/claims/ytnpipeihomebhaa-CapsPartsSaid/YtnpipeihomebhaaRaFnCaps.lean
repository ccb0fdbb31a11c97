import Derived.Test.YtnpipeihomebhaaRaFnNego
namespace Go.Proofs.Ytnpipeihomebhaa
open Go.Ab
set_option linter.unusedSimpArgs false
set_option linter.unusedVariables false
def region_Get_l0 (b : List Int) : Nat → Int → Int → Int × Int
  | 0, _, _ => default
  | n0 + 1, v_0, x12_0 =>
    (bif decide ((x12_0 : Int) < ((sub b 0 (if (4 : Int) < (b.length : Int) then 4 else (b.length : Int))).length : Int)) then
      region_Get_l0 b n0 (ior .u32 (IntKind.wrap .u32 (v_0 * 2 ^ 8)) (IntKind.wrap .u32 (ix (sub b 0 (if (4 : Int) < (b.length : Int) then 4 else (b.length : Int))) x12_0))) (IntKind.wrap .i64 (x12_0 + 1))
    else
      (v_0, x12_0))
/-- interregnum/region.Get -/
def region_Get (b : List Int) : Int :=
  (thn (region_Get_l0 b ((((sub b 0 (if (4 : Int) < (b.length : Int) then 4 else (b.length : Int))).length : Int) - 0).toNat + 1) 0 0) fun (x_0 : Int × Int) =>
    x_0.1)
set_option maxRecDepth 100000 in
set_option maxHeartbeats 4000000 in
theorem region_Get_pf_g (b : List Int) : PG Try.prog 46 [] [] [.sem (SL (eI .u8) b)] (fun _ : Unit => True) (fun _ => (fun (z : Int) => ⟨[], [], .sc (.int .u32 z)⟩) (region_Get b)) := by
  refine pg_of (N := 23) (l := [.tmp 2]) Try.func46 rfl rfl rfl (Nat.le_of_ble_eq_true rfl) fun w0 i0 F βs => ?_
  refine aw_len 0 rfl (fun hl1 => ?_)
  refine aw_seq ?_
  refine aw_region ?_
  refine al_op rfl (g_assign (p := .sc (.int .u32 0)) rfl rfl rfl rfl) ?_
  refine al_nil ?_
  refine aw_seq ?_
  refine aw_region ?_
  refine al_op rfl (g_assign (p := .sc (.int .u32 0)) rfl rfl rfl rfl) ?_
  refine al_nil ?_
  refine aw_seq ?_
  refine aw_seq ?_
  refine aw_region ?_
  refine al_op rfl (g_move (p := .sem (SL (eI .u8) b)) rfl rfl rfl rfl) ?_
  refine al_op rfl (g_move (p := .sem (SL (eI .u8) b)) rfl rfl rfl rfl) ?_
  refine al_op rfl (g_len rfl rfl rfl Try.underlying36 (isSl_sem rfl)) ?_
  refine al_op rfl (g_builtin (xs := [.tmp 8, .const (.int .i64 4)]) (us := [.int .i64 (b.length : Int), .int .i64 4]) (v := .int .i64 (if (4 : Int) < (b.length : Int) then 4 else (b.length : Int))) rfl rfl rfl rfl (fun _ _ => rfl)) ?_
  refine al_op rfl (step_slice (E := (eI .u8)) (l := b) (i := 0) (j := (if (4 : Int) < (b.length : Int) then 4 else (b.length : Int))) rfl rfl rfl Try.underlying36 ty5 (isSl_sem rfl) (isB_none rfl) (isB_some rfl) (show 0 ≤ 0 ∧ 0 ≤ (if (4 : Int) < (b.length : Int) then 4 else (b.length : Int)) ∧ (if (4 : Int) < (b.length : Int) then 4 else (b.length : Int)) ≤ (b.length : Int) from (by first | omega | ((try simp only [z1, z2, z3, z4, z5, z6, z7, z8, z9, zA, zB, zC, zD, wrap64, wrapu8, wrapu16, wrapu32, wrapu64, tmod_ite, tdiv_ite, sub_len, region_Put_len, ref01_Four_len] at *); omega) | ((try simp only [z1, z2, z3, z4, z5, z6, z7, z8, z9, zA, tmod_ite, tdiv_ite, sub_len, region_Put_len, ref01_Four_len] at *); (try simp (disch := omega) only [wrap64_id]); (try simp only [z1, z2, z3, z4, z5, z6, z7, z8, z9, zA, zB, zC, zD, wrap64, wrapu8, wrapu16, wrapu32, wrapu64, tmod_ite, tdiv_ite, sub_len] at *); omega)))) ?_
  refine al_op rfl (g_len rfl rfl rfl Try.underlying36 (isSl_sem rfl)) ?_
  refine al_op rfl (g_move (p := .sc (.int .i64 0)) rfl rfl rfl rfl) ?_
  refine al_nil ?_
  refine aw_tailV (ι := Int × Int) (p := fun x_0 => (region_Get_l0 b ((((sub b 0 (if (4 : Int) < (b.length : Int) then 4 else (b.length : Int))).length : Int) - 0).toNat + 1) 0 0) = x_0) (S := fun x_0 => St.of 23 [(0, .sem (SL (eI .u8) b)), (2, .sc (.int .u32 0)), (3, .sc (.int .u32 x_0.1)), (10, .sem (SL (eI .u8) (sub b 0 (if (4 : Int) < (b.length : Int) then 4 else (b.length : Int))))), (11, .sc (.int .i64 ((sub b 0 (if (4 : Int) < (b.length : Int) then 4 else (b.length : Int))).length : Int))), (12, .sc (.int .i64 x_0.2))] [] []) (by first | exact closedAW | exact closedV | exact closedS | exact closedJ) ?_ (fun x_0 e2 => ?_)
  · skip
    refine aw_block ?_
    refine aw_loopS (ι := Nat × Int × Int) (S := fun i => St.of 23 [(0, .sem (SL (eI .u8) b)), (2, .sc (.int .u32 0)), (3, .sc (.int .u32 i.2.1)), (10, .sem (SL (eI .u8) (sub b 0 (if (4 : Int) < (b.length : Int) then 4 else (b.length : Int))))), (11, .sc (.int .i64 ((sub b 0 (if (4 : Int) < (b.length : Int) then 4 else (b.length : Int))).length : Int))), (12, .sc (.int .i64 i.2.2))] [] []) (J := fun i => region_Get_l0 b i.1 i.2.1 i.2.2 = (region_Get_l0 b ((((sub b 0 (if (4 : Int) < (b.length : Int) then 4 else (b.length : Int))).length : Int) - 0).toNat + 1) 0 0) ∧ ((((sub b 0 (if (4 : Int) < (b.length : Int) then 4 else (b.length : Int))).length : Int) - i.2.2).toNat < i.1) ∧ (0 ≤ i.2.2)) (μ := fun i => i.1) (i₀ := (((((sub b 0 (if (4 : Int) < (b.length : Int) then 4 else (b.length : Int))).length : Int) - 0).toNat + 1), 0, 0)) (sub_of rfl ⟨⟨rfl, (.one (.rfl _))⟩, ⟨⟨rfl, (.one (.rfl _))⟩, ⟨⟨rfl, (.one (.rfl _))⟩, ⟨⟨rfl, (.one (.rfl _))⟩, ⟨⟨rfl, (.one (.rfl _))⟩, ⟨⟨rfl, (.one (.rfl _))⟩, trivial⟩⟩⟩⟩⟩⟩ trivial trivial) ⟨rfl, (by first | omega | ((try simp only [z1, z2, z3, z4, z5, z6, z7, z8, z9, zA, zB, zC, zD, wrap64, wrapu8, wrapu16, wrapu32, wrapu64, tmod_ite, tdiv_ite, sub_len, region_Put_len, ref01_Four_len] at *); omega) | ((try simp only [z1, z2, z3, z4, z5, z6, z7, z8, z9, zA, tmod_ite, tdiv_ite, sub_len, region_Put_len, ref01_Four_len] at *); (try simp (disch := omega) only [wrap64_id]); (try simp only [z1, z2, z3, z4, z5, z6, z7, z8, z9, zA, zB, zC, zD, wrap64, wrapu8, wrapu16, wrapu32, wrapu64, tmod_ite, tdiv_ite, sub_len] at *); omega)), (by first | omega | ((try simp only [z1, z2, z3, z4, z5, z6, z7, z8, z9, zA, zB, zC, zD, wrap64, wrapu8, wrapu16, wrapu32, wrapu64, tmod_ite, tdiv_ite, sub_len, region_Put_len, ref01_Four_len] at *); omega) | ((try simp only [z1, z2, z3, z4, z5, z6, z7, z8, z9, zA, tmod_ite, tdiv_ite, sub_len, region_Put_len, ref01_Four_len] at *); (try simp (disch := omega) only [wrap64_id]); (try simp only [z1, z2, z3, z4, z5, z6, z7, z8, z9, zA, zB, zC, zD, wrap64, wrapu8, wrapu16, wrapu32, wrapu64, tmod_ite, tdiv_ite, sub_len] at *); omega))⟩ ?_
    rintro ⟨n0, v_0, x12_0⟩ ⟨hJ0, hm0_0, hm0_1⟩
    obtain ⟨n0, rfl⟩ : ∃ m, n0 = m + 1 := ⟨n0 - 1, by have : 0 < n0 := Nat.lt_of_le_of_lt (Nat.zero_le _) hm0_0; omega⟩
    replace hJ0 : region_Get_l0 b (n0 + 1) v_0 x12_0 = (region_Get_l0 b ((((sub b 0 (if (4 : Int) < (b.length : Int) then 4 else (b.length : Int))).length : Int) - 0).toNat + 1) 0 0) := hJ0
    replace hm0_0 : (((sub b 0 (if (4 : Int) < (b.length : Int) then 4 else (b.length : Int))).length : Int) - x12_0).toNat < n0 + 1 := hm0_0
    replace hm0_1 : 0 ≤ x12_0 := hm0_1
    refine aw_len 0 rfl (fun hl3 => ?_)
    refine aw_len 10 rfl (fun hl4 => ?_)
    refine aw_seq ?_
    refine aw_region ?_
    refine al_op rfl (g_bin (u1 := .int .i64 x12_0) (u2 := .int .i64 ((sub b 0 (if (4 : Int) < (b.length : Int) then 4 else (b.length : Int))).length : Int)) (v := .bool (decide ((x12_0 : Int) < ((sub b 0 (if (4 : Int) < (b.length : Int) then 4 else (b.length : Int))).length : Int)))) rfl rfl rfl rfl rfl (fun _ => rfl)) ?_
    refine al_nil ?_
    refine aw_seq ?_
    refine aw_cond (b := decide ((x12_0 : Int) < ((sub b 0 (if (4 : Int) < (b.length : Int) then 4 else (b.length : Int))).length : Int))) rfl (fun k5 => ?_) (fun k5 => ?_)
    · skip
      refine aw_skip ?_
      refine aw_seq ?_
      refine aw_block ?_
      refine aw_seq ?_
      refine aw_region ?_
      refine al_op rfl (g_ix (E := (eI .u8)) (l := (sub b 0 (if (4 : Int) < (b.length : Int) then 4 else (b.length : Int)))) (n := x12_0) (ps := [.sc (.int .u8 (ix (sub b 0 (if (4 : Int) < (b.length : Int) then 4 else (b.length : Int))) x12_0))]) rfl rfl rfl Try.underlying36 ty5 (isSl_sem rfl) rfl (by first | omega | ((try simp only [z1, z2, z3, z4, z5, z6, z7, z8, z9, zA, zB, zC, zD, wrap64, wrapu8, wrapu16, wrapu32, wrapu64, tmod_ite, tdiv_ite, sub_len, region_Put_len, ref01_Four_len] at *); omega) | ((try simp only [z1, z2, z3, z4, z5, z6, z7, z8, z9, zA, tmod_ite, tdiv_ite, sub_len, region_Put_len, ref01_Four_len] at *); (try simp (disch := omega) only [wrap64_id]); (try simp only [z1, z2, z3, z4, z5, z6, z7, z8, z9, zA, zB, zC, zD, wrap64, wrapu8, wrapu16, wrapu32, wrapu64, tmod_ite, tdiv_ite, sub_len] at *); omega)) rfl) ?_
      refine al_op rfl (g_loadPT (ps := [.sc (.int .u8 (ix (sub b 0 (if (4 : Int) < (b.length : Int) then 4 else (b.length : Int))) x12_0))]) (p := .sc (.int .u8 (ix (sub b 0 (if (4 : Int) < (b.length : Int) then 4 else (b.length : Int))) x12_0))) rfl rfl rfl ty5 rfl rfl rfl rfl rfl) ?_
      refine al_op rfl (g_assign (p := .sc (.int .u8 (ix (sub b 0 (if (4 : Int) < (b.length : Int) then 4 else (b.length : Int))) x12_0))) rfl rfl rfl rfl) ?_
      refine al_nil ?_
      refine aw_region ?_
      refine al_op rfl (g_move (p := .sc (.int .u32 v_0)) rfl rfl rfl rfl) ?_
      refine al_op rfl (g_bin (u1 := .int .u32 v_0) (u2 := .int .u64 8) (v := .int .u32 (IntKind.wrap .u32 (v_0 * 2 ^ 8))) rfl rfl rfl rfl rfl (fun _ => rfl)) ?_
      refine al_op rfl (g_move (p := .sc (.int .u8 (ix (sub b 0 (if (4 : Int) < (b.length : Int) then 4 else (b.length : Int))) x12_0))) rfl rfl rfl rfl) ?_
      refine al_op rfl (g_conv (m := (IntKind.wrap .u32 (ix (sub b 0 (if (4 : Int) < (b.length : Int) then 4 else (b.length : Int))) x12_0))) rfl rfl rfl Try.underlying5 Try.underlying22 rfl rfl) ?_
      refine al_op rfl (g_bin (u1 := .int .u32 (IntKind.wrap .u32 (v_0 * 2 ^ 8))) (u2 := .int .u32 (IntKind.wrap .u32 (ix (sub b 0 (if (4 : Int) < (b.length : Int) then 4 else (b.length : Int))) x12_0))) (v := .int .u32 (ior .u32 (IntKind.wrap .u32 (v_0 * 2 ^ 8)) (IntKind.wrap .u32 (ix (sub b 0 (if (4 : Int) < (b.length : Int) then 4 else (b.length : Int))) x12_0)))) rfl rfl rfl rfl rfl (fun _ => rfl)) ?_
      refine al_op rfl (g_assign (p := .sc (.int .u32 (ior .u32 (IntKind.wrap .u32 (v_0 * 2 ^ 8)) (IntKind.wrap .u32 (ix (sub b 0 (if (4 : Int) < (b.length : Int) then 4 else (b.length : Int))) x12_0))))) rfl rfl rfl rfl) ?_
      refine al_nil ?_
      refine aw_region ?_
      refine al_op rfl (g_bin (u1 := .int .i64 x12_0) (u2 := .int .i64 1) (v := .int .i64 (IntKind.wrap .i64 (x12_0 + 1))) rfl rfl rfl rfl rfl (fun _ => rfl)) ?_
      refine al_op rfl (g_move (p := .sc (.int .i64 (IntKind.wrap .i64 (x12_0 + 1)))) rfl rfl rfl rfl) ?_
      refine al_nil ?_
      exact ⟨(n0, (ior .u32 (IntKind.wrap .u32 (v_0 * 2 ^ 8)) (IntKind.wrap .u32 (ix (sub b 0 (if (4 : Int) < (b.length : Int) then 4 else (b.length : Int))) x12_0))), (IntKind.wrap .i64 (x12_0 + 1))), (sub_of rfl ⟨⟨rfl, (.one (.rfl _))⟩, ⟨⟨rfl, (.one (.rfl _))⟩, ⟨⟨rfl, (.one (.rfl _))⟩, ⟨⟨rfl, (.one (.rfl _))⟩, ⟨⟨rfl, (.one (.rfl _))⟩, ⟨⟨rfl, (.one (.rfl _))⟩, trivial⟩⟩⟩⟩⟩⟩ trivial trivial), ⟨Eq.trans (Eq.symm (bT k5 rfl)) hJ0, (by first | omega | ((try simp only [z1, z2, z3, z4, z5, z6, z7, z8, z9, zA, zB, zC, zD, wrap64, wrapu8, wrapu16, wrapu32, wrapu64, tmod_ite, tdiv_ite, sub_len, region_Put_len, ref01_Four_len] at *); omega) | ((try simp only [z1, z2, z3, z4, z5, z6, z7, z8, z9, zA, tmod_ite, tdiv_ite, sub_len, region_Put_len, ref01_Four_len] at *); (try simp (disch := omega) only [wrap64_id]); (try simp only [z1, z2, z3, z4, z5, z6, z7, z8, z9, zA, zB, zC, zD, wrap64, wrapu8, wrapu16, wrapu32, wrapu64, tmod_ite, tdiv_ite, sub_len] at *); omega)), (by first | omega | ((try simp only [z1, z2, z3, z4, z5, z6, z7, z8, z9, zA, zB, zC, zD, wrap64, wrapu8, wrapu16, wrapu32, wrapu64, tmod_ite, tdiv_ite, sub_len, region_Put_len, ref01_Four_len] at *); omega) | ((try simp only [z1, z2, z3, z4, z5, z6, z7, z8, z9, zA, tmod_ite, tdiv_ite, sub_len, region_Put_len, ref01_Four_len] at *); (try simp (disch := omega) only [wrap64_id]); (try simp only [z1, z2, z3, z4, z5, z6, z7, z8, z9, zA, zB, zC, zD, wrap64, wrapu8, wrapu16, wrapu32, wrapu64, tmod_ite, tdiv_ite, sub_len] at *); omega))⟩, Nat.lt_succ_self _⟩
    · skip
      refine aw_exit ?_
      exact ⟨(v_0, x12_0), hJ0.symm.trans (bF k5 rfl), (sub_of rfl ⟨⟨rfl, (.one (.rfl _))⟩, ⟨⟨rfl, (.one (.rfl _))⟩, ⟨⟨rfl, (.one (.rfl _))⟩, ⟨⟨rfl, (.one (.rfl _))⟩, ⟨⟨rfl, (.one (.rfl _))⟩, ⟨⟨rfl, (.one (.rfl _))⟩, trivial⟩⟩⟩⟩⟩⟩ trivial trivial)⟩
  · skip
    refine aw_len 0 rfl (fun hl6 => ?_)
    refine aw_len 10 rfl (fun hl7 => ?_)
    refine aw_seq ?_
    refine aw_region ?_
    refine al_op rfl (g_move (p := .sc (.int .u32 x_0.1)) rfl rfl rfl rfl) ?_
    refine al_op rfl (g_assign (p := .sc (.int .u32 x_0.1)) rfl rfl rfl rfl) ?_
    refine al_nil ?_
    refine aw_ret ?_
    exact endG_mk (F := (fun (z : Int) => ⟨[], [], .sc (.int .u32 z)⟩)) (z := (region_Get b)) (v := x_0.1) (mB e2 rfl) rfl (.one (.tmp 2 (.sc (.int .u32 x_0.1)) rfl) (.one (.rfl _)) rfl) trivial trivial
theorem region_Get_pf (b : List Int) : PF Try.prog 46 [.sem (SL (eI .u8) b)] (.sc (.int .u32 (region_Get b))) := pf_ofG (region_Get_pf_g b) rfl

/-- interregnum/caps.Good -/
def caps_Good (c : api_Caps) : Bool :=
  (((((!c.fFour && (decide ((c.fAS4 : Int) = 0))) || ((c.fFour && (decide ((1 : Int) ≤ c.fAS4))) && (decide ((c.fAS4 : Int) ≤ 4294967295)))) && ((((decide ((0 : Int) ≤ c.fTime)) && (decide ((c.fTime : Int) ≤ 4095))) && (c.fGR || ((!c.fRestarting && (decide ((c.fTime : Int) = 0))) && !c.fFamily))) && (c.fFamily || !c.fForward))) && (decide ((0 : Int) ≤ c.fLLTime))) && (decide ((c.fLLTime : Int) ≤ 16777215))) && (c.fLL || (decide ((c.fLLTime : Int) = 0)))
set_option maxRecDepth 100000 in
set_option maxHeartbeats 4000000 in
theorem caps_Good_pf_g (c : api_Caps) : PG Try.prog 28 [] [] [.agg (api_Caps.cells c)] (fun _ : Unit => True) (fun _ => (fun (z : Bool) => ⟨[], [], .sc (.bool z)⟩) (caps_Good c)) := by
  refine pg_of (N := 86) (l := [.tmp 2]) Try.func28 rfl rfl rfl (Nat.le_of_ble_eq_true rfl) fun w0 i0 F βs => ?_
  refine aw_seq ?_
  refine aw_region ?_
  refine al_op rfl (g_box (s := 1) (p := .agg (api_Caps.cells c)) (qs := (api_Caps.cells c)) rfl rfl rfl rfl rfl rfl rfl) ?_
  refine al_op rfl (g_assign (p := .sc (.bool false)) rfl rfl rfl rfl) ?_
  refine al_nil ?_
  refine aw_seq ?_
  refine aw_region ?_
  refine al_op rfl (g_fieldAddr (b := 1) (k := 0) (m := 0) rfl rfl rfl fld27_0 rfl rfl) ?_
  refine al_op rfl (g_load (s := 1) (off := 0) (ps := (api_Caps.cells c)) (p := .sc (.bool c.fFour)) rfl rfl rfl ty4 rfl rfl rfl rfl rfl) ?_
  refine al_op rfl (g_un (u := .bool c.fFour) (v := .bool (!c.fFour)) rfl rfl rfl rfl (fun _ => rfl)) ?_
  refine al_op rfl (g_move (p := .sc (.bool !c.fFour)) rfl rfl rfl rfl) ?_
  refine al_gW (C := !c.fFour) (p := .loc 1 1) (gd_T rfl rfl rfl rfl rfl) rfl rfl (fun g1 => g_fieldAddr (b := 1) (k := 0) (m := 1) rfl rfl rfl fld27_1 rfl rfl) ?_
  refine al_gW (C := !c.fFour) (p := .sc (.int .i64 c.fAS4)) (gd_T rfl rfl rfl rfl rfl) rfl rfl (fun g2 => g_load (s := 1) (off := 1) (ps := (api_Caps.cells c)) (p := .sc (.int .i64 c.fAS4)) rfl rfl rfl ty3 (gt (p := .loc 1 1) (q := .sc undef) g2) rfl rfl rfl rfl) ?_
  refine al_gW (C := !c.fFour) (p := .sc (.bool (decide ((c.fAS4 : Int) = 0)))) (gd_T rfl rfl rfl rfl rfl) rfl rfl (fun g3 => g_bin (u1 := .int .i64 c.fAS4) (u2 := .int .i64 0) (v := .bool (decide ((c.fAS4 : Int) = 0))) rfl rfl rfl (gt (p := .sc (.int .i64 c.fAS4)) (q := .sc undef) g3) rfl (fun _ => rfl)) ?_
  refine al_op rfl (g_andU (b := !c.fFour) (y := decide ((c.fAS4 : Int) = 0)) rfl rfl rfl rfl rfl) ?_
  refine al_op rfl (g_move (p := .sc (.bool (!c.fFour && (decide ((c.fAS4 : Int) = 0))))) rfl rfl rfl rfl) ?_
  refine al_gW (C := !(!c.fFour && (decide ((c.fAS4 : Int) = 0)))) (p := .loc 1 0) (gd_F (b := !c.fFour && (decide ((c.fAS4 : Int) = 0))) (c := !(!c.fFour && (decide ((c.fAS4 : Int) = 0)))) rfl rfl rfl rfl rfl rfl) rfl rfl (fun g4 => g_fieldAddr (b := 1) (k := 0) (m := 0) rfl rfl rfl fld27_0 rfl rfl) ?_
  refine al_gW (C := !(!c.fFour && (decide ((c.fAS4 : Int) = 0)))) (p := .sc (.bool c.fFour)) (gd_F (b := !c.fFour && (decide ((c.fAS4 : Int) = 0))) (c := !(!c.fFour && (decide ((c.fAS4 : Int) = 0)))) rfl rfl rfl rfl rfl rfl) rfl rfl (fun g5 => g_load (s := 1) (off := 0) (ps := (api_Caps.cells c)) (p := .sc (.bool c.fFour)) rfl rfl rfl ty4 (gt (p := .loc 1 0) (q := .sc undef) g5) rfl rfl rfl rfl) ?_
  refine al_gW (C := !(!c.fFour && (decide ((c.fAS4 : Int) = 0)))) (p := .sc (.bool c.fFour)) (gd_F (b := !c.fFour && (decide ((c.fAS4 : Int) = 0))) (c := !(!c.fFour && (decide ((c.fAS4 : Int) = 0)))) rfl rfl rfl rfl rfl rfl) rfl rfl (fun g6 => g_move (p := .sc (.bool c.fFour)) rfl rfl rfl (gt (p := .sc (.bool c.fFour)) (q := .sc undef) g6)) ?_
  refine al_gW (C := (!(!c.fFour && (decide ((c.fAS4 : Int) = 0)))) && c.fFour) (p := .loc 1 1) (gd_TN (E := !(!c.fFour && (decide ((c.fAS4 : Int) = 0)))) (y := c.fFour) rfl rfl rfl rfl rfl) rfl rfl (fun g7 => g_fieldAddr (b := 1) (k := 0) (m := 1) rfl rfl rfl fld27_1 rfl rfl) ?_
  refine al_gW (C := (!(!c.fFour && (decide ((c.fAS4 : Int) = 0)))) && c.fFour) (p := .sc (.int .i64 c.fAS4)) (gd_TN (E := !(!c.fFour && (decide ((c.fAS4 : Int) = 0)))) (y := c.fFour) rfl rfl rfl rfl rfl) rfl rfl (fun g8 => g_load (s := 1) (off := 1) (ps := (api_Caps.cells c)) (p := .sc (.int .i64 c.fAS4)) rfl rfl rfl ty3 (gt (p := .loc 1 1) (q := .sc undef) g8) rfl rfl rfl rfl) ?_
  refine al_gW (C := (!(!c.fFour && (decide ((c.fAS4 : Int) = 0)))) && c.fFour) (p := .sc (.bool (decide ((1 : Int) ≤ c.fAS4)))) (gd_TN (E := !(!c.fFour && (decide ((c.fAS4 : Int) = 0)))) (y := c.fFour) rfl rfl rfl rfl rfl) rfl rfl (fun g9 => g_bin (u1 := .int .i64 c.fAS4) (u2 := .int .i64 1) (v := .bool (decide ((1 : Int) ≤ c.fAS4))) rfl rfl rfl (gt (p := .sc (.int .i64 c.fAS4)) (q := .sc undef) g9) rfl (fun _ => rfl)) ?_
  refine al_gW (C := !(!c.fFour && (decide ((c.fAS4 : Int) = 0)))) (p := .sc (.bool (c.fFour && (decide ((1 : Int) ≤ c.fAS4))))) (gd_F (b := !c.fFour && (decide ((c.fAS4 : Int) = 0))) (c := !(!c.fFour && (decide ((c.fAS4 : Int) = 0)))) rfl rfl rfl rfl rfl rfl) rfl rfl (fun g10 => g_andU (b := c.fFour) (y := decide ((1 : Int) ≤ c.fAS4)) rfl rfl rfl (gt (p := .sc (.bool c.fFour)) (q := .sc undef) g10) (gA (p := .sc (.bool (decide ((1 : Int) ≤ c.fAS4)))) (q := .sc undef) g10)) ?_
  refine al_gW (C := !(!c.fFour && (decide ((c.fAS4 : Int) = 0)))) (p := .sc (.bool (c.fFour && (decide ((1 : Int) ≤ c.fAS4))))) (gd_F (b := !c.fFour && (decide ((c.fAS4 : Int) = 0))) (c := !(!c.fFour && (decide ((c.fAS4 : Int) = 0)))) rfl rfl rfl rfl rfl rfl) rfl rfl (fun g11 => g_move (p := .sc (.bool (c.fFour && (decide ((1 : Int) ≤ c.fAS4))))) rfl rfl rfl (gt (p := .sc (.bool (c.fFour && (decide ((1 : Int) ≤ c.fAS4))))) (q := .sc undef) g11)) ?_
  refine al_gW (C := (!(!c.fFour && (decide ((c.fAS4 : Int) = 0)))) && (c.fFour && (decide ((1 : Int) ≤ c.fAS4)))) (p := .loc 1 1) (gd_TN (E := !(!c.fFour && (decide ((c.fAS4 : Int) = 0)))) (y := c.fFour && (decide ((1 : Int) ≤ c.fAS4))) rfl rfl rfl rfl rfl) rfl rfl (fun g12 => g_fieldAddr (b := 1) (k := 0) (m := 1) rfl rfl rfl fld27_1 rfl rfl) ?_
  refine al_gW (C := (!(!c.fFour && (decide ((c.fAS4 : Int) = 0)))) && (c.fFour && (decide ((1 : Int) ≤ c.fAS4)))) (p := .sc (.int .i64 c.fAS4)) (gd_TN (E := !(!c.fFour && (decide ((c.fAS4 : Int) = 0)))) (y := c.fFour && (decide ((1 : Int) ≤ c.fAS4))) rfl rfl rfl rfl rfl) rfl rfl (fun g13 => g_load (s := 1) (off := 1) (ps := (api_Caps.cells c)) (p := .sc (.int .i64 c.fAS4)) rfl rfl rfl ty3 (gt (p := .loc 1 1) (q := .sc undef) g13) rfl rfl rfl rfl) ?_
  refine al_gW (C := (!(!c.fFour && (decide ((c.fAS4 : Int) = 0)))) && (c.fFour && (decide ((1 : Int) ≤ c.fAS4)))) (p := .sc (.bool (decide ((c.fAS4 : Int) ≤ 4294967295)))) (gd_TN (E := !(!c.fFour && (decide ((c.fAS4 : Int) = 0)))) (y := c.fFour && (decide ((1 : Int) ≤ c.fAS4))) rfl rfl rfl rfl rfl) rfl rfl (fun g14 => g_bin (u1 := .int .i64 c.fAS4) (u2 := .int .i64 4294967295) (v := .bool (decide ((c.fAS4 : Int) ≤ 4294967295))) rfl rfl rfl (gt (p := .sc (.int .i64 c.fAS4)) (q := .sc undef) g14) rfl (fun _ => rfl)) ?_
  refine al_gW (C := !(!c.fFour && (decide ((c.fAS4 : Int) = 0)))) (p := .sc (.bool ((c.fFour && (decide ((1 : Int) ≤ c.fAS4))) && (decide ((c.fAS4 : Int) ≤ 4294967295))))) (gd_F (b := !c.fFour && (decide ((c.fAS4 : Int) = 0))) (c := !(!c.fFour && (decide ((c.fAS4 : Int) = 0)))) rfl rfl rfl rfl rfl rfl) rfl rfl (fun g15 => g_andU (b := c.fFour && (decide ((1 : Int) ≤ c.fAS4))) (y := decide ((c.fAS4 : Int) ≤ 4294967295)) rfl rfl rfl (gt (p := .sc (.bool (c.fFour && (decide ((1 : Int) ≤ c.fAS4))))) (q := .sc undef) g15) (gA (p := .sc (.bool (decide ((c.fAS4 : Int) ≤ 4294967295)))) (q := .sc undef) g15)) ?_
  refine al_op rfl (g_orU (b := !c.fFour && (decide ((c.fAS4 : Int) = 0))) (y := (c.fFour && (decide ((1 : Int) ≤ c.fAS4))) && (decide ((c.fAS4 : Int) ≤ 4294967295))) rfl rfl rfl rfl rfl rfl) ?_
  refine al_op rfl (g_assign (p := .sc (.bool ((!c.fFour && (decide ((c.fAS4 : Int) = 0))) || ((c.fFour && (decide ((1 : Int) ≤ c.fAS4))) && (decide ((c.fAS4 : Int) ≤ 4294967295)))))) rfl rfl rfl rfl) ?_
  refine al_nil ?_
  refine aw_seq ?_
  refine aw_region ?_
  refine al_op rfl (g_fieldAddr (b := 1) (k := 0) (m := 4) rfl rfl rfl fld27_4 rfl rfl) ?_
  refine al_op rfl (g_load (s := 1) (off := 4) (ps := (api_Caps.cells c)) (p := .sc (.int .i64 c.fTime)) rfl rfl rfl ty3 rfl rfl rfl rfl rfl) ?_
  refine al_op rfl (g_bin (u1 := .int .i64 c.fTime) (u2 := .int .i64 0) (v := .bool (decide ((0 : Int) ≤ c.fTime))) rfl rfl rfl rfl rfl (fun _ => rfl)) ?_
  refine al_op rfl (g_move (p := .sc (.bool (decide ((0 : Int) ≤ c.fTime)))) rfl rfl rfl rfl) ?_
  refine al_gW (C := decide ((0 : Int) ≤ c.fTime)) (p := .loc 1 4) (gd_T rfl rfl rfl rfl rfl) rfl rfl (fun g16 => g_fieldAddr (b := 1) (k := 0) (m := 4) rfl rfl rfl fld27_4 rfl rfl) ?_
  refine al_gW (C := decide ((0 : Int) ≤ c.fTime)) (p := .sc (.int .i64 c.fTime)) (gd_T rfl rfl rfl rfl rfl) rfl rfl (fun g17 => g_load (s := 1) (off := 4) (ps := (api_Caps.cells c)) (p := .sc (.int .i64 c.fTime)) rfl rfl rfl ty3 (gt (p := .loc 1 4) (q := .sc undef) g17) rfl rfl rfl rfl) ?_
  refine al_gW (C := decide ((0 : Int) ≤ c.fTime)) (p := .sc (.bool (decide ((c.fTime : Int) ≤ 4095)))) (gd_T rfl rfl rfl rfl rfl) rfl rfl (fun g18 => g_bin (u1 := .int .i64 c.fTime) (u2 := .int .i64 4095) (v := .bool (decide ((c.fTime : Int) ≤ 4095))) rfl rfl rfl (gt (p := .sc (.int .i64 c.fTime)) (q := .sc undef) g18) rfl (fun _ => rfl)) ?_
  refine al_op rfl (g_andU (b := decide ((0 : Int) ≤ c.fTime)) (y := decide ((c.fTime : Int) ≤ 4095)) rfl rfl rfl rfl rfl) ?_
  refine al_op rfl (g_move (p := .sc (.bool ((decide ((0 : Int) ≤ c.fTime)) && (decide ((c.fTime : Int) ≤ 4095))))) rfl rfl rfl rfl) ?_
  refine al_gW (C := (decide ((0 : Int) ≤ c.fTime)) && (decide ((c.fTime : Int) ≤ 4095))) (p := .loc 1 2) (gd_T rfl rfl rfl rfl rfl) rfl rfl (fun g19 => g_fieldAddr (b := 1) (k := 0) (m := 2) rfl rfl rfl fld27_2 rfl rfl) ?_
  refine al_gW (C := (decide ((0 : Int) ≤ c.fTime)) && (decide ((c.fTime : Int) ≤ 4095))) (p := .sc (.bool c.fGR)) (gd_T rfl rfl rfl rfl rfl) rfl rfl (fun g20 => g_load (s := 1) (off := 2) (ps := (api_Caps.cells c)) (p := .sc (.bool c.fGR)) rfl rfl rfl ty4 (gt (p := .loc 1 2) (q := .sc undef) g20) rfl rfl rfl rfl) ?_
  refine al_gW (C := (decide ((0 : Int) ≤ c.fTime)) && (decide ((c.fTime : Int) ≤ 4095))) (p := .sc (.bool c.fGR)) (gd_T rfl rfl rfl rfl rfl) rfl rfl (fun g21 => g_move (p := .sc (.bool c.fGR)) rfl rfl rfl (gt (p := .sc (.bool c.fGR)) (q := .sc undef) g21)) ?_
  refine al_gW (C := ((decide ((0 : Int) ≤ c.fTime)) && (decide ((c.fTime : Int) ≤ 4095))) && !c.fGR) (p := .loc 1 3) (gd_FN (E := (decide ((0 : Int) ≤ c.fTime)) && (decide ((c.fTime : Int) ≤ 4095))) (y := c.fGR) (c := !c.fGR) rfl rfl rfl rfl rfl rfl) rfl rfl (fun g22 => g_fieldAddr (b := 1) (k := 0) (m := 3) rfl rfl rfl fld27_3 rfl rfl) ?_
  refine al_gW (C := ((decide ((0 : Int) ≤ c.fTime)) && (decide ((c.fTime : Int) ≤ 4095))) && !c.fGR) (p := .sc (.bool c.fRestarting)) (gd_FN (E := (decide ((0 : Int) ≤ c.fTime)) && (decide ((c.fTime : Int) ≤ 4095))) (y := c.fGR) (c := !c.fGR) rfl rfl rfl rfl rfl rfl) rfl rfl (fun g23 => g_load (s := 1) (off := 3) (ps := (api_Caps.cells c)) (p := .sc (.bool c.fRestarting)) rfl rfl rfl ty4 (gt (p := .loc 1 3) (q := .sc undef) g23) rfl rfl rfl rfl) ?_
  refine al_gW (C := ((decide ((0 : Int) ≤ c.fTime)) && (decide ((c.fTime : Int) ≤ 4095))) && !c.fGR) (p := .sc (.bool !c.fRestarting)) (gd_FN (E := (decide ((0 : Int) ≤ c.fTime)) && (decide ((c.fTime : Int) ≤ 4095))) (y := c.fGR) (c := !c.fGR) rfl rfl rfl rfl rfl rfl) rfl rfl (fun g24 => g_un (u := .bool c.fRestarting) (v := .bool (!c.fRestarting)) rfl rfl rfl (gt (p := .sc (.bool c.fRestarting)) (q := .sc undef) g24) (fun _ => rfl)) ?_
  refine al_gW (C := ((decide ((0 : Int) ≤ c.fTime)) && (decide ((c.fTime : Int) ≤ 4095))) && !c.fGR) (p := .sc (.bool !c.fRestarting)) (gd_FN (E := (decide ((0 : Int) ≤ c.fTime)) && (decide ((c.fTime : Int) ≤ 4095))) (y := c.fGR) (c := !c.fGR) rfl rfl rfl rfl rfl rfl) rfl rfl (fun g25 => g_move (p := .sc (.bool !c.fRestarting)) rfl rfl rfl (gt (p := .sc (.bool !c.fRestarting)) (q := .sc undef) g25)) ?_
  refine al_gW (C := (((decide ((0 : Int) ≤ c.fTime)) && (decide ((c.fTime : Int) ≤ 4095))) && !c.fGR) && !c.fRestarting) (p := .loc 1 4) (gd_TN (E := ((decide ((0 : Int) ≤ c.fTime)) && (decide ((c.fTime : Int) ≤ 4095))) && !c.fGR) (y := !c.fRestarting) rfl rfl rfl rfl rfl) rfl rfl (fun g26 => g_fieldAddr (b := 1) (k := 0) (m := 4) rfl rfl rfl fld27_4 rfl rfl) ?_
  refine al_gW (C := (((decide ((0 : Int) ≤ c.fTime)) && (decide ((c.fTime : Int) ≤ 4095))) && !c.fGR) && !c.fRestarting) (p := .sc (.int .i64 c.fTime)) (gd_TN (E := ((decide ((0 : Int) ≤ c.fTime)) && (decide ((c.fTime : Int) ≤ 4095))) && !c.fGR) (y := !c.fRestarting) rfl rfl rfl rfl rfl) rfl rfl (fun g27 => g_load (s := 1) (off := 4) (ps := (api_Caps.cells c)) (p := .sc (.int .i64 c.fTime)) rfl rfl rfl ty3 (gt (p := .loc 1 4) (q := .sc undef) g27) rfl rfl rfl rfl) ?_
  refine al_gW (C := (((decide ((0 : Int) ≤ c.fTime)) && (decide ((c.fTime : Int) ≤ 4095))) && !c.fGR) && !c.fRestarting) (p := .sc (.bool (decide ((c.fTime : Int) = 0)))) (gd_TN (E := ((decide ((0 : Int) ≤ c.fTime)) && (decide ((c.fTime : Int) ≤ 4095))) && !c.fGR) (y := !c.fRestarting) rfl rfl rfl rfl rfl) rfl rfl (fun g28 => g_bin (u1 := .int .i64 c.fTime) (u2 := .int .i64 0) (v := .bool (decide ((c.fTime : Int) = 0))) rfl rfl rfl (gt (p := .sc (.int .i64 c.fTime)) (q := .sc undef) g28) rfl (fun _ => rfl)) ?_
  refine al_gW (C := ((decide ((0 : Int) ≤ c.fTime)) && (decide ((c.fTime : Int) ≤ 4095))) && !c.fGR) (p := .sc (.bool (!c.fRestarting && (decide ((c.fTime : Int) = 0))))) (gd_FN (E := (decide ((0 : Int) ≤ c.fTime)) && (decide ((c.fTime : Int) ≤ 4095))) (y := c.fGR) (c := !c.fGR) rfl rfl rfl rfl rfl rfl) rfl rfl (fun g29 => g_andU (b := !c.fRestarting) (y := decide ((c.fTime : Int) = 0)) rfl rfl rfl (gt (p := .sc (.bool !c.fRestarting)) (q := .sc undef) g29) (gA (p := .sc (.bool (decide ((c.fTime : Int) = 0)))) (q := .sc undef) g29)) ?_
  refine al_gW (C := ((decide ((0 : Int) ≤ c.fTime)) && (decide ((c.fTime : Int) ≤ 4095))) && !c.fGR) (p := .sc (.bool (!c.fRestarting && (decide ((c.fTime : Int) = 0))))) (gd_FN (E := (decide ((0 : Int) ≤ c.fTime)) && (decide ((c.fTime : Int) ≤ 4095))) (y := c.fGR) (c := !c.fGR) rfl rfl rfl rfl rfl rfl) rfl rfl (fun g30 => g_move (p := .sc (.bool (!c.fRestarting && (decide ((c.fTime : Int) = 0))))) rfl rfl rfl (gt (p := .sc (.bool (!c.fRestarting && (decide ((c.fTime : Int) = 0))))) (q := .sc undef) g30)) ?_
  refine al_gW (C := (((decide ((0 : Int) ≤ c.fTime)) && (decide ((c.fTime : Int) ≤ 4095))) && !c.fGR) && (!c.fRestarting && (decide ((c.fTime : Int) = 0)))) (p := .loc 1 5) (gd_TN (E := ((decide ((0 : Int) ≤ c.fTime)) && (decide ((c.fTime : Int) ≤ 4095))) && !c.fGR) (y := !c.fRestarting && (decide ((c.fTime : Int) = 0))) rfl rfl rfl rfl rfl) rfl rfl (fun g31 => g_fieldAddr (b := 1) (k := 0) (m := 5) rfl rfl rfl fld27_5 rfl rfl) ?_
  refine al_gW (C := (((decide ((0 : Int) ≤ c.fTime)) && (decide ((c.fTime : Int) ≤ 4095))) && !c.fGR) && (!c.fRestarting && (decide ((c.fTime : Int) = 0)))) (p := .sc (.bool c.fFamily)) (gd_TN (E := ((decide ((0 : Int) ≤ c.fTime)) && (decide ((c.fTime : Int) ≤ 4095))) && !c.fGR) (y := !c.fRestarting && (decide ((c.fTime : Int) = 0))) rfl rfl rfl rfl rfl) rfl rfl (fun g32 => g_load (s := 1) (off := 5) (ps := (api_Caps.cells c)) (p := .sc (.bool c.fFamily)) rfl rfl rfl ty4 (gt (p := .loc 1 5) (q := .sc undef) g32) rfl rfl rfl rfl) ?_
  refine al_gW (C := (((decide ((0 : Int) ≤ c.fTime)) && (decide ((c.fTime : Int) ≤ 4095))) && !c.fGR) && (!c.fRestarting && (decide ((c.fTime : Int) = 0)))) (p := .sc (.bool !c.fFamily)) (gd_TN (E := ((decide ((0 : Int) ≤ c.fTime)) && (decide ((c.fTime : Int) ≤ 4095))) && !c.fGR) (y := !c.fRestarting && (decide ((c.fTime : Int) = 0))) rfl rfl rfl rfl rfl) rfl rfl (fun g33 => g_un (u := .bool c.fFamily) (v := .bool (!c.fFamily)) rfl rfl rfl (gt (p := .sc (.bool c.fFamily)) (q := .sc undef) g33) (fun _ => rfl)) ?_
  refine al_gW (C := ((decide ((0 : Int) ≤ c.fTime)) && (decide ((c.fTime : Int) ≤ 4095))) && !c.fGR) (p := .sc (.bool ((!c.fRestarting && (decide ((c.fTime : Int) = 0))) && !c.fFamily))) (gd_FN (E := (decide ((0 : Int) ≤ c.fTime)) && (decide ((c.fTime : Int) ≤ 4095))) (y := c.fGR) (c := !c.fGR) rfl rfl rfl rfl rfl rfl) rfl rfl (fun g34 => g_andU (b := !c.fRestarting && (decide ((c.fTime : Int) = 0))) (y := !c.fFamily) rfl rfl rfl (gt (p := .sc (.bool (!c.fRestarting && (decide ((c.fTime : Int) = 0))))) (q := .sc undef) g34) (gA (p := .sc (.bool !c.fFamily)) (q := .sc undef) g34)) ?_
  refine al_gW (C := (decide ((0 : Int) ≤ c.fTime)) && (decide ((c.fTime : Int) ≤ 4095))) (p := .sc (.bool (c.fGR || ((!c.fRestarting && (decide ((c.fTime : Int) = 0))) && !c.fFamily)))) (gd_T rfl rfl rfl rfl rfl) rfl rfl (fun g35 => g_orU (b := c.fGR) (y := (!c.fRestarting && (decide ((c.fTime : Int) = 0))) && !c.fFamily) rfl rfl rfl (gt (p := .sc (.bool c.fGR)) (q := .sc undef) g35) (gA (p := .sc (.bool ((!c.fRestarting && (decide ((c.fTime : Int) = 0))) && !c.fFamily))) (q := .sc undef) g35) rfl) ?_
  refine al_op rfl (g_andU (b := (decide ((0 : Int) ≤ c.fTime)) && (decide ((c.fTime : Int) ≤ 4095))) (y := c.fGR || ((!c.fRestarting && (decide ((c.fTime : Int) = 0))) && !c.fFamily)) rfl rfl rfl rfl rfl) ?_
  refine al_op rfl (g_move (p := .sc (.bool (((decide ((0 : Int) ≤ c.fTime)) && (decide ((c.fTime : Int) ≤ 4095))) && (c.fGR || ((!c.fRestarting && (decide ((c.fTime : Int) = 0))) && !c.fFamily))))) rfl rfl rfl rfl) ?_
  refine al_gW (C := ((decide ((0 : Int) ≤ c.fTime)) && (decide ((c.fTime : Int) ≤ 4095))) && (c.fGR || ((!c.fRestarting && (decide ((c.fTime : Int) = 0))) && !c.fFamily))) (p := .loc 1 5) (gd_T rfl rfl rfl rfl rfl) rfl rfl (fun g36 => g_fieldAddr (b := 1) (k := 0) (m := 5) rfl rfl rfl fld27_5 rfl rfl) ?_
  refine al_gW (C := ((decide ((0 : Int) ≤ c.fTime)) && (decide ((c.fTime : Int) ≤ 4095))) && (c.fGR || ((!c.fRestarting && (decide ((c.fTime : Int) = 0))) && !c.fFamily))) (p := .sc (.bool c.fFamily)) (gd_T rfl rfl rfl rfl rfl) rfl rfl (fun g37 => g_load (s := 1) (off := 5) (ps := (api_Caps.cells c)) (p := .sc (.bool c.fFamily)) rfl rfl rfl ty4 (gt (p := .loc 1 5) (q := .sc undef) g37) rfl rfl rfl rfl) ?_
  refine al_gW (C := ((decide ((0 : Int) ≤ c.fTime)) && (decide ((c.fTime : Int) ≤ 4095))) && (c.fGR || ((!c.fRestarting && (decide ((c.fTime : Int) = 0))) && !c.fFamily))) (p := .sc (.bool c.fFamily)) (gd_T rfl rfl rfl rfl rfl) rfl rfl (fun g38 => g_move (p := .sc (.bool c.fFamily)) rfl rfl rfl (gt (p := .sc (.bool c.fFamily)) (q := .sc undef) g38)) ?_
  refine al_gW (C := (((decide ((0 : Int) ≤ c.fTime)) && (decide ((c.fTime : Int) ≤ 4095))) && (c.fGR || ((!c.fRestarting && (decide ((c.fTime : Int) = 0))) && !c.fFamily))) && !c.fFamily) (p := .loc 1 6) (gd_FN (E := ((decide ((0 : Int) ≤ c.fTime)) && (decide ((c.fTime : Int) ≤ 4095))) && (c.fGR || ((!c.fRestarting && (decide ((c.fTime : Int) = 0))) && !c.fFamily))) (y := c.fFamily) (c := !c.fFamily) rfl rfl rfl rfl rfl rfl) rfl rfl (fun g39 => g_fieldAddr (b := 1) (k := 0) (m := 6) rfl rfl rfl fld27_6 rfl rfl) ?_
  refine al_gW (C := (((decide ((0 : Int) ≤ c.fTime)) && (decide ((c.fTime : Int) ≤ 4095))) && (c.fGR || ((!c.fRestarting && (decide ((c.fTime : Int) = 0))) && !c.fFamily))) && !c.fFamily) (p := .sc (.bool c.fForward)) (gd_FN (E := ((decide ((0 : Int) ≤ c.fTime)) && (decide ((c.fTime : Int) ≤ 4095))) && (c.fGR || ((!c.fRestarting && (decide ((c.fTime : Int) = 0))) && !c.fFamily))) (y := c.fFamily) (c := !c.fFamily) rfl rfl rfl rfl rfl rfl) rfl rfl (fun g40 => g_load (s := 1) (off := 6) (ps := (api_Caps.cells c)) (p := .sc (.bool c.fForward)) rfl rfl rfl ty4 (gt (p := .loc 1 6) (q := .sc undef) g40) rfl rfl rfl rfl) ?_
  refine al_gW (C := (((decide ((0 : Int) ≤ c.fTime)) && (decide ((c.fTime : Int) ≤ 4095))) && (c.fGR || ((!c.fRestarting && (decide ((c.fTime : Int) = 0))) && !c.fFamily))) && !c.fFamily) (p := .sc (.bool !c.fForward)) (gd_FN (E := ((decide ((0 : Int) ≤ c.fTime)) && (decide ((c.fTime : Int) ≤ 4095))) && (c.fGR || ((!c.fRestarting && (decide ((c.fTime : Int) = 0))) && !c.fFamily))) (y := c.fFamily) (c := !c.fFamily) rfl rfl rfl rfl rfl rfl) rfl rfl (fun g41 => g_un (u := .bool c.fForward) (v := .bool (!c.fForward)) rfl rfl rfl (gt (p := .sc (.bool c.fForward)) (q := .sc undef) g41) (fun _ => rfl)) ?_
  refine al_gW (C := ((decide ((0 : Int) ≤ c.fTime)) && (decide ((c.fTime : Int) ≤ 4095))) && (c.fGR || ((!c.fRestarting && (decide ((c.fTime : Int) = 0))) && !c.fFamily))) (p := .sc (.bool (c.fFamily || !c.fForward))) (gd_T rfl rfl rfl rfl rfl) rfl rfl (fun g42 => g_orU (b := c.fFamily) (y := !c.fForward) rfl rfl rfl (gt (p := .sc (.bool c.fFamily)) (q := .sc undef) g42) (gA (p := .sc (.bool !c.fForward)) (q := .sc undef) g42) rfl) ?_
  refine al_op rfl (g_andU (b := ((decide ((0 : Int) ≤ c.fTime)) && (decide ((c.fTime : Int) ≤ 4095))) && (c.fGR || ((!c.fRestarting && (decide ((c.fTime : Int) = 0))) && !c.fFamily))) (y := c.fFamily || !c.fForward) rfl rfl rfl rfl rfl) ?_
  refine al_op rfl (g_assign (p := .sc (.bool ((((decide ((0 : Int) ≤ c.fTime)) && (decide ((c.fTime : Int) ≤ 4095))) && (c.fGR || ((!c.fRestarting && (decide ((c.fTime : Int) = 0))) && !c.fFamily))) && (c.fFamily || !c.fForward)))) rfl rfl rfl rfl) ?_
  refine al_nil ?_
  refine aw_seq ?_
  refine aw_region ?_
  refine al_op rfl (g_move (p := .sc (.bool ((!c.fFour && (decide ((c.fAS4 : Int) = 0))) || ((c.fFour && (decide ((1 : Int) ≤ c.fAS4))) && (decide ((c.fAS4 : Int) ≤ 4294967295)))))) rfl rfl rfl rfl) ?_
  refine al_op rfl (g_move (p := .sc (.bool ((!c.fFour && (decide ((c.fAS4 : Int) = 0))) || ((c.fFour && (decide ((1 : Int) ≤ c.fAS4))) && (decide ((c.fAS4 : Int) ≤ 4294967295)))))) rfl rfl rfl rfl) ?_
  refine al_gW (C := (!c.fFour && (decide ((c.fAS4 : Int) = 0))) || ((c.fFour && (decide ((1 : Int) ≤ c.fAS4))) && (decide ((c.fAS4 : Int) ≤ 4294967295)))) (p := .sc (.bool ((((decide ((0 : Int) ≤ c.fTime)) && (decide ((c.fTime : Int) ≤ 4095))) && (c.fGR || ((!c.fRestarting && (decide ((c.fTime : Int) = 0))) && !c.fFamily))) && (c.fFamily || !c.fForward)))) (gd_T rfl rfl rfl rfl rfl) rfl rfl (fun g43 => g_move (p := .sc (.bool ((((decide ((0 : Int) ≤ c.fTime)) && (decide ((c.fTime : Int) ≤ 4095))) && (c.fGR || ((!c.fRestarting && (decide ((c.fTime : Int) = 0))) && !c.fFamily))) && (c.fFamily || !c.fForward)))) rfl rfl rfl rfl) ?_
  refine al_op rfl (g_andU (b := (!c.fFour && (decide ((c.fAS4 : Int) = 0))) || ((c.fFour && (decide ((1 : Int) ≤ c.fAS4))) && (decide ((c.fAS4 : Int) ≤ 4294967295)))) (y := (((decide ((0 : Int) ≤ c.fTime)) && (decide ((c.fTime : Int) ≤ 4095))) && (c.fGR || ((!c.fRestarting && (decide ((c.fTime : Int) = 0))) && !c.fFamily))) && (c.fFamily || !c.fForward)) rfl rfl rfl rfl rfl) ?_
  refine al_op rfl (g_move (p := .sc (.bool (((!c.fFour && (decide ((c.fAS4 : Int) = 0))) || ((c.fFour && (decide ((1 : Int) ≤ c.fAS4))) && (decide ((c.fAS4 : Int) ≤ 4294967295)))) && ((((decide ((0 : Int) ≤ c.fTime)) && (decide ((c.fTime : Int) ≤ 4095))) && (c.fGR || ((!c.fRestarting && (decide ((c.fTime : Int) = 0))) && !c.fFamily))) && (c.fFamily || !c.fForward))))) rfl rfl rfl rfl) ?_
  refine al_gW (C := ((!c.fFour && (decide ((c.fAS4 : Int) = 0))) || ((c.fFour && (decide ((1 : Int) ≤ c.fAS4))) && (decide ((c.fAS4 : Int) ≤ 4294967295)))) && ((((decide ((0 : Int) ≤ c.fTime)) && (decide ((c.fTime : Int) ≤ 4095))) && (c.fGR || ((!c.fRestarting && (decide ((c.fTime : Int) = 0))) && !c.fFamily))) && (c.fFamily || !c.fForward))) (p := .loc 1 8) (gd_T rfl rfl rfl rfl rfl) rfl rfl (fun g44 => g_fieldAddr (b := 1) (k := 0) (m := 8) rfl rfl rfl fld27_8 rfl rfl) ?_
  refine al_gW (C := ((!c.fFour && (decide ((c.fAS4 : Int) = 0))) || ((c.fFour && (decide ((1 : Int) ≤ c.fAS4))) && (decide ((c.fAS4 : Int) ≤ 4294967295)))) && ((((decide ((0 : Int) ≤ c.fTime)) && (decide ((c.fTime : Int) ≤ 4095))) && (c.fGR || ((!c.fRestarting && (decide ((c.fTime : Int) = 0))) && !c.fFamily))) && (c.fFamily || !c.fForward))) (p := .sc (.int .i64 c.fLLTime)) (gd_T rfl rfl rfl rfl rfl) rfl rfl (fun g45 => g_load (s := 1) (off := 8) (ps := (api_Caps.cells c)) (p := .sc (.int .i64 c.fLLTime)) rfl rfl rfl ty3 (gt (p := .loc 1 8) (q := .sc undef) g45) rfl rfl rfl rfl) ?_
  refine al_gW (C := ((!c.fFour && (decide ((c.fAS4 : Int) = 0))) || ((c.fFour && (decide ((1 : Int) ≤ c.fAS4))) && (decide ((c.fAS4 : Int) ≤ 4294967295)))) && ((((decide ((0 : Int) ≤ c.fTime)) && (decide ((c.fTime : Int) ≤ 4095))) && (c.fGR || ((!c.fRestarting && (decide ((c.fTime : Int) = 0))) && !c.fFamily))) && (c.fFamily || !c.fForward))) (p := .sc (.bool (decide ((0 : Int) ≤ c.fLLTime)))) (gd_T rfl rfl rfl rfl rfl) rfl rfl (fun g46 => g_bin (u1 := .int .i64 c.fLLTime) (u2 := .int .i64 0) (v := .bool (decide ((0 : Int) ≤ c.fLLTime))) rfl rfl rfl (gt (p := .sc (.int .i64 c.fLLTime)) (q := .sc undef) g46) rfl (fun _ => rfl)) ?_
  refine al_op rfl (g_andU (b := ((!c.fFour && (decide ((c.fAS4 : Int) = 0))) || ((c.fFour && (decide ((1 : Int) ≤ c.fAS4))) && (decide ((c.fAS4 : Int) ≤ 4294967295)))) && ((((decide ((0 : Int) ≤ c.fTime)) && (decide ((c.fTime : Int) ≤ 4095))) && (c.fGR || ((!c.fRestarting && (decide ((c.fTime : Int) = 0))) && !c.fFamily))) && (c.fFamily || !c.fForward))) (y := decide ((0 : Int) ≤ c.fLLTime)) rfl rfl rfl rfl rfl) ?_
  refine al_op rfl (g_move (p := .sc (.bool ((((!c.fFour && (decide ((c.fAS4 : Int) = 0))) || ((c.fFour && (decide ((1 : Int) ≤ c.fAS4))) && (decide ((c.fAS4 : Int) ≤ 4294967295)))) && ((((decide ((0 : Int) ≤ c.fTime)) && (decide ((c.fTime : Int) ≤ 4095))) && (c.fGR || ((!c.fRestarting && (decide ((c.fTime : Int) = 0))) && !c.fFamily))) && (c.fFamily || !c.fForward))) && (decide ((0 : Int) ≤ c.fLLTime))))) rfl rfl rfl rfl) ?_
  refine al_gW (C := (((!c.fFour && (decide ((c.fAS4 : Int) = 0))) || ((c.fFour && (decide ((1 : Int) ≤ c.fAS4))) && (decide ((c.fAS4 : Int) ≤ 4294967295)))) && ((((decide ((0 : Int) ≤ c.fTime)) && (decide ((c.fTime : Int) ≤ 4095))) && (c.fGR || ((!c.fRestarting && (decide ((c.fTime : Int) = 0))) && !c.fFamily))) && (c.fFamily || !c.fForward))) && (decide ((0 : Int) ≤ c.fLLTime))) (p := .loc 1 8) (gd_T rfl rfl rfl rfl rfl) rfl rfl (fun g47 => g_fieldAddr (b := 1) (k := 0) (m := 8) rfl rfl rfl fld27_8 rfl rfl) ?_
  refine al_gW (C := (((!c.fFour && (decide ((c.fAS4 : Int) = 0))) || ((c.fFour && (decide ((1 : Int) ≤ c.fAS4))) && (decide ((c.fAS4 : Int) ≤ 4294967295)))) && ((((decide ((0 : Int) ≤ c.fTime)) && (decide ((c.fTime : Int) ≤ 4095))) && (c.fGR || ((!c.fRestarting && (decide ((c.fTime : Int) = 0))) && !c.fFamily))) && (c.fFamily || !c.fForward))) && (decide ((0 : Int) ≤ c.fLLTime))) (p := .sc (.int .i64 c.fLLTime)) (gd_T rfl rfl rfl rfl rfl) rfl rfl (fun g48 => g_load (s := 1) (off := 8) (ps := (api_Caps.cells c)) (p := .sc (.int .i64 c.fLLTime)) rfl rfl rfl ty3 (gt (p := .loc 1 8) (q := .sc undef) g48) rfl rfl rfl rfl) ?_
  refine al_gW (C := (((!c.fFour && (decide ((c.fAS4 : Int) = 0))) || ((c.fFour && (decide ((1 : Int) ≤ c.fAS4))) && (decide ((c.fAS4 : Int) ≤ 4294967295)))) && ((((decide ((0 : Int) ≤ c.fTime)) && (decide ((c.fTime : Int) ≤ 4095))) && (c.fGR || ((!c.fRestarting && (decide ((c.fTime : Int) = 0))) && !c.fFamily))) && (c.fFamily || !c.fForward))) && (decide ((0 : Int) ≤ c.fLLTime))) (p := .sc (.bool (decide ((c.fLLTime : Int) ≤ 16777215)))) (gd_T rfl rfl rfl rfl rfl) rfl rfl (fun g49 => g_bin (u1 := .int .i64 c.fLLTime) (u2 := .int .i64 16777215) (v := .bool (decide ((c.fLLTime : Int) ≤ 16777215))) rfl rfl rfl (gt (p := .sc (.int .i64 c.fLLTime)) (q := .sc undef) g49) rfl (fun _ => rfl)) ?_
  refine al_op rfl (g_andU (b := (((!c.fFour && (decide ((c.fAS4 : Int) = 0))) || ((c.fFour && (decide ((1 : Int) ≤ c.fAS4))) && (decide ((c.fAS4 : Int) ≤ 4294967295)))) && ((((decide ((0 : Int) ≤ c.fTime)) && (decide ((c.fTime : Int) ≤ 4095))) && (c.fGR || ((!c.fRestarting && (decide ((c.fTime : Int) = 0))) && !c.fFamily))) && (c.fFamily || !c.fForward))) && (decide ((0 : Int) ≤ c.fLLTime))) (y := decide ((c.fLLTime : Int) ≤ 16777215)) rfl rfl rfl rfl rfl) ?_
  refine al_op rfl (g_move (p := .sc (.bool (((((!c.fFour && (decide ((c.fAS4 : Int) = 0))) || ((c.fFour && (decide ((1 : Int) ≤ c.fAS4))) && (decide ((c.fAS4 : Int) ≤ 4294967295)))) && ((((decide ((0 : Int) ≤ c.fTime)) && (decide ((c.fTime : Int) ≤ 4095))) && (c.fGR || ((!c.fRestarting && (decide ((c.fTime : Int) = 0))) && !c.fFamily))) && (c.fFamily || !c.fForward))) && (decide ((0 : Int) ≤ c.fLLTime))) && (decide ((c.fLLTime : Int) ≤ 16777215))))) rfl rfl rfl rfl) ?_
  refine al_gW (C := ((((!c.fFour && (decide ((c.fAS4 : Int) = 0))) || ((c.fFour && (decide ((1 : Int) ≤ c.fAS4))) && (decide ((c.fAS4 : Int) ≤ 4294967295)))) && ((((decide ((0 : Int) ≤ c.fTime)) && (decide ((c.fTime : Int) ≤ 4095))) && (c.fGR || ((!c.fRestarting && (decide ((c.fTime : Int) = 0))) && !c.fFamily))) && (c.fFamily || !c.fForward))) && (decide ((0 : Int) ≤ c.fLLTime))) && (decide ((c.fLLTime : Int) ≤ 16777215))) (p := .loc 1 7) (gd_T rfl rfl rfl rfl rfl) rfl rfl (fun g50 => g_fieldAddr (b := 1) (k := 0) (m := 7) rfl rfl rfl fld27_7 rfl rfl) ?_
  refine al_gW (C := ((((!c.fFour && (decide ((c.fAS4 : Int) = 0))) || ((c.fFour && (decide ((1 : Int) ≤ c.fAS4))) && (decide ((c.fAS4 : Int) ≤ 4294967295)))) && ((((decide ((0 : Int) ≤ c.fTime)) && (decide ((c.fTime : Int) ≤ 4095))) && (c.fGR || ((!c.fRestarting && (decide ((c.fTime : Int) = 0))) && !c.fFamily))) && (c.fFamily || !c.fForward))) && (decide ((0 : Int) ≤ c.fLLTime))) && (decide ((c.fLLTime : Int) ≤ 16777215))) (p := .sc (.bool c.fLL)) (gd_T rfl rfl rfl rfl rfl) rfl rfl (fun g51 => g_load (s := 1) (off := 7) (ps := (api_Caps.cells c)) (p := .sc (.bool c.fLL)) rfl rfl rfl ty4 (gt (p := .loc 1 7) (q := .sc undef) g51) rfl rfl rfl rfl) ?_
  refine al_gW (C := ((((!c.fFour && (decide ((c.fAS4 : Int) = 0))) || ((c.fFour && (decide ((1 : Int) ≤ c.fAS4))) && (decide ((c.fAS4 : Int) ≤ 4294967295)))) && ((((decide ((0 : Int) ≤ c.fTime)) && (decide ((c.fTime : Int) ≤ 4095))) && (c.fGR || ((!c.fRestarting && (decide ((c.fTime : Int) = 0))) && !c.fFamily))) && (c.fFamily || !c.fForward))) && (decide ((0 : Int) ≤ c.fLLTime))) && (decide ((c.fLLTime : Int) ≤ 16777215))) (p := .sc (.bool c.fLL)) (gd_T rfl rfl rfl rfl rfl) rfl rfl (fun g52 => g_move (p := .sc (.bool c.fLL)) rfl rfl rfl (gt (p := .sc (.bool c.fLL)) (q := .sc undef) g52)) ?_
  refine al_gW (C := (((((!c.fFour && (decide ((c.fAS4 : Int) = 0))) || ((c.fFour && (decide ((1 : Int) ≤ c.fAS4))) && (decide ((c.fAS4 : Int) ≤ 4294967295)))) && ((((decide ((0 : Int) ≤ c.fTime)) && (decide ((c.fTime : Int) ≤ 4095))) && (c.fGR || ((!c.fRestarting && (decide ((c.fTime : Int) = 0))) && !c.fFamily))) && (c.fFamily || !c.fForward))) && (decide ((0 : Int) ≤ c.fLLTime))) && (decide ((c.fLLTime : Int) ≤ 16777215))) && !c.fLL) (p := .loc 1 8) (gd_FN (E := ((((!c.fFour && (decide ((c.fAS4 : Int) = 0))) || ((c.fFour && (decide ((1 : Int) ≤ c.fAS4))) && (decide ((c.fAS4 : Int) ≤ 4294967295)))) && ((((decide ((0 : Int) ≤ c.fTime)) && (decide ((c.fTime : Int) ≤ 4095))) && (c.fGR || ((!c.fRestarting && (decide ((c.fTime : Int) = 0))) && !c.fFamily))) && (c.fFamily || !c.fForward))) && (decide ((0 : Int) ≤ c.fLLTime))) && (decide ((c.fLLTime : Int) ≤ 16777215))) (y := c.fLL) (c := !c.fLL) rfl rfl rfl rfl rfl rfl) rfl rfl (fun g53 => g_fieldAddr (b := 1) (k := 0) (m := 8) rfl rfl rfl fld27_8 rfl rfl) ?_
  refine al_gW (C := (((((!c.fFour && (decide ((c.fAS4 : Int) = 0))) || ((c.fFour && (decide ((1 : Int) ≤ c.fAS4))) && (decide ((c.fAS4 : Int) ≤ 4294967295)))) && ((((decide ((0 : Int) ≤ c.fTime)) && (decide ((c.fTime : Int) ≤ 4095))) && (c.fGR || ((!c.fRestarting && (decide ((c.fTime : Int) = 0))) && !c.fFamily))) && (c.fFamily || !c.fForward))) && (decide ((0 : Int) ≤ c.fLLTime))) && (decide ((c.fLLTime : Int) ≤ 16777215))) && !c.fLL) (p := .sc (.int .i64 c.fLLTime)) (gd_FN (E := ((((!c.fFour && (decide ((c.fAS4 : Int) = 0))) || ((c.fFour && (decide ((1 : Int) ≤ c.fAS4))) && (decide ((c.fAS4 : Int) ≤ 4294967295)))) && ((((decide ((0 : Int) ≤ c.fTime)) && (decide ((c.fTime : Int) ≤ 4095))) && (c.fGR || ((!c.fRestarting && (decide ((c.fTime : Int) = 0))) && !c.fFamily))) && (c.fFamily || !c.fForward))) && (decide ((0 : Int) ≤ c.fLLTime))) && (decide ((c.fLLTime : Int) ≤ 16777215))) (y := c.fLL) (c := !c.fLL) rfl rfl rfl rfl rfl rfl) rfl rfl (fun g54 => g_load (s := 1) (off := 8) (ps := (api_Caps.cells c)) (p := .sc (.int .i64 c.fLLTime)) rfl rfl rfl ty3 (gt (p := .loc 1 8) (q := .sc undef) g54) rfl rfl rfl rfl) ?_
  refine al_gW (C := (((((!c.fFour && (decide ((c.fAS4 : Int) = 0))) || ((c.fFour && (decide ((1 : Int) ≤ c.fAS4))) && (decide ((c.fAS4 : Int) ≤ 4294967295)))) && ((((decide ((0 : Int) ≤ c.fTime)) && (decide ((c.fTime : Int) ≤ 4095))) && (c.fGR || ((!c.fRestarting && (decide ((c.fTime : Int) = 0))) && !c.fFamily))) && (c.fFamily || !c.fForward))) && (decide ((0 : Int) ≤ c.fLLTime))) && (decide ((c.fLLTime : Int) ≤ 16777215))) && !c.fLL) (p := .sc (.bool (decide ((c.fLLTime : Int) = 0)))) (gd_FN (E := ((((!c.fFour && (decide ((c.fAS4 : Int) = 0))) || ((c.fFour && (decide ((1 : Int) ≤ c.fAS4))) && (decide ((c.fAS4 : Int) ≤ 4294967295)))) && ((((decide ((0 : Int) ≤ c.fTime)) && (decide ((c.fTime : Int) ≤ 4095))) && (c.fGR || ((!c.fRestarting && (decide ((c.fTime : Int) = 0))) && !c.fFamily))) && (c.fFamily || !c.fForward))) && (decide ((0 : Int) ≤ c.fLLTime))) && (decide ((c.fLLTime : Int) ≤ 16777215))) (y := c.fLL) (c := !c.fLL) rfl rfl rfl rfl rfl rfl) rfl rfl (fun g55 => g_bin (u1 := .int .i64 c.fLLTime) (u2 := .int .i64 0) (v := .bool (decide ((c.fLLTime : Int) = 0))) rfl rfl rfl (gt (p := .sc (.int .i64 c.fLLTime)) (q := .sc undef) g55) rfl (fun _ => rfl)) ?_
  refine al_gW (C := ((((!c.fFour && (decide ((c.fAS4 : Int) = 0))) || ((c.fFour && (decide ((1 : Int) ≤ c.fAS4))) && (decide ((c.fAS4 : Int) ≤ 4294967295)))) && ((((decide ((0 : Int) ≤ c.fTime)) && (decide ((c.fTime : Int) ≤ 4095))) && (c.fGR || ((!c.fRestarting && (decide ((c.fTime : Int) = 0))) && !c.fFamily))) && (c.fFamily || !c.fForward))) && (decide ((0 : Int) ≤ c.fLLTime))) && (decide ((c.fLLTime : Int) ≤ 16777215))) (p := .sc (.bool (c.fLL || (decide ((c.fLLTime : Int) = 0))))) (gd_T rfl rfl rfl rfl rfl) rfl rfl (fun g56 => g_orU (b := c.fLL) (y := decide ((c.fLLTime : Int) = 0)) rfl rfl rfl (gt (p := .sc (.bool c.fLL)) (q := .sc undef) g56) (gA (p := .sc (.bool (decide ((c.fLLTime : Int) = 0)))) (q := .sc undef) g56) rfl) ?_
  refine al_op rfl (g_andU (b := ((((!c.fFour && (decide ((c.fAS4 : Int) = 0))) || ((c.fFour && (decide ((1 : Int) ≤ c.fAS4))) && (decide ((c.fAS4 : Int) ≤ 4294967295)))) && ((((decide ((0 : Int) ≤ c.fTime)) && (decide ((c.fTime : Int) ≤ 4095))) && (c.fGR || ((!c.fRestarting && (decide ((c.fTime : Int) = 0))) && !c.fFamily))) && (c.fFamily || !c.fForward))) && (decide ((0 : Int) ≤ c.fLLTime))) && (decide ((c.fLLTime : Int) ≤ 16777215))) (y := c.fLL || (decide ((c.fLLTime : Int) = 0))) rfl rfl rfl rfl rfl) ?_
  refine al_op rfl (g_assign (p := .sc (.bool ((((((!c.fFour && (decide ((c.fAS4 : Int) = 0))) || ((c.fFour && (decide ((1 : Int) ≤ c.fAS4))) && (decide ((c.fAS4 : Int) ≤ 4294967295)))) && ((((decide ((0 : Int) ≤ c.fTime)) && (decide ((c.fTime : Int) ≤ 4095))) && (c.fGR || ((!c.fRestarting && (decide ((c.fTime : Int) = 0))) && !c.fFamily))) && (c.fFamily || !c.fForward))) && (decide ((0 : Int) ≤ c.fLLTime))) && (decide ((c.fLLTime : Int) ≤ 16777215))) && (c.fLL || (decide ((c.fLLTime : Int) = 0)))))) rfl rfl rfl rfl) ?_
  refine al_nil ?_
  refine aw_ret ?_
  exact endG_mk (F := (fun (z : Bool) => ⟨[], [], .sc (.bool z)⟩)) (z := (caps_Good c)) (v := (((((!c.fFour && (decide ((c.fAS4 : Int) = 0))) || ((c.fFour && (decide ((1 : Int) ≤ c.fAS4))) && (decide ((c.fAS4 : Int) ≤ 4294967295)))) && ((((decide ((0 : Int) ≤ c.fTime)) && (decide ((c.fTime : Int) ≤ 4095))) && (c.fGR || ((!c.fRestarting && (decide ((c.fTime : Int) = 0))) && !c.fFamily))) && (c.fFamily || !c.fForward))) && (decide ((0 : Int) ≤ c.fLLTime))) && (decide ((c.fLLTime : Int) ≤ 16777215))) && (c.fLL || (decide ((c.fLLTime : Int) = 0)))) rfl rfl (.one (.tmp 2 (.sc (.bool ((((((!c.fFour && (decide ((c.fAS4 : Int) = 0))) || ((c.fFour && (decide ((1 : Int) ≤ c.fAS4))) && (decide ((c.fAS4 : Int) ≤ 4294967295)))) && ((((decide ((0 : Int) ≤ c.fTime)) && (decide ((c.fTime : Int) ≤ 4095))) && (c.fGR || ((!c.fRestarting && (decide ((c.fTime : Int) = 0))) && !c.fFamily))) && (c.fFamily || !c.fForward))) && (decide ((0 : Int) ≤ c.fLLTime))) && (decide ((c.fLLTime : Int) ≤ 16777215))) && (c.fLL || (decide ((c.fLLTime : Int) = 0)))))) rfl) (.one (.rfl _)) rfl) trivial trivial
theorem caps_Good_pf (c : api_Caps) : PF Try.prog 28 [.agg (api_Caps.cells c)] (.sc (.bool (caps_Good c))) := pf_ofG (caps_Good_pf_g c) rfl

/-- interregnum/caps.flag -/
def caps_flag (y : Bool) : Int :=
  (bif y then
    128
  else
    0)
set_option maxRecDepth 100000 in
set_option maxHeartbeats 4000000 in
theorem caps_flag_pf_g (y : Bool) : PG Try.prog 45 [] [] [.sc (.bool y)] (fun _ : Unit => True) (fun _ => (fun (z : Int) => ⟨[], [], .sc (.int .u8 z)⟩) (caps_flag y)) := by
  refine pg_of (N := 4) (l := [.tmp 2]) Try.func45 rfl rfl rfl (Nat.le_of_ble_eq_true rfl) fun w0 i0 F βs => ?_
  refine aw_seq ?_
  refine aw_region ?_
  refine al_op rfl (g_assign (p := .sc (.int .u8 0)) rfl rfl rfl rfl) ?_
  refine al_nil ?_
  refine aw_seq ?_
  refine aw_seq ?_
  refine aw_region ?_
  refine al_op rfl (g_move (p := .sc (.bool y)) rfl rfl rfl rfl) ?_
  refine al_nil ?_
  refine aw_cond (b := y) rfl (fun k1 => ?_) (fun k1 => ?_)
  · skip
    refine aw_seq ?_
    refine aw_region ?_
    refine al_op rfl (g_assign (p := .sc (.int .u8 128)) rfl rfl rfl rfl) ?_
    refine al_nil ?_
    refine aw_ret ?_
    exact endG_mk (F := (fun (z : Int) => ⟨[], [], .sc (.int .u8 z)⟩)) (z := (caps_flag y)) (v := 128) (bT k1 rfl) rfl (.one (.tmp 2 (.sc (.int .u8 128)) rfl) (.one (.rfl _)) rfl) trivial trivial
  · skip
    refine aw_skip ?_
    refine aw_seq ?_
    refine aw_region ?_
    refine al_op rfl (g_assign (p := .sc (.int .u8 0)) rfl rfl rfl rfl) ?_
    refine al_nil ?_
    refine aw_ret ?_
    exact endG_mk (F := (fun (z : Int) => ⟨[], [], .sc (.int .u8 z)⟩)) (z := (caps_flag y)) (v := 0) (bF k1 rfl) rfl (.one (.tmp 2 (.sc (.int .u8 0)) rfl) (.one (.rfl _)) rfl) trivial trivial
theorem caps_flag_pf (y : Bool) : PF Try.prog 45 [.sc (.bool y)] (.sc (.int .u8 (caps_flag y))) := pf_ofG (caps_flag_pf_g y) rfl

/-- interregnum/caps.list -/
def caps_list (c : api_Caps) : List Int :=
  (thn (bif c.fFour then (region_Put (([] : List Int) ++ [65, 4]) (IntKind.wrap .u32 c.fAS4)) else ([] : List Int)) fun (y_1 : List Int) =>
    (thn (bif c.fGR then (thn ((bif c.fFamily then ([(ior .u8 (caps_flag c.fRestarting) (IntKind.wrap .u8 (Int.fdiv c.fTime (2 ^ 8)))), (IntKind.wrap .u8 c.fTime)] ++ [0, 1, 1, (caps_flag c.fForward)]) else [(ior .u8 (caps_flag c.fRestarting) (IntKind.wrap .u8 (Int.fdiv c.fTime (2 ^ 8)))), (IntKind.wrap .u8 c.fTime)])) fun (y_6 : List Int) => ((y_1 ++ [64, (IntKind.wrap .u8 (y_6.length : Int))]) ++ y_6)) else y_1) fun (y_5 : List Int) =>
      (thn (bif c.fLL then (y_5 ++ [71, 7, 0, 1, 1, 0, (IntKind.wrap .u8 (Int.fdiv c.fLLTime (2 ^ 16))), (IntKind.wrap .u8 (Int.fdiv c.fLLTime (2 ^ 8))), (IntKind.wrap .u8 c.fLLTime)]) else y_5) fun (y_14 : List Int) =>
        y_14)))
set_option maxRecDepth 100000 in
set_option maxHeartbeats 4000000 in
theorem caps_list_pf_g (c : api_Caps) : PG Try.prog 38 [] [] [.agg (api_Caps.cells c)] (fun _ : Unit => True) (fun _ => (fun (z : List Int) => ⟨[], [], .sem (SL (eI .u8) z)⟩) (caps_list c)) := by
  refine pg_of (N := 61) (l := [.tmp 2]) Try.func38 rfl rfl rfl (Nat.le_of_ble_eq_true rfl) fun w0 i0 F βs => ?_
  refine aw_seq ?_
  refine aw_region ?_
  refine al_op rfl (g_box (s := 1) (p := .agg (api_Caps.cells c)) (qs := (api_Caps.cells c)) rfl rfl rfl rfl rfl rfl rfl) ?_
  refine al_op rfl (g_assign (p := .sc (.slice none 0 0)) rfl rfl rfl rfl) ?_
  refine al_nil ?_
  refine aw_seq ?_
  refine aw_region ?_
  refine al_op rfl (g_assign (p := .sc (.slice none 0 0)) rfl rfl rfl rfl) ?_
  refine al_nil ?_
  refine aw_nilTip (E := (eI .u8)) (d := 3) (tp := 4003) rfl ?_
  refine aw_joinV (ι := List Int) (p := fun y_1 => ((bif c.fFour then (region_Put (([] : List Int) ++ [65, 4]) (IntKind.wrap .u32 c.fAS4)) else ([] : List Int))) = y_1 ∧ y_1.length ≤ 6) (S := fun y_1 => St.of 61 [(0, .agg (api_Caps.cells c)), (1, .loc 1 0), (2, .sc (.slice none 0 0)), (3, .own 4003 y_1.length (SL (eI .u8) y_1))] [(1, (api_Caps.cells c))] [(4003, (1, y_1.length))]) ?_ (fun y_1 e1 => ?_)
  · skip
    refine aw_seq ?_
    refine aw_region ?_
    refine al_op rfl (g_fieldAddr (b := 1) (k := 0) (m := 0) rfl rfl rfl fld27_0 rfl rfl) ?_
    refine al_op rfl (g_load (s := 1) (off := 0) (ps := (api_Caps.cells c)) (p := .sc (.bool c.fFour)) rfl rfl rfl ty4 rfl rfl rfl rfl rfl) ?_
    refine al_nil ?_
    refine aw_cond (b := c.fFour) rfl (fun k2 => ?_) (fun k2 => ?_)
    · skip
      refine aw_famE (ds := [some 7, some 8, some 9, some 10, some 11, some 12, some 13, some 3]) (ks := [2, 6]) (ps := [.own 4003 (List.length (α := Int) ([] : List Int)) (SL (eI .u8) ([] : List Int)), .sem (SL (eI .u8) [65, 4]), .any, .loc 1 1, .sc (.int .i64 c.fAS4), .sc (.int .u32 (IntKind.wrap .u32 c.fAS4)), .any, .any]) rfl (by kernel_rfl) rfl rfl ?_
      refine famE_setT (d := 9) (q := .own 4003 (List.length (α := Int) (([] : List Int) ++ [65, 4])) (SL (eI .u8) (([] : List Int) ++ [65, 4]))) (tp := 4003) (x := some (1, (List.length (α := Int) (([] : List Int) ++ [65, 4])))) (k := 2) (qs := [.own 4003 (List.length (α := Int) ([] : List Int)) (SL (eI .u8) ([] : List Int)), .sem (SL (eI .u8) [65, 4]), .own 4003 (List.length (α := Int) (([] : List Int) ++ [65, 4])) (SL (eI .u8) (([] : List Int) ++ [65, 4])), .loc 1 1, .sc (.int .i64 c.fAS4), .sc (.int .u32 (IntKind.wrap .u32 c.fAS4)), .any, .any]) [0, 1, 3, 4, 5] [true, true, false, true, true, true, false, false] (by kernel_rfl) (by kernel_rfl) rfl rfl rfl (by kernel_rfl) rfl rfl rfl rfl rfl ?_ (fun bD hc hi hd => by exact g_append (E := (eI .u8)) (l := ([] : List Int)) (ext := [65, 4]) (tp := 4003) rfl rfl rfl el36 (gt (p := .own 4003 (List.length (α := Int) ([] : List Int)) (SL (eI .u8) ([] : List Int))) (q := .any) (hd 0 (by decide))) rfl (by exact (isSl_sem (by exact (gt (p := .sem (SL (eI .u8) [65, 4])) (q := .any) (hd 1 (by decide)))))) (by (try simp only [zB, zC, zD, sub_len, region_Put_len, ref01_Four_len]); omega)) ?_
      · refine fc ?_ (fc ?_ (fc ?_ (fc ?_ (fc ?_ (fn')))))
        · exact ov_step (i := 0) (q := .own 4003 (List.length (α := Int) ([] : List Int)) (SL (eI .u8) ([] : List Int))) rfl rfl rfl (fun bD hc hi hd => gs_plain rfl (g_move (p := .own 4003 (List.length (α := Int) ([] : List Int)) (SL (eI .u8) ([] : List Int))) rfl rfl rfl (gf (q := .own 4003 (List.length (α := Int) ([] : List Int)) (SL (eI .u8) ([] : List Int))) (notyet (j := 7) hc hi (by kernel_rfl)))))
        · exact ov_step (i := 1) (q := .sem (SL (eI .u8) [65, 4])) rfl rfl rfl (fun bD hc hi hd => gs_plain rfl (g_litSl (E := (eI .u8)) (l := [65, 4]) (parts := [(0, .const (.int .u8 65)), (1, .const (.int .u8 4))]) (qs := [.sc (.int .u8 65), .sc (.int .u8 4)]) rfl rfl rfl el36 rfl rfl rfl rfl))
        · exact ov_step (i := 3) (q := .loc 1 1) rfl rfl rfl (fun bD hc hi hd => gs_plain rfl (g_fieldAddr (b := 1) (k := 0) (m := 1) rfl rfl rfl fld27_1 rfl rfl))
        · exact ov_step (i := 4) (q := .sc (.int .i64 c.fAS4)) rfl rfl rfl (fun bD hc hi hd => gs_plain rfl (g_load (s := 1) (off := 1) (ps := (api_Caps.cells c)) (p := .sc (.int .i64 c.fAS4)) rfl rfl rfl ty3 (gt (p := .loc 1 1) (q := .any) (hd 3 (by decide))) rfl rfl rfl rfl))
        · exact ov_step (i := 5) (q := .sc (.int .u32 (IntKind.wrap .u32 c.fAS4))) rfl rfl rfl (fun bD hc hi hd => gs_plain rfl (g_conv (m := (IntKind.wrap .u32 c.fAS4)) rfl rfl rfl Try.underlying3 Try.underlying22 (gt (p := .sc (.int .i64 c.fAS4)) (q := .any) (hd 4 (by decide))) rfl))
      refine famE_behind (k := 6) (qs := [.sem (SL (eI .u8) ([] : List Int)), .sem (SL (eI .u8) [65, 4]), .sem (SL (eI .u8) (([] : List Int) ++ [65, 4])), .loc 1 1, .sc (.int .i64 c.fAS4), .sc (.int .u32 (IntKind.wrap .u32 c.fAS4)), .own 4003 (List.length (α := Int) (region_Put (([] : List Int) ++ [65, 4]) (IntKind.wrap .u32 c.fAS4))) (SL (eI .u8) (region_Put (([] : List Int) ++ [65, 4]) (IntKind.wrap .u32 c.fAS4))), .own 4003 (List.length (α := Int) (region_Put (([] : List Int) ++ [65, 4]) (IntKind.wrap .u32 c.fAS4))) (SL (eI .u8) (region_Put (([] : List Int) ++ [65, 4]) (IntKind.wrap .u32 c.fAS4)))]) [3, 4, 5] [true, true, true, true, true, true, false, false] (by kernel_rfl) (by kernel_rfl) rfl rfl rfl (fun bD hc hi hd => g_callGv (vs := [.own 4003 (List.length (α := Int) (([] : List Int) ++ [65, 4])) (SL (eI .u8) (([] : List Int) ++ [65, 4])), .sc (.int .u32 (IntKind.wrap .u32 c.fAS4))]) (fn := Try.f35) (xs := [.tmp 9, .tmp 12]) (bxs := []) (tps := [(1000, 4003, (1, (([] : List Int) ++ [65, 4]).length))]) (newS := []) (newT := []) (ρ := []) (τ := [(1000, 4003)]) (by exact (congrL2 (b0 := .own 4003 (List.length (α := Int) (([] : List Int) ++ [65, 4])) (SL (eI .u8) (([] : List Int) ++ [65, 4]))) (b1 := .sc (.int .u32 (IntKind.wrap .u32 c.fAS4))) (gt (p := .own 4003 (List.length (α := Int) (([] : List Int) ++ [65, 4])) (SL (eI .u8) (([] : List Int) ++ [65, 4]))) (q := .any) (hd 2 (by decide))) (gt (p := .sc (.int .u32 (IntKind.wrap .u32 c.fAS4))) (q := .any) (hd 5 (by decide))))) rfl rfl rfl Try.func35 rfl rfl (region_Put_pf (([] : List Int) ++ [65, 4]) (IntKind.wrap .u32 c.fAS4) (by (try simp only [zB, zC, zD, sub_len]); omega)) rfl rfl rfl rfl rfl rfl (by decide) fn' (fc rfl fn') ((.cons (.one (.rfl _)) (.cons (.one (.rfl _)) .nil))) rfl (fun _ => rfl) (fun _ => rfl) rfl) (by kernel_rfl) rfl rfl rfl rfl rfl ?_ ?_
      · refine fc ?_ (fc ?_ (fc ?_ (fn')))
        · exact ov_step (i := 3) (q := .loc 1 1) rfl rfl rfl (fun bD hc hi hd => gs_plain rfl (g_fieldAddr (b := 1) (k := 0) (m := 1) rfl rfl rfl fld27_1 rfl rfl))
        · exact ov_step (i := 4) (q := .sc (.int .i64 c.fAS4)) rfl rfl rfl (fun bD hc hi hd => gs_plain rfl (g_load (s := 1) (off := 1) (ps := (api_Caps.cells c)) (p := .sc (.int .i64 c.fAS4)) rfl rfl rfl ty3 (gt (p := .loc 1 1) (q := .any) (hd 3 (by decide))) rfl rfl rfl rfl))
        · exact ov_step (i := 5) (q := .sc (.int .u32 (IntKind.wrap .u32 c.fAS4))) rfl rfl rfl (fun bD hc hi hd => gs_plain rfl (g_conv (m := (IntKind.wrap .u32 c.fAS4)) rfl rfl rfl Try.underlying3 Try.underlying22 (gt (p := .sc (.int .i64 c.fAS4)) (q := .any) (hd 4 (by decide))) rfl))
      refine famE_last [7] (by kernel_rfl) ?_ (fun bD hb => ?_)
      · refine fc ?_ (fn')
        · exact ov_step (i := 7) (q := .own 4003 (List.length (α := Int) (region_Put (([] : List Int) ++ [65, 4]) (IntKind.wrap .u32 c.fAS4))) (SL (eI .u8) (region_Put (([] : List Int) ++ [65, 4]) (IntKind.wrap .u32 c.fAS4)))) rfl rfl rfl (fun bD hc hi hd => gs_plain rfl (g_assign (p := .own 4003 (List.length (α := Int) (region_Put (([] : List Int) ++ [65, 4]) (IntKind.wrap .u32 c.fAS4))) (SL (eI .u8) (region_Put (([] : List Int) ++ [65, 4]) (IntKind.wrap .u32 c.fAS4)))) rfl rfl rfl (gt (p := .own 4003 (List.length (α := Int) (region_Put (([] : List Int) ++ [65, 4]) (IntKind.wrap .u32 c.fAS4))) (SL (eI .u8) (region_Put (([] : List Int) ++ [65, 4]) (IntKind.wrap .u32 c.fAS4)))) (q := .any) (hd 6 (by decide)))))
      obtain rfl : bD = fun _ => true := funext hb
      exact ⟨(region_Put (([] : List Int) ++ [65, 4]) (IntKind.wrap .u32 c.fAS4)), ⟨(bT k2 rfl), (show (region_Put (([] : List Int) ++ [65, 4]) (IntKind.wrap .u32 c.fAS4)).length ≤ 6 from (by (try simp only [zB, zC, zD, sub_len, region_Put_len, ref01_Four_len]); omega))⟩, (sub_of rfl ⟨⟨rfl, (.agg (.cons (.rfl _) (.cons (.rfl _) (.cons (.rfl _) (.cons (.rfl _) (.cons (.rfl _) (.cons (.rfl _) (.cons (.rfl _) (.cons (.rfl _) (.cons (.rfl _) .nil))))))))))⟩, ⟨⟨rfl, (.one (.rfl _))⟩, ⟨⟨rfl, (.one (.rfl _))⟩, ⟨⟨rfl, (.one (.rfl _))⟩, trivial⟩⟩⟩⟩ ⟨⟨(api_Caps.cells c), rfl, (.cons (.rfl _) (.cons (.rfl _) (.cons (.rfl _) (.cons (.rfl _) (.cons (.rfl _) (.cons (.rfl _) (.cons (.rfl _) (.cons (.rfl _) (.cons (.rfl _) .nil)))))))))⟩, trivial⟩ ⟨rfl, trivial⟩)⟩
    · skip
      refine aw_skip ?_
      exact ⟨([] : List Int), ⟨(bF k2 rfl), (show ([] : List Int).length ≤ 6 from (by (try simp only [zB, zC, zD, sub_len, region_Put_len, ref01_Four_len]); omega))⟩, (sub_of rfl ⟨⟨rfl, (.agg (.cons (.rfl _) (.cons (.rfl _) (.cons (.rfl _) (.cons (.rfl _) (.cons (.rfl _) (.cons (.rfl _) (.cons (.rfl _) (.cons (.rfl _) (.cons (.rfl _) .nil))))))))))⟩, ⟨⟨rfl, (.one (.rfl _))⟩, ⟨⟨rfl, (.one (.rfl _))⟩, ⟨⟨rfl, (.one (.rfl _))⟩, trivial⟩⟩⟩⟩ ⟨⟨(api_Caps.cells c), rfl, (.cons (.rfl _) (.cons (.rfl _) (.cons (.rfl _) (.cons (.rfl _) (.cons (.rfl _) (.cons (.rfl _) (.cons (.rfl _) (.cons (.rfl _) (.cons (.rfl _) .nil)))))))))⟩, trivial⟩ ⟨rfl, trivial⟩)⟩
  · skip
    obtain ⟨e1, hb3⟩ := e1
    refine aw_lenO 3 rfl (fun hl4 => ?_)
    refine aw_joinV (ι := List Int) (p := fun y_5 => ((bif c.fGR then (thn ((bif c.fFamily then ([(ior .u8 (caps_flag c.fRestarting) (IntKind.wrap .u8 (Int.fdiv c.fTime (2 ^ 8)))), (IntKind.wrap .u8 c.fTime)] ++ [0, 1, 1, (caps_flag c.fForward)]) else [(ior .u8 (caps_flag c.fRestarting) (IntKind.wrap .u8 (Int.fdiv c.fTime (2 ^ 8)))), (IntKind.wrap .u8 c.fTime)])) fun (y_6 : List Int) => ((y_1 ++ [64, (IntKind.wrap .u8 (y_6.length : Int))]) ++ y_6)) else y_1)) = y_5 ∧ y_5.length ≤ 14) (S := fun y_5 => St.of 61 [(0, .agg (api_Caps.cells c)), (1, .loc 1 0), (2, .sc (.slice none 0 0)), (3, .own 4003 y_5.length (SL (eI .u8) y_5))] [(1, (api_Caps.cells c))] [(4003, (1, y_5.length))]) ?_ (fun y_5 e5 => ?_)
    · skip
      refine aw_seq ?_
      refine aw_region ?_
      refine al_op rfl (g_fieldAddr (b := 1) (k := 0) (m := 2) rfl rfl rfl fld27_2 rfl rfl) ?_
      refine al_op rfl (g_load (s := 1) (off := 2) (ps := (api_Caps.cells c)) (p := .sc (.bool c.fGR)) rfl rfl rfl ty4 rfl rfl rfl rfl rfl) ?_
      refine al_nil ?_
      refine aw_cond (b := c.fGR) rfl (fun k6 => ?_) (fun k6 => ?_)
      · skip
        refine aw_seq ?_
        refine aw_famE (ds := [some 16, some 17, some 18, some 19, some 20, some 21, some 22, some 23, some 24, some 25, some 26, some 27, some 4]) (ks := [11]) (ps := [.loc 1 3, .sc (.bool c.fRestarting), .sc (.int .u8 (caps_flag c.fRestarting)), .loc 1 4, .sc (.int .i64 c.fTime), .sc (.int .i64 (Int.fdiv c.fTime (2 ^ 8))), .sc (.int .u8 (IntKind.wrap .u8 (Int.fdiv c.fTime (2 ^ 8)))), .sc (.int .u8 (ior .u8 (caps_flag c.fRestarting) (IntKind.wrap .u8 (Int.fdiv c.fTime (2 ^ 8))))), .loc 1 4, .sc (.int .i64 c.fTime), .sc (.int .u8 (IntKind.wrap .u8 c.fTime)), .any, .any]) rfl (by kernel_rfl) rfl rfl ?_
        refine famE_newT (d := 27) (q := .own 27 (List.length (α := Int) [(ior .u8 (caps_flag c.fRestarting) (IntKind.wrap .u8 (Int.fdiv c.fTime (2 ^ 8)))), (IntKind.wrap .u8 c.fTime)]) (SL (eI .u8) [(ior .u8 (caps_flag c.fRestarting) (IntKind.wrap .u8 (Int.fdiv c.fTime (2 ^ 8)))), (IntKind.wrap .u8 c.fTime)])) (tp := 27) (x := some (1, (List.length (α := Int) [(ior .u8 (caps_flag c.fRestarting) (IntKind.wrap .u8 (Int.fdiv c.fTime (2 ^ 8)))), (IntKind.wrap .u8 c.fTime)]))) (k := 11) (qs := [.loc 1 3, .sc (.bool c.fRestarting), .sc (.int .u8 (caps_flag c.fRestarting)), .loc 1 4, .sc (.int .i64 c.fTime), .sc (.int .i64 (Int.fdiv c.fTime (2 ^ 8))), .sc (.int .u8 (IntKind.wrap .u8 (Int.fdiv c.fTime (2 ^ 8)))), .sc (.int .u8 (ior .u8 (caps_flag c.fRestarting) (IntKind.wrap .u8 (Int.fdiv c.fTime (2 ^ 8))))), .loc 1 4, .sc (.int .i64 c.fTime), .sc (.int .u8 (IntKind.wrap .u8 c.fTime)), .own 27 (List.length (α := Int) [(ior .u8 (caps_flag c.fRestarting) (IntKind.wrap .u8 (Int.fdiv c.fTime (2 ^ 8)))), (IntKind.wrap .u8 c.fTime)]) (SL (eI .u8) [(ior .u8 (caps_flag c.fRestarting) (IntKind.wrap .u8 (Int.fdiv c.fTime (2 ^ 8)))), (IntKind.wrap .u8 c.fTime)]), .own 27 (List.length (α := Int) [(ior .u8 (caps_flag c.fRestarting) (IntKind.wrap .u8 (Int.fdiv c.fTime (2 ^ 8)))), (IntKind.wrap .u8 c.fTime)]) (SL (eI .u8) [(ior .u8 (caps_flag c.fRestarting) (IntKind.wrap .u8 (Int.fdiv c.fTime (2 ^ 8)))), (IntKind.wrap .u8 c.fTime)])]) [0, 1, 2, 3, 4, 5, 6, 7, 8, 9, 10] [true, true, true, true, true, true, true, true, true, true, true, false, false] (by kernel_rfl) (by kernel_rfl) rfl rfl rfl (by kernel_rfl) rfl rfl rfl rfl rfl ?_ (fun bD hc hi hd => by exact g_buildSliceP (E := (eI .u8)) (l := [(ior .u8 (caps_flag c.fRestarting) (IntKind.wrap .u8 (Int.fdiv c.fTime (2 ^ 8)))), (IntKind.wrap .u8 c.fTime)]) (tp := 27) (parts := [(0, .tmp 23), (1, .tmp 26)]) (pps := [(0, .sc (.int .u8 (ior .u8 (caps_flag c.fRestarting) (IntKind.wrap .u8 (Int.fdiv c.fTime (2 ^ 8)))))), (1, .sc (.int .u8 (IntKind.wrap .u8 c.fTime)))]) (qs := [.sc (.int .u8 (ior .u8 (caps_flag c.fRestarting) (IntKind.wrap .u8 (Int.fdiv c.fTime (2 ^ 8))))), .sc (.int .u8 (IntKind.wrap .u8 c.fTime))]) rfl rfl rfl el36 rfl rfl (congr2 (b0 := .sc (.int .u8 (ior .u8 (caps_flag c.fRestarting) (IntKind.wrap .u8 (Int.fdiv c.fTime (2 ^ 8)))))) (b1 := .sc (.int .u8 (IntKind.wrap .u8 c.fTime))) (gt (p := .sc (.int .u8 (ior .u8 (caps_flag c.fRestarting) (IntKind.wrap .u8 (Int.fdiv c.fTime (2 ^ 8)))))) (q := .any) (hd 7 (by decide))) (gt (p := .sc (.int .u8 (IntKind.wrap .u8 c.fTime))) (q := .any) (hd 10 (by decide)))) rfl rfl) ?_
        · refine fc ?_ (fc ?_ (fc ?_ (fc ?_ (fc ?_ (fc ?_ (fc ?_ (fc ?_ (fc ?_ (fc ?_ (fc ?_ (fn')))))))))))
          · exact ov_step (i := 0) (q := .loc 1 3) rfl rfl rfl (fun bD hc hi hd => gs_plain rfl (g_fieldAddr (b := 1) (k := 0) (m := 3) rfl rfl rfl fld27_3 rfl rfl))
          · exact ov_step (i := 1) (q := .sc (.bool c.fRestarting)) rfl rfl rfl (fun bD hc hi hd => gs_plain rfl (g_load (s := 1) (off := 3) (ps := (api_Caps.cells c)) (p := .sc (.bool c.fRestarting)) rfl rfl rfl ty4 (gt (p := .loc 1 3) (q := .any) (hd 0 (by decide))) rfl rfl rfl rfl))
          · exact ov_step (i := 2) (q := .sc (.int .u8 (caps_flag c.fRestarting))) rfl rfl rfl (fun bD hc hi hd => gs_plain rfl (g_call (fn := Try.f45) (xs := [.tmp 17]) (args := [.sc (.bool c.fRestarting)]) (r := .sc (.int .u8 (caps_flag c.fRestarting))) rfl rfl rfl Try.func45 rfl rfl (congrS1 (b0 := .sc (.bool c.fRestarting)) (gt (p := .sc (.bool c.fRestarting)) (q := .any) (hd 1 (by decide)))) rfl rfl (caps_flag_pf c.fRestarting)))
          · exact ov_step (i := 3) (q := .loc 1 4) rfl rfl rfl (fun bD hc hi hd => gs_plain rfl (g_fieldAddr (b := 1) (k := 0) (m := 4) rfl rfl rfl fld27_4 rfl rfl))
          · exact ov_step (i := 4) (q := .sc (.int .i64 c.fTime)) rfl rfl rfl (fun bD hc hi hd => gs_plain rfl (g_load (s := 1) (off := 4) (ps := (api_Caps.cells c)) (p := .sc (.int .i64 c.fTime)) rfl rfl rfl ty3 (gt (p := .loc 1 4) (q := .any) (hd 3 (by decide))) rfl rfl rfl rfl))
          · exact ov_step (i := 5) (q := .sc (.int .i64 (Int.fdiv c.fTime (2 ^ 8)))) rfl rfl rfl (fun bD hc hi hd => gs_plain rfl (g_bin (u1 := .int .i64 c.fTime) (u2 := .int .u64 8) (v := .int .i64 (Int.fdiv c.fTime (2 ^ 8))) rfl rfl rfl (gt (p := .sc (.int .i64 c.fTime)) (q := .any) (hd 4 (by decide))) rfl (fun _ => rfl)))
          · exact ov_step (i := 6) (q := .sc (.int .u8 (IntKind.wrap .u8 (Int.fdiv c.fTime (2 ^ 8))))) rfl rfl rfl (fun bD hc hi hd => gs_plain rfl (g_conv (m := (IntKind.wrap .u8 (Int.fdiv c.fTime (2 ^ 8)))) rfl rfl rfl Try.underlying3 Try.underlying5 (gt (p := .sc (.int .i64 (Int.fdiv c.fTime (2 ^ 8)))) (q := .any) (hd 5 (by decide))) rfl))
          · exact ov_step (i := 7) (q := .sc (.int .u8 (ior .u8 (caps_flag c.fRestarting) (IntKind.wrap .u8 (Int.fdiv c.fTime (2 ^ 8)))))) rfl rfl rfl (fun bD hc hi hd => gs_plain rfl (g_bin (u1 := .int .u8 (caps_flag c.fRestarting)) (u2 := .int .u8 (IntKind.wrap .u8 (Int.fdiv c.fTime (2 ^ 8)))) (v := .int .u8 (ior .u8 (caps_flag c.fRestarting) (IntKind.wrap .u8 (Int.fdiv c.fTime (2 ^ 8))))) rfl rfl rfl (gt (p := .sc (.int .u8 (caps_flag c.fRestarting))) (q := .any) (hd 2 (by decide))) (gt (p := .sc (.int .u8 (IntKind.wrap .u8 (Int.fdiv c.fTime (2 ^ 8))))) (q := .any) (hd 6 (by decide))) (fun _ => rfl)))
          · exact ov_step (i := 8) (q := .loc 1 4) rfl rfl rfl (fun bD hc hi hd => gs_plain rfl (g_fieldAddr (b := 1) (k := 0) (m := 4) rfl rfl rfl fld27_4 rfl rfl))
          · exact ov_step (i := 9) (q := .sc (.int .i64 c.fTime)) rfl rfl rfl (fun bD hc hi hd => gs_plain rfl (g_load (s := 1) (off := 4) (ps := (api_Caps.cells c)) (p := .sc (.int .i64 c.fTime)) rfl rfl rfl ty3 (gt (p := .loc 1 4) (q := .any) (hd 8 (by decide))) rfl rfl rfl rfl))
          · exact ov_step (i := 10) (q := .sc (.int .u8 (IntKind.wrap .u8 c.fTime))) rfl rfl rfl (fun bD hc hi hd => gs_plain rfl (g_conv (m := (IntKind.wrap .u8 c.fTime)) rfl rfl rfl Try.underlying3 Try.underlying5 (gt (p := .sc (.int .i64 c.fTime)) (q := .any) (hd 9 (by decide))) rfl))
        refine famE_last [12] (by kernel_rfl) ?_ (fun bD hb => ?_)
        · refine fc ?_ (fn')
          · exact ov_step (i := 12) (q := .own 27 (List.length (α := Int) [(ior .u8 (caps_flag c.fRestarting) (IntKind.wrap .u8 (Int.fdiv c.fTime (2 ^ 8)))), (IntKind.wrap .u8 c.fTime)]) (SL (eI .u8) [(ior .u8 (caps_flag c.fRestarting) (IntKind.wrap .u8 (Int.fdiv c.fTime (2 ^ 8)))), (IntKind.wrap .u8 c.fTime)])) rfl rfl rfl (fun bD hc hi hd => gs_plain rfl (g_assign (p := .own 27 (List.length (α := Int) [(ior .u8 (caps_flag c.fRestarting) (IntKind.wrap .u8 (Int.fdiv c.fTime (2 ^ 8)))), (IntKind.wrap .u8 c.fTime)]) (SL (eI .u8) [(ior .u8 (caps_flag c.fRestarting) (IntKind.wrap .u8 (Int.fdiv c.fTime (2 ^ 8)))), (IntKind.wrap .u8 c.fTime)])) rfl rfl rfl (gt (p := .own 27 (List.length (α := Int) [(ior .u8 (caps_flag c.fRestarting) (IntKind.wrap .u8 (Int.fdiv c.fTime (2 ^ 8)))), (IntKind.wrap .u8 c.fTime)]) (SL (eI .u8) [(ior .u8 (caps_flag c.fRestarting) (IntKind.wrap .u8 (Int.fdiv c.fTime (2 ^ 8)))), (IntKind.wrap .u8 c.fTime)])) (q := .any) (hd 11 (by decide)))))
        obtain rfl : bD = fun _ => true := funext hb
        refine aw_joinV (ι := List Int) (p := fun y_7 => ((bif c.fFamily then ([(ior .u8 (caps_flag c.fRestarting) (IntKind.wrap .u8 (Int.fdiv c.fTime (2 ^ 8)))), (IntKind.wrap .u8 c.fTime)] ++ [0, 1, 1, (caps_flag c.fForward)]) else [(ior .u8 (caps_flag c.fRestarting) (IntKind.wrap .u8 (Int.fdiv c.fTime (2 ^ 8)))), (IntKind.wrap .u8 c.fTime)])) = y_7 ∧ y_7.length ≤ 6) (S := fun y_7 => St.of 61 [(0, .agg (api_Caps.cells c)), (1, .loc 1 0), (2, .sc (.slice none 0 0)), (3, .own 4003 y_1.length (SL (eI .u8) y_1)), (4, .own 27 y_7.length (SL (eI .u8) y_7))] [(1, (api_Caps.cells c))] [(27, (1, y_7.length)), (4003, (1, y_1.length))]) ?_ (fun y_7 e7 => ?_)
        · skip
          refine aw_seq ?_
          refine aw_region ?_
          refine al_op rfl (g_fieldAddr (b := 1) (k := 0) (m := 5) rfl rfl rfl fld27_5 rfl rfl) ?_
          refine al_op rfl (g_load (s := 1) (off := 5) (ps := (api_Caps.cells c)) (p := .sc (.bool c.fFamily)) rfl rfl rfl ty4 rfl rfl rfl rfl rfl) ?_
          refine al_nil ?_
          refine aw_cond (b := c.fFamily) rfl (fun k8 => ?_) (fun k8 => ?_)
          · skip
            refine aw_region ?_
            refine al_op rfl (g_move (p := .own 27 (List.length (α := Int) [(ior .u8 (caps_flag c.fRestarting) (IntKind.wrap .u8 (Int.fdiv c.fTime (2 ^ 8)))), (IntKind.wrap .u8 c.fTime)]) (SL (eI .u8) [(ior .u8 (caps_flag c.fRestarting) (IntKind.wrap .u8 (Int.fdiv c.fTime (2 ^ 8)))), (IntKind.wrap .u8 c.fTime)])) rfl rfl rfl rfl) ?_
            refine al_op rfl (g_fieldAddr (b := 1) (k := 0) (m := 6) rfl rfl rfl fld27_6 rfl rfl) ?_
            refine al_op rfl (g_load (s := 1) (off := 6) (ps := (api_Caps.cells c)) (p := .sc (.bool c.fForward)) rfl rfl rfl ty4 rfl rfl rfl rfl rfl) ?_
            refine al_op rfl (g_call (fn := Try.f45) (xs := [.tmp 32]) (args := [.sc (.bool c.fForward)]) (r := .sc (.int .u8 (caps_flag c.fForward))) rfl rfl rfl Try.func45 rfl rfl rfl rfl rfl (caps_flag_pf c.fForward)) ?_
            refine al_op rfl (g_buildSlice (E := (eI .u8)) (l := [0, 1, 1, (caps_flag c.fForward)]) (tp := 34) (parts := [(0, .const (.int .u8 0)), (1, .const (.int .u8 1)), (2, .const (.int .u8 1)), (3, .tmp 33)]) (qs := [.sc (.int .u8 0), .sc (.int .u8 1), .sc (.int .u8 1), .sc (.int .u8 (caps_flag c.fForward))]) rfl rfl rfl el36 rfl rfl rfl rfl) ?_
            refine al_op rfl (g_append (E := (eI .u8)) (l := [(ior .u8 (caps_flag c.fRestarting) (IntKind.wrap .u8 (Int.fdiv c.fTime (2 ^ 8)))), (IntKind.wrap .u8 c.fTime)]) (ext := [0, 1, 1, (caps_flag c.fForward)]) (tp := 27) rfl rfl rfl el36 rfl rfl (isSl_own rfl) (by (try simp only [zB, zC, zD, sub_len, region_Put_len, ref01_Four_len]); omega)) ?_
            refine al_op rfl (g_assign (p := .own 27 (List.length (α := Int) ([(ior .u8 (caps_flag c.fRestarting) (IntKind.wrap .u8 (Int.fdiv c.fTime (2 ^ 8)))), (IntKind.wrap .u8 c.fTime)] ++ [0, 1, 1, (caps_flag c.fForward)])) (SL (eI .u8) ([(ior .u8 (caps_flag c.fRestarting) (IntKind.wrap .u8 (Int.fdiv c.fTime (2 ^ 8)))), (IntKind.wrap .u8 c.fTime)] ++ [0, 1, 1, (caps_flag c.fForward)]))) rfl rfl rfl rfl) ?_
            refine al_nil ?_
            exact ⟨([(ior .u8 (caps_flag c.fRestarting) (IntKind.wrap .u8 (Int.fdiv c.fTime (2 ^ 8)))), (IntKind.wrap .u8 c.fTime)] ++ [0, 1, 1, (caps_flag c.fForward)]), ⟨(bT k8 rfl), (show ([(ior .u8 (caps_flag c.fRestarting) (IntKind.wrap .u8 (Int.fdiv c.fTime (2 ^ 8)))), (IntKind.wrap .u8 c.fTime)] ++ [0, 1, 1, (caps_flag c.fForward)]).length ≤ 6 from (by (try simp only [zB, zC, zD, sub_len, region_Put_len, ref01_Four_len]); omega))⟩, (sub_of rfl ⟨⟨rfl, (.agg (.cons (.rfl _) (.cons (.rfl _) (.cons (.rfl _) (.cons (.rfl _) (.cons (.rfl _) (.cons (.rfl _) (.cons (.rfl _) (.cons (.rfl _) (.cons (.rfl _) .nil))))))))))⟩, ⟨⟨rfl, (.one (.rfl _))⟩, ⟨⟨rfl, (.one (.rfl _))⟩, ⟨⟨rfl, (.one (.rfl _))⟩, ⟨⟨rfl, (.one (.rfl _))⟩, trivial⟩⟩⟩⟩⟩ ⟨⟨(api_Caps.cells c), rfl, (.cons (.rfl _) (.cons (.rfl _) (.cons (.rfl _) (.cons (.rfl _) (.cons (.rfl _) (.cons (.rfl _) (.cons (.rfl _) (.cons (.rfl _) (.cons (.rfl _) .nil)))))))))⟩, trivial⟩ ⟨rfl, ⟨rfl, trivial⟩⟩)⟩
          · skip
            refine aw_skip ?_
            exact ⟨[(ior .u8 (caps_flag c.fRestarting) (IntKind.wrap .u8 (Int.fdiv c.fTime (2 ^ 8)))), (IntKind.wrap .u8 c.fTime)], ⟨(bF k8 rfl), (show [(ior .u8 (caps_flag c.fRestarting) (IntKind.wrap .u8 (Int.fdiv c.fTime (2 ^ 8)))), (IntKind.wrap .u8 c.fTime)].length ≤ 6 from (by (try simp only [zB, zC, zD, sub_len, region_Put_len, ref01_Four_len]); omega))⟩, (sub_of rfl ⟨⟨rfl, (.agg (.cons (.rfl _) (.cons (.rfl _) (.cons (.rfl _) (.cons (.rfl _) (.cons (.rfl _) (.cons (.rfl _) (.cons (.rfl _) (.cons (.rfl _) (.cons (.rfl _) .nil))))))))))⟩, ⟨⟨rfl, (.one (.rfl _))⟩, ⟨⟨rfl, (.one (.rfl _))⟩, ⟨⟨rfl, (.one (.rfl _))⟩, ⟨⟨rfl, (.one (.rfl _))⟩, trivial⟩⟩⟩⟩⟩ ⟨⟨(api_Caps.cells c), rfl, (.cons (.rfl _) (.cons (.rfl _) (.cons (.rfl _) (.cons (.rfl _) (.cons (.rfl _) (.cons (.rfl _) (.cons (.rfl _) (.cons (.rfl _) (.cons (.rfl _) .nil)))))))))⟩, trivial⟩ ⟨rfl, ⟨rfl, trivial⟩⟩)⟩
        · skip
          obtain ⟨e7, hb9⟩ := e7
          refine aw_lenO 3 rfl (fun hl10 => ?_)
          refine aw_lenO 4 rfl (fun hl11 => ?_)
          refine aw_region ?_
          refine al_op rfl (g_move (p := .own 4003 y_1.length (SL (eI .u8) y_1)) rfl rfl rfl rfl) ?_
          refine al_op rfl (g_move (p := .own 27 y_7.length (SL (eI .u8) y_7)) rfl rfl rfl rfl) ?_
          refine al_op rfl (g_len rfl rfl rfl Try.underlying36 (isSl_own rfl)) ?_
          refine al_op rfl (g_conv (m := (IntKind.wrap .u8 (y_7.length : Int))) rfl rfl rfl Try.underlying3 Try.underlying5 rfl rfl) ?_
          refine al_op rfl (g_buildSlice (E := (eI .u8)) (l := [64, (IntKind.wrap .u8 (y_7.length : Int))]) (tp := 40) (parts := [(0, .const (.int .u8 64)), (1, .tmp 39)]) (qs := [.sc (.int .u8 64), .sc (.int .u8 (IntKind.wrap .u8 (y_7.length : Int)))]) rfl rfl rfl el36 rfl rfl rfl rfl) ?_
          refine al_op rfl (g_append (E := (eI .u8)) (l := y_1) (ext := [64, (IntKind.wrap .u8 (y_7.length : Int))]) (tp := 4003) rfl rfl rfl el36 rfl rfl (isSl_own rfl) (by (try simp only [zB, zC, zD, sub_len, region_Put_len, ref01_Four_len]); omega)) ?_
          refine al_op rfl (g_move (p := .own 27 y_7.length (SL (eI .u8) y_7)) rfl rfl rfl rfl) ?_
          refine al_op rfl (g_append (E := (eI .u8)) (l := (y_1 ++ [64, (IntKind.wrap .u8 (y_7.length : Int))])) (ext := y_7) (tp := 4003) rfl rfl rfl el36 rfl rfl (isSl_own rfl) (by (try simp only [zB, zC, zD, sub_len, region_Put_len, ref01_Four_len]); omega)) ?_
          refine al_op rfl (g_assign (p := .own 4003 (List.length (α := Int) ((y_1 ++ [64, (IntKind.wrap .u8 (y_7.length : Int))]) ++ y_7)) (SL (eI .u8) ((y_1 ++ [64, (IntKind.wrap .u8 (y_7.length : Int))]) ++ y_7))) rfl rfl rfl rfl) ?_
          refine al_nil ?_
          exact ⟨((y_1 ++ [64, (IntKind.wrap .u8 (y_7.length : Int))]) ++ y_7), ⟨(bT k6 (mB e7 rfl)), (show ((y_1 ++ [64, (IntKind.wrap .u8 (y_7.length : Int))]) ++ y_7).length ≤ 14 from (by (try simp only [zB, zC, zD, sub_len, region_Put_len, ref01_Four_len]); omega))⟩, (sub_of rfl ⟨⟨rfl, (.agg (.cons (.rfl _) (.cons (.rfl _) (.cons (.rfl _) (.cons (.rfl _) (.cons (.rfl _) (.cons (.rfl _) (.cons (.rfl _) (.cons (.rfl _) (.cons (.rfl _) .nil))))))))))⟩, ⟨⟨rfl, (.one (.rfl _))⟩, ⟨⟨rfl, (.one (.rfl _))⟩, ⟨⟨rfl, (.one (.rfl _))⟩, trivial⟩⟩⟩⟩ ⟨⟨(api_Caps.cells c), rfl, (.cons (.rfl _) (.cons (.rfl _) (.cons (.rfl _) (.cons (.rfl _) (.cons (.rfl _) (.cons (.rfl _) (.cons (.rfl _) (.cons (.rfl _) (.cons (.rfl _) .nil)))))))))⟩, trivial⟩ ⟨rfl, trivial⟩)⟩
      · skip
        refine aw_skip ?_
        exact ⟨y_1, ⟨(bF k6 rfl), (show y_1.length ≤ 14 from (by (try simp only [zB, zC, zD, sub_len, region_Put_len, ref01_Four_len]); omega))⟩, (sub_of rfl ⟨⟨rfl, (.agg (.cons (.rfl _) (.cons (.rfl _) (.cons (.rfl _) (.cons (.rfl _) (.cons (.rfl _) (.cons (.rfl _) (.cons (.rfl _) (.cons (.rfl _) (.cons (.rfl _) .nil))))))))))⟩, ⟨⟨rfl, (.one (.rfl _))⟩, ⟨⟨rfl, (.one (.rfl _))⟩, ⟨⟨rfl, (.one (.rfl _))⟩, trivial⟩⟩⟩⟩ ⟨⟨(api_Caps.cells c), rfl, (.cons (.rfl _) (.cons (.rfl _) (.cons (.rfl _) (.cons (.rfl _) (.cons (.rfl _) (.cons (.rfl _) (.cons (.rfl _) (.cons (.rfl _) (.cons (.rfl _) .nil)))))))))⟩, trivial⟩ ⟨rfl, trivial⟩)⟩
    · skip
      obtain ⟨e5, hb12⟩ := e5
      refine aw_lenO 3 rfl (fun hl13 => ?_)
      refine aw_joinV (ι := List Int) (p := fun y_14 => ((bif c.fLL then (y_5 ++ [71, 7, 0, 1, 1, 0, (IntKind.wrap .u8 (Int.fdiv c.fLLTime (2 ^ 16))), (IntKind.wrap .u8 (Int.fdiv c.fLLTime (2 ^ 8))), (IntKind.wrap .u8 c.fLLTime)]) else y_5)) = y_14 ∧ y_14.length ≤ 23) (S := fun y_14 => St.of 61 [(0, .agg (api_Caps.cells c)), (1, .loc 1 0), (2, .sc (.slice none 0 0)), (3, .own 4003 y_14.length (SL (eI .u8) y_14))] [(1, (api_Caps.cells c))] [(4003, (1, y_14.length))]) ?_ (fun y_14 e14 => ?_)
      · skip
        refine aw_seq ?_
        refine aw_region ?_
        refine al_op rfl (g_fieldAddr (b := 1) (k := 0) (m := 7) rfl rfl rfl fld27_7 rfl rfl) ?_
        refine al_op rfl (g_load (s := 1) (off := 7) (ps := (api_Caps.cells c)) (p := .sc (.bool c.fLL)) rfl rfl rfl ty4 rfl rfl rfl rfl rfl) ?_
        refine al_nil ?_
        refine aw_cond (b := c.fLL) rfl (fun k15 => ?_) (fun k15 => ?_)
        · skip
          refine aw_region ?_
          refine al_op rfl (g_move (p := .own 4003 y_5.length (SL (eI .u8) y_5)) rfl rfl rfl rfl) ?_
          refine al_op rfl (g_fieldAddr (b := 1) (k := 0) (m := 8) rfl rfl rfl fld27_8 rfl rfl) ?_
          refine al_op rfl (g_load (s := 1) (off := 8) (ps := (api_Caps.cells c)) (p := .sc (.int .i64 c.fLLTime)) rfl rfl rfl ty3 rfl rfl rfl rfl rfl) ?_
          refine al_op rfl (g_bin (u1 := .int .i64 c.fLLTime) (u2 := .int .u64 16) (v := .int .i64 (Int.fdiv c.fLLTime (2 ^ 16))) rfl rfl rfl rfl rfl (fun _ => rfl)) ?_
          refine al_op rfl (g_conv (m := (IntKind.wrap .u8 (Int.fdiv c.fLLTime (2 ^ 16)))) rfl rfl rfl Try.underlying3 Try.underlying5 rfl rfl) ?_
          refine al_op rfl (g_fieldAddr (b := 1) (k := 0) (m := 8) rfl rfl rfl fld27_8 rfl rfl) ?_
          refine al_op rfl (g_load (s := 1) (off := 8) (ps := (api_Caps.cells c)) (p := .sc (.int .i64 c.fLLTime)) rfl rfl rfl ty3 rfl rfl rfl rfl rfl) ?_
          refine al_op rfl (g_bin (u1 := .int .i64 c.fLLTime) (u2 := .int .u64 8) (v := .int .i64 (Int.fdiv c.fLLTime (2 ^ 8))) rfl rfl rfl rfl rfl (fun _ => rfl)) ?_
          refine al_op rfl (g_conv (m := (IntKind.wrap .u8 (Int.fdiv c.fLLTime (2 ^ 8)))) rfl rfl rfl Try.underlying3 Try.underlying5 rfl rfl) ?_
          refine al_op rfl (g_fieldAddr (b := 1) (k := 0) (m := 8) rfl rfl rfl fld27_8 rfl rfl) ?_
          refine al_op rfl (g_load (s := 1) (off := 8) (ps := (api_Caps.cells c)) (p := .sc (.int .i64 c.fLLTime)) rfl rfl rfl ty3 rfl rfl rfl rfl rfl) ?_
          refine al_op rfl (g_conv (m := (IntKind.wrap .u8 c.fLLTime)) rfl rfl rfl Try.underlying3 Try.underlying5 rfl rfl) ?_
          refine al_op rfl (g_buildSlice (E := (eI .u8)) (l := [71, 7, 0, 1, 1, 0, (IntKind.wrap .u8 (Int.fdiv c.fLLTime (2 ^ 16))), (IntKind.wrap .u8 (Int.fdiv c.fLLTime (2 ^ 8))), (IntKind.wrap .u8 c.fLLTime)]) (tp := 58) (parts := [(0, .const (.int .u8 71)), (1, .const (.int .u8 7)), (2, .const (.int .u8 0)), (3, .const (.int .u8 1)), (4, .const (.int .u8 1)), (5, .const (.int .u8 0)), (6, .tmp 50), (7, .tmp 54), (8, .tmp 57)]) (qs := [.sc (.int .u8 71), .sc (.int .u8 7), .sc (.int .u8 0), .sc (.int .u8 1), .sc (.int .u8 1), .sc (.int .u8 0), .sc (.int .u8 (IntKind.wrap .u8 (Int.fdiv c.fLLTime (2 ^ 16)))), .sc (.int .u8 (IntKind.wrap .u8 (Int.fdiv c.fLLTime (2 ^ 8)))), .sc (.int .u8 (IntKind.wrap .u8 c.fLLTime))]) rfl rfl rfl el36 rfl rfl rfl rfl) ?_
          refine al_op rfl (g_append (E := (eI .u8)) (l := y_5) (ext := [71, 7, 0, 1, 1, 0, (IntKind.wrap .u8 (Int.fdiv c.fLLTime (2 ^ 16))), (IntKind.wrap .u8 (Int.fdiv c.fLLTime (2 ^ 8))), (IntKind.wrap .u8 c.fLLTime)]) (tp := 4003) rfl rfl rfl el36 rfl rfl (isSl_own rfl) (by (try simp only [zB, zC, zD, sub_len, region_Put_len, ref01_Four_len]); omega)) ?_
          refine al_op rfl (g_assign (p := .own 4003 (List.length (α := Int) (y_5 ++ [71, 7, 0, 1, 1, 0, (IntKind.wrap .u8 (Int.fdiv c.fLLTime (2 ^ 16))), (IntKind.wrap .u8 (Int.fdiv c.fLLTime (2 ^ 8))), (IntKind.wrap .u8 c.fLLTime)])) (SL (eI .u8) (y_5 ++ [71, 7, 0, 1, 1, 0, (IntKind.wrap .u8 (Int.fdiv c.fLLTime (2 ^ 16))), (IntKind.wrap .u8 (Int.fdiv c.fLLTime (2 ^ 8))), (IntKind.wrap .u8 c.fLLTime)]))) rfl rfl rfl rfl) ?_
          refine al_nil ?_
          exact ⟨(y_5 ++ [71, 7, 0, 1, 1, 0, (IntKind.wrap .u8 (Int.fdiv c.fLLTime (2 ^ 16))), (IntKind.wrap .u8 (Int.fdiv c.fLLTime (2 ^ 8))), (IntKind.wrap .u8 c.fLLTime)]), ⟨(bT k15 rfl), (show (y_5 ++ [71, 7, 0, 1, 1, 0, (IntKind.wrap .u8 (Int.fdiv c.fLLTime (2 ^ 16))), (IntKind.wrap .u8 (Int.fdiv c.fLLTime (2 ^ 8))), (IntKind.wrap .u8 c.fLLTime)]).length ≤ 23 from (by (try simp only [zB, zC, zD, sub_len, region_Put_len, ref01_Four_len]); omega))⟩, (sub_of rfl ⟨⟨rfl, (.agg (.cons (.rfl _) (.cons (.rfl _) (.cons (.rfl _) (.cons (.rfl _) (.cons (.rfl _) (.cons (.rfl _) (.cons (.rfl _) (.cons (.rfl _) (.cons (.rfl _) .nil))))))))))⟩, ⟨⟨rfl, (.one (.rfl _))⟩, ⟨⟨rfl, (.one (.rfl _))⟩, ⟨⟨rfl, (.one (.rfl _))⟩, trivial⟩⟩⟩⟩ ⟨⟨(api_Caps.cells c), rfl, (.cons (.rfl _) (.cons (.rfl _) (.cons (.rfl _) (.cons (.rfl _) (.cons (.rfl _) (.cons (.rfl _) (.cons (.rfl _) (.cons (.rfl _) (.cons (.rfl _) .nil)))))))))⟩, trivial⟩ ⟨rfl, trivial⟩)⟩
        · skip
          refine aw_skip ?_
          exact ⟨y_5, ⟨(bF k15 rfl), (show y_5.length ≤ 23 from (by (try simp only [zB, zC, zD, sub_len, region_Put_len, ref01_Four_len]); omega))⟩, (sub_of rfl ⟨⟨rfl, (.agg (.cons (.rfl _) (.cons (.rfl _) (.cons (.rfl _) (.cons (.rfl _) (.cons (.rfl _) (.cons (.rfl _) (.cons (.rfl _) (.cons (.rfl _) (.cons (.rfl _) .nil))))))))))⟩, ⟨⟨rfl, (.one (.rfl _))⟩, ⟨⟨rfl, (.one (.rfl _))⟩, ⟨⟨rfl, (.one (.rfl _))⟩, trivial⟩⟩⟩⟩ ⟨⟨(api_Caps.cells c), rfl, (.cons (.rfl _) (.cons (.rfl _) (.cons (.rfl _) (.cons (.rfl _) (.cons (.rfl _) (.cons (.rfl _) (.cons (.rfl _) (.cons (.rfl _) (.cons (.rfl _) .nil)))))))))⟩, trivial⟩ ⟨rfl, trivial⟩)⟩
      · skip
        obtain ⟨e14, hb16⟩ := e14
        refine aw_lenO 3 rfl (fun hl17 => ?_)
        refine aw_seq ?_
        refine aw_region ?_
        refine al_op rfl (g_move (p := .own 4003 y_14.length (SL (eI .u8) y_14)) rfl rfl rfl rfl) ?_
        refine al_op rfl (g_assign (p := .own 4003 y_14.length (SL (eI .u8) y_14)) rfl rfl rfl rfl) ?_
        refine al_nil ?_
        refine aw_ret ?_
        exact endG_mk (F := (fun (z : List Int) => ⟨[], [], .sem (SL (eI .u8) z)⟩)) (z := (caps_list c)) (v := y_14) (mB e1 (mB e5 (mB e14 rfl))) rfl (.one (.tmp 2 (.sem (SL (eI .u8) y_14)) rfl) (.one (.rfl _)) rfl) trivial trivial
theorem caps_list_pf (c : api_Caps) : PF Try.prog 38 [.agg (api_Caps.cells c)] (.sem (SL (eI .u8) (caps_list c))) := pf_ofG (caps_list_pf_g c) rfl
theorem caps_list_len (c : api_Caps) : (caps_list c).length ≤ 40 := by
  simp only [caps_list, thn]
  cases c.fFour <;> cases c.fGR <;> cases c.fFamily <;> cases c.fLL <;> simp [region_Put]

/-- interregnum/caps.Encode -/
def caps_Encode (c : api_Caps) : List Int :=
  (bif (!(caps_Good c)) || (decide ((((caps_list c).length : Int) : Int) = 0)) then
    []
  else
    ([2, (IntKind.wrap .u8 ((caps_list c).length : Int))] ++ (caps_list c)))
set_option maxRecDepth 100000 in
set_option maxHeartbeats 4000000 in
theorem caps_Encode_pf_g (c : api_Caps) : PG Try.prog 27 [] [] [.agg (api_Caps.cells c)] (fun _ : Unit => True) (fun _ => (fun (z : List Int) => ⟨[], [], .sem (SL (eI .u8) z)⟩) (caps_Encode c)) := by
  refine pg_of (N := 20) (l := [.tmp 2]) Try.func27 rfl rfl rfl (Nat.le_of_ble_eq_true rfl) fun w0 i0 F βs => ?_
  refine aw_seq ?_
  refine aw_region ?_
  refine al_op rfl (g_box (s := 1) (p := .agg (api_Caps.cells c)) (qs := (api_Caps.cells c)) rfl rfl rfl rfl rfl rfl rfl) ?_
  refine al_op rfl (g_assign (p := .sc (.slice none 0 0)) rfl rfl rfl rfl) ?_
  refine al_nil ?_
  refine aw_seq ?_
  refine aw_region ?_
  refine al_op rfl (g_load (s := 1) (off := 0) (ps := (api_Caps.cells c)) (p := .agg (api_Caps.cells c)) rfl rfl rfl ty27 rfl rfl rfl rfl rfl) ?_
  have hm1 := caps_list_len c
  refine al_op rfl (g_call (fn := Try.f38) (xs := [.tmp 4]) (args := [.agg (api_Caps.cells c)]) (r := .sem (SL (eI .u8) (caps_list c))) rfl rfl rfl Try.func38 rfl rfl rfl rfl rfl (caps_list_pf c)) ?_
  refine al_op rfl (g_assign (p := .sem (SL (eI .u8) (caps_list c))) rfl rfl rfl rfl) ?_
  refine al_nil ?_
  refine aw_seq ?_
  refine aw_seq ?_
  refine aw_region ?_
  refine al_op rfl (g_load (s := 1) (off := 0) (ps := (api_Caps.cells c)) (p := .agg (api_Caps.cells c)) rfl rfl rfl ty27 rfl rfl rfl rfl rfl) ?_
  refine al_op rfl (g_call (fn := Try.f28) (xs := [.tmp 6]) (args := [.agg (api_Caps.cells c)]) (r := .sc (.bool (caps_Good c))) rfl rfl rfl Try.func28 rfl rfl rfl rfl rfl (caps_Good_pf c)) ?_
  refine al_op rfl (g_un (u := .bool (caps_Good c)) (v := .bool (!(caps_Good c))) rfl rfl rfl rfl (fun _ => rfl)) ?_
  refine al_op rfl (g_move (p := .sc (.bool (!(caps_Good c)))) rfl rfl rfl rfl) ?_
  refine al_gW (C := (caps_Good c)) (p := .sem (SL (eI .u8) (caps_list c))) (gd_F (b := !(caps_Good c)) (c := (caps_Good c)) rfl rfl rfl rfl rfl (Bool.not_not _)) rfl rfl (fun g2 => g_move (p := .sem (SL (eI .u8) (caps_list c))) rfl rfl rfl rfl) ?_
  refine al_gW (C := (caps_Good c)) (p := .sc (.int .i64 ((caps_list c).length : Int))) (gd_F (b := !(caps_Good c)) (c := (caps_Good c)) rfl rfl rfl rfl rfl (Bool.not_not _)) rfl rfl (fun g3 => g_len rfl rfl rfl Try.underlying36 (by exact (isSl_sem (by exact (gt (p := .sem (SL (eI .u8) (caps_list c))) (q := .sc undef) g3))))) ?_
  refine al_gW (C := (caps_Good c)) (p := .sc (.bool (decide ((((caps_list c).length : Int) : Int) = 0)))) (gd_F (b := !(caps_Good c)) (c := (caps_Good c)) rfl rfl rfl rfl rfl (Bool.not_not _)) rfl rfl (fun g4 => g_bin (u1 := .int .i64 ((caps_list c).length : Int)) (u2 := .int .i64 0) (v := .bool (decide ((((caps_list c).length : Int) : Int) = 0))) rfl rfl rfl (gt (p := .sc (.int .i64 ((caps_list c).length : Int))) (q := .sc undef) g4) rfl (fun _ => rfl)) ?_
  refine al_op rfl (g_orU (b := !(caps_Good c)) (y := decide ((((caps_list c).length : Int) : Int) = 0)) rfl rfl rfl rfl rfl (Bool.not_not _)) ?_
  refine al_nil ?_
  refine aw_cond (b := (!(caps_Good c)) || (decide ((((caps_list c).length : Int) : Int) = 0))) rfl (fun k5 => ?_) (fun k5 => ?_)
  · skip
    refine aw_seq ?_
    refine aw_region ?_
    refine al_op rfl (g_assign (p := .sc (.slice none 0 0)) rfl rfl rfl rfl) ?_
    refine al_nil ?_
    refine aw_ret ?_
    exact endG_mk (F := (fun (z : List Int) => ⟨[], [], .sem (SL (eI .u8) z)⟩)) (z := (caps_Encode c)) (v := []) (bT k5 rfl) rfl (.one (.tmp 2 (.sc (.slice none 0 0)) rfl) (.one (.nil _)) rfl) trivial trivial
  · skip
    refine aw_skip ?_
    refine aw_seq ?_
    refine aw_region ?_
    refine al_op rfl (g_move (p := .sem (SL (eI .u8) (caps_list c))) rfl rfl rfl rfl) ?_
    refine al_op rfl (g_len rfl rfl rfl Try.underlying36 (isSl_sem rfl)) ?_
    refine al_op rfl (g_conv (m := (IntKind.wrap .u8 ((caps_list c).length : Int))) rfl rfl rfl Try.underlying3 Try.underlying5 rfl rfl) ?_
    refine al_op rfl (g_buildSlice (E := (eI .u8)) (l := [2, (IntKind.wrap .u8 ((caps_list c).length : Int))]) (tp := 17) (parts := [(0, .const (.int .u8 2)), (1, .tmp 16)]) (qs := [.sc (.int .u8 2), .sc (.int .u8 (IntKind.wrap .u8 ((caps_list c).length : Int)))]) rfl rfl rfl el36 rfl rfl rfl rfl) ?_
    refine al_op rfl (g_move (p := .sem (SL (eI .u8) (caps_list c))) rfl rfl rfl rfl) ?_
    refine al_op rfl (g_append (E := (eI .u8)) (l := [2, (IntKind.wrap .u8 ((caps_list c).length : Int))]) (ext := (caps_list c)) (tp := 17) rfl rfl rfl el36 rfl rfl (isSl_sem rfl) (by (try simp only [zB, zC, zD, sub_len, region_Put_len, ref01_Four_len]); omega)) ?_
    refine al_op rfl (g_assign (p := .own 17 (List.length (α := Int) ([2, (IntKind.wrap .u8 ((caps_list c).length : Int))] ++ (caps_list c))) (SL (eI .u8) ([2, (IntKind.wrap .u8 ((caps_list c).length : Int))] ++ (caps_list c)))) rfl rfl rfl rfl) ?_
    refine al_nil ?_
    refine aw_ret ?_
    exact endG_mk (F := (fun (z : List Int) => ⟨[], [], .sem (SL (eI .u8) z)⟩)) (z := (caps_Encode c)) (v := ([2, (IntKind.wrap .u8 ((caps_list c).length : Int))] ++ (caps_list c))) (bF k5 rfl) rfl (.one (.tmp 2 (.sem (SL (eI .u8) ([2, (IntKind.wrap .u8 ((caps_list c).length : Int))] ++ (caps_list c)))) rfl) (.one (.rfl _)) rfl) trivial trivial
theorem caps_Encode_pf (c : api_Caps) : PF Try.prog 27 [.agg (api_Caps.cells c)] (.sem (SL (eI .u8) (caps_Encode c))) := pf_ofG (caps_Encode_pf_g c) rfl
theorem caps_flag_ok (y : Bool) : okI .u8 (caps_flag y) := by cases y <;> exact okI8.2 (by decide)
theorem Four_ok (a : Int) : gdL (okI .u8) (ref01_Four a) := by
  unfold ref01_Four
  repeat (first | exact gdL_nil | refine gdL_app ?_ ?_ | refine gdL_cons ?_ ?_ | exact okI8_wrap _ | exact caps_flag_ok _ | exact okI8.2 (by decide) | exact gdL_sub (Four_ok _))
theorem caps_list_ok (c : api_Caps) : gdL (okI .u8) (caps_list c) := by
  simp only [caps_list, thn, region_Put]
  cases c.fFour <;> cases c.fGR <;> cases c.fFamily <;> cases c.fLL <;> simp only [cond_true, cond_false] <;> repeat (first | exact gdL_nil | refine gdL_app ?_ ?_ | refine gdL_cons ?_ ?_ | exact okI8_wrap _ | exact caps_flag_ok _ | exact okI8.2 (by decide) | exact gdL_sub (Four_ok _))
theorem caps_Encode_ok (c : api_Caps) : gdL (okI .u8) (caps_Encode c) := by
  unfold caps_Encode
  cases (!(caps_Good c)) || (decide ((((caps_list c).length : Int) : Int) = 0)) with
  | true => exact gdL_nil
  | false => exact gdL_app (gdL_cons (okI8.2 (by decide)) (gdL_cons (okI8_wrap _) gdL_nil)) (caps_list_ok c)

/-- interregnum/caps.ipv4 -/
def caps_ipv4 (b : List Int) : Bool :=
  ((decide (((ix b 0) : Int) = 0)) && (decide (((ix b 1) : Int) = 1))) && (decide (((ix b 2) : Int) = 1))
set_option maxRecDepth 100000 in
set_option maxHeartbeats 4000000 in
theorem caps_ipv4_pf_g (b : List Int) (h : 3 ≤ b.length) : PG Try.prog 50 [] [] [.sem (SL (eI .u8) b)] (fun _ : Unit => True) (fun _ => (fun (z : Bool) => ⟨[], [], .sc (.bool z)⟩) (caps_ipv4 b)) := by
  refine pg_of (N := 19) (l := [.tmp 2]) Try.func50 rfl rfl rfl (Nat.le_of_ble_eq_true rfl) fun w0 i0 F βs => ?_
  refine aw_seq ?_
  refine aw_region ?_
  refine al_op rfl (g_assign (p := .sc (.bool false)) rfl rfl rfl rfl) ?_
  refine al_nil ?_
  refine aw_seq ?_
  refine aw_region ?_
  refine al_op rfl (g_move (p := .sem (SL (eI .u8) b)) rfl rfl rfl rfl) ?_
  refine al_op rfl (g_ix (E := (eI .u8)) (l := b) (n := 0) (ps := [.sc (.int .u8 (ix b 0))]) rfl rfl rfl Try.underlying36 ty5 (isSl_sem rfl) rfl (by first | omega | ((try simp only [z1, z2, z3, z4, z5, z6, z7, z8, z9, zA, zB, zC, zD, wrap64, wrapu8, wrapu16, wrapu32, wrapu64, tmod_ite, tdiv_ite, sub_len, region_Put_len, ref01_Four_len] at *); omega) | ((try simp only [z1, z2, z3, z4, z5, z6, z7, z8, z9, zA, tmod_ite, tdiv_ite, sub_len, region_Put_len, ref01_Four_len] at *); (try simp (disch := omega) only [wrap64_id]); (try simp only [z1, z2, z3, z4, z5, z6, z7, z8, z9, zA, zB, zC, zD, wrap64, wrapu8, wrapu16, wrapu32, wrapu64, tmod_ite, tdiv_ite, sub_len] at *); omega)) rfl) ?_
  refine al_op rfl (g_loadPT (ps := [.sc (.int .u8 (ix b 0))]) (p := .sc (.int .u8 (ix b 0))) rfl rfl rfl ty5 rfl rfl rfl rfl rfl) ?_
  refine al_op rfl (g_bin (u1 := .int .u8 (ix b 0)) (u2 := .int .u8 0) (v := .bool (decide (((ix b 0) : Int) = 0))) rfl rfl rfl rfl rfl (fun _ => rfl)) ?_
  refine al_op rfl (g_move (p := .sc (.bool (decide (((ix b 0) : Int) = 0)))) rfl rfl rfl rfl) ?_
  refine al_gW (C := decide (((ix b 0) : Int) = 0)) (p := .sem (SL (eI .u8) b)) (gd_T rfl rfl rfl rfl rfl) rfl rfl (fun g1 => g_move (p := .sem (SL (eI .u8) b)) rfl rfl rfl rfl) ?_
  refine al_gW (C := decide (((ix b 0) : Int) = 0)) (p := .sem (PT [.sc (.int .u8 (ix b 1))])) (gd_T rfl rfl rfl rfl rfl) rfl rfl (fun g2 => g_ix (E := (eI .u8)) (l := b) (n := 1) (ps := [.sc (.int .u8 (ix b 1))]) rfl rfl rfl Try.underlying36 ty5 (by exact (isSl_sem (by exact (gt (p := .sem (SL (eI .u8) b)) (q := .sc undef) g2)))) rfl (by first | omega | ((try simp only [z1, z2, z3, z4, z5, z6, z7, z8, z9, zA, zB, zC, zD, wrap64, wrapu8, wrapu16, wrapu32, wrapu64, tmod_ite, tdiv_ite, sub_len, region_Put_len, ref01_Four_len] at *); omega) | ((try simp only [z1, z2, z3, z4, z5, z6, z7, z8, z9, zA, tmod_ite, tdiv_ite, sub_len, region_Put_len, ref01_Four_len] at *); (try simp (disch := omega) only [wrap64_id]); (try simp only [z1, z2, z3, z4, z5, z6, z7, z8, z9, zA, zB, zC, zD, wrap64, wrapu8, wrapu16, wrapu32, wrapu64, tmod_ite, tdiv_ite, sub_len] at *); omega)) rfl) ?_
  refine al_gW (C := decide (((ix b 0) : Int) = 0)) (p := .sc (.int .u8 (ix b 1))) (gd_T rfl rfl rfl rfl rfl) rfl rfl (fun g3 => g_loadPT (ps := [.sc (.int .u8 (ix b 1))]) (p := .sc (.int .u8 (ix b 1))) rfl rfl rfl ty5 (gt (p := .sem (PT [.sc (.int .u8 (ix b 1))])) (q := .sc undef) g3) rfl rfl rfl rfl) ?_
  refine al_gW (C := decide (((ix b 0) : Int) = 0)) (p := .sc (.bool (decide (((ix b 1) : Int) = 1)))) (gd_T rfl rfl rfl rfl rfl) rfl rfl (fun g4 => g_bin (u1 := .int .u8 (ix b 1)) (u2 := .int .u8 1) (v := .bool (decide (((ix b 1) : Int) = 1))) rfl rfl rfl (gt (p := .sc (.int .u8 (ix b 1))) (q := .sc undef) g4) rfl (fun _ => rfl)) ?_
  refine al_op rfl (g_andU (b := decide (((ix b 0) : Int) = 0)) (y := decide (((ix b 1) : Int) = 1)) rfl rfl rfl rfl rfl) ?_
  refine al_op rfl (g_move (p := .sc (.bool ((decide (((ix b 0) : Int) = 0)) && (decide (((ix b 1) : Int) = 1))))) rfl rfl rfl rfl) ?_
  refine al_gW (C := (decide (((ix b 0) : Int) = 0)) && (decide (((ix b 1) : Int) = 1))) (p := .sem (SL (eI .u8) b)) (gd_T rfl rfl rfl rfl rfl) rfl rfl (fun g5 => g_move (p := .sem (SL (eI .u8) b)) rfl rfl rfl rfl) ?_
  refine al_gW (C := (decide (((ix b 0) : Int) = 0)) && (decide (((ix b 1) : Int) = 1))) (p := .sem (PT [.sc (.int .u8 (ix b 2))])) (gd_T rfl rfl rfl rfl rfl) rfl rfl (fun g6 => g_ix (E := (eI .u8)) (l := b) (n := 2) (ps := [.sc (.int .u8 (ix b 2))]) rfl rfl rfl Try.underlying36 ty5 (by exact (isSl_sem (by exact (gt (p := .sem (SL (eI .u8) b)) (q := .sc undef) g6)))) rfl (by first | omega | ((try simp only [z1, z2, z3, z4, z5, z6, z7, z8, z9, zA, zB, zC, zD, wrap64, wrapu8, wrapu16, wrapu32, wrapu64, tmod_ite, tdiv_ite, sub_len, region_Put_len, ref01_Four_len] at *); omega) | ((try simp only [z1, z2, z3, z4, z5, z6, z7, z8, z9, zA, tmod_ite, tdiv_ite, sub_len, region_Put_len, ref01_Four_len] at *); (try simp (disch := omega) only [wrap64_id]); (try simp only [z1, z2, z3, z4, z5, z6, z7, z8, z9, zA, zB, zC, zD, wrap64, wrapu8, wrapu16, wrapu32, wrapu64, tmod_ite, tdiv_ite, sub_len] at *); omega)) rfl) ?_
  refine al_gW (C := (decide (((ix b 0) : Int) = 0)) && (decide (((ix b 1) : Int) = 1))) (p := .sc (.int .u8 (ix b 2))) (gd_T rfl rfl rfl rfl rfl) rfl rfl (fun g7 => g_loadPT (ps := [.sc (.int .u8 (ix b 2))]) (p := .sc (.int .u8 (ix b 2))) rfl rfl rfl ty5 (gt (p := .sem (PT [.sc (.int .u8 (ix b 2))])) (q := .sc undef) g7) rfl rfl rfl rfl) ?_
  refine al_gW (C := (decide (((ix b 0) : Int) = 0)) && (decide (((ix b 1) : Int) = 1))) (p := .sc (.bool (decide (((ix b 2) : Int) = 1)))) (gd_T rfl rfl rfl rfl rfl) rfl rfl (fun g8 => g_bin (u1 := .int .u8 (ix b 2)) (u2 := .int .u8 1) (v := .bool (decide (((ix b 2) : Int) = 1))) rfl rfl rfl (gt (p := .sc (.int .u8 (ix b 2))) (q := .sc undef) g8) rfl (fun _ => rfl)) ?_
  refine al_op rfl (g_andU (b := (decide (((ix b 0) : Int) = 0)) && (decide (((ix b 1) : Int) = 1))) (y := decide (((ix b 2) : Int) = 1)) rfl rfl rfl rfl rfl) ?_
  refine al_op rfl (g_assign (p := .sc (.bool (((decide (((ix b 0) : Int) = 0)) && (decide (((ix b 1) : Int) = 1))) && (decide (((ix b 2) : Int) = 1))))) rfl rfl rfl rfl) ?_
  refine al_nil ?_
  refine aw_ret ?_
  exact endG_mk (F := (fun (z : Bool) => ⟨[], [], .sc (.bool z)⟩)) (z := (caps_ipv4 b)) (v := ((decide (((ix b 0) : Int) = 0)) && (decide (((ix b 1) : Int) = 1))) && (decide (((ix b 2) : Int) = 1))) rfl rfl (.one (.tmp 2 (.sc (.bool (((decide (((ix b 0) : Int) = 0)) && (decide (((ix b 1) : Int) = 1))) && (decide (((ix b 2) : Int) = 1))))) rfl) (.one (.rfl _)) rfl) trivial trivial
theorem caps_ipv4_pf (b : List Int) (h : 3 ≤ b.length) : PF Try.prog 50 [.sem (SL (eI .u8) b)] (.sc (.bool (caps_ipv4 b))) := pf_ofG (caps_ipv4_pf_g b h) rfl
end Go.Proofs.Ytnpipeihomebhaa
