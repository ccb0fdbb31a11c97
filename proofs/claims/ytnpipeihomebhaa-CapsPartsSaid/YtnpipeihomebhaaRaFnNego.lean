import Derived.Test.YtnpipeihomebhaaRaFacts
namespace Go.Proofs.Ytnpipeihomebhaa
open Go.Ab
set_option linter.unusedSimpArgs false
set_option linter.unusedVariables false
/-- interregnum/region.Put -/
def region_Put (b : List Int) (v : Int) : List Int :=
  (b ++ [(IntKind.wrap .u8 (Int.fdiv v (2 ^ 24))), (IntKind.wrap .u8 (Int.fdiv v (2 ^ 16))), (IntKind.wrap .u8 (Int.fdiv v (2 ^ 8))), (IntKind.wrap .u8 v)])
set_option maxRecDepth 100000 in
set_option maxHeartbeats 4000000 in
theorem region_Put_pf (b : List Int) (v : Int) (hl0 : b.length ≤ 70368744177664) : PG Try.prog 35 [] [(1000, (1, b.length))] [.own 1000 b.length (SL (eI .u8) b), .sc (.int .u32 v)] (fun _ : Unit => True) (fun _ => (fun (z : List Int) => ⟨[], [(1000, (1, z.length))], .own 1000 z.length (SL (eI .u8) z)⟩) (region_Put b v)) := by
  refine pg_of (N := 19) (l := [.tmp 4]) Try.func35 rfl rfl rfl (Nat.le_of_ble_eq_true rfl) fun w0 i0 F βs => ?_
  refine aw_seq ?_
  refine aw_region ?_
  refine al_op rfl (g_assign (p := .sc (.slice none 0 0)) rfl rfl rfl rfl) ?_
  refine al_nil ?_
  refine aw_seq ?_
  refine aw_region ?_
  refine al_op rfl (g_move (p := .own 1000 b.length (SL (eI .u8) b)) rfl rfl rfl rfl) ?_
  refine al_op rfl (g_move (p := .sc (.int .u32 v)) rfl rfl rfl rfl) ?_
  refine al_op rfl (g_bin (u1 := .int .u32 v) (u2 := .int .u64 24) (v := .int .u32 (Int.fdiv v (2 ^ 24))) rfl rfl rfl rfl rfl (fun _ => rfl)) ?_
  refine al_op rfl (g_conv (m := (IntKind.wrap .u8 (Int.fdiv v (2 ^ 24)))) rfl rfl rfl Try.underlying22 Try.underlying5 rfl rfl) ?_
  refine al_op rfl (g_move (p := .sc (.int .u32 v)) rfl rfl rfl rfl) ?_
  refine al_op rfl (g_bin (u1 := .int .u32 v) (u2 := .int .u64 16) (v := .int .u32 (Int.fdiv v (2 ^ 16))) rfl rfl rfl rfl rfl (fun _ => rfl)) ?_
  refine al_op rfl (g_conv (m := (IntKind.wrap .u8 (Int.fdiv v (2 ^ 16)))) rfl rfl rfl Try.underlying22 Try.underlying5 rfl rfl) ?_
  refine al_op rfl (g_move (p := .sc (.int .u32 v)) rfl rfl rfl rfl) ?_
  refine al_op rfl (g_bin (u1 := .int .u32 v) (u2 := .int .u64 8) (v := .int .u32 (Int.fdiv v (2 ^ 8))) rfl rfl rfl rfl rfl (fun _ => rfl)) ?_
  refine al_op rfl (g_conv (m := (IntKind.wrap .u8 (Int.fdiv v (2 ^ 8)))) rfl rfl rfl Try.underlying22 Try.underlying5 rfl rfl) ?_
  refine al_op rfl (g_move (p := .sc (.int .u32 v)) rfl rfl rfl rfl) ?_
  refine al_op rfl (g_conv (m := (IntKind.wrap .u8 v)) rfl rfl rfl Try.underlying22 Try.underlying5 rfl rfl) ?_
  refine al_op rfl (g_buildSlice (E := (eI .u8)) (l := [(IntKind.wrap .u8 (Int.fdiv v (2 ^ 24))), (IntKind.wrap .u8 (Int.fdiv v (2 ^ 16))), (IntKind.wrap .u8 (Int.fdiv v (2 ^ 8))), (IntKind.wrap .u8 v)]) (tp := 17) (parts := [(0, .tmp 8), (1, .tmp 11), (2, .tmp 14), (3, .tmp 16)]) (qs := [.sc (.int .u8 (IntKind.wrap .u8 (Int.fdiv v (2 ^ 24)))), .sc (.int .u8 (IntKind.wrap .u8 (Int.fdiv v (2 ^ 16)))), .sc (.int .u8 (IntKind.wrap .u8 (Int.fdiv v (2 ^ 8)))), .sc (.int .u8 (IntKind.wrap .u8 v))]) rfl rfl rfl el36 rfl rfl rfl rfl) ?_
  refine al_op rfl (g_append (E := (eI .u8)) (l := b) (ext := [(IntKind.wrap .u8 (Int.fdiv v (2 ^ 24))), (IntKind.wrap .u8 (Int.fdiv v (2 ^ 16))), (IntKind.wrap .u8 (Int.fdiv v (2 ^ 8))), (IntKind.wrap .u8 v)]) (tp := 1000) rfl rfl rfl el36 rfl rfl (isSl_own rfl) (by (try simp only [zB, zC, zD, sub_len]); omega)) ?_
  refine al_op rfl (g_assign (p := .own 1000 (List.length (α := Int) (b ++ [(IntKind.wrap .u8 (Int.fdiv v (2 ^ 24))), (IntKind.wrap .u8 (Int.fdiv v (2 ^ 16))), (IntKind.wrap .u8 (Int.fdiv v (2 ^ 8))), (IntKind.wrap .u8 v)])) (SL (eI .u8) (b ++ [(IntKind.wrap .u8 (Int.fdiv v (2 ^ 24))), (IntKind.wrap .u8 (Int.fdiv v (2 ^ 16))), (IntKind.wrap .u8 (Int.fdiv v (2 ^ 8))), (IntKind.wrap .u8 v)]))) rfl rfl rfl rfl) ?_
  refine al_nil ?_
  refine aw_ret ?_
  exact endG_mk (F := (fun (z : List Int) => ⟨[], [(1000, (1, z.length))], .own 1000 z.length (SL (eI .u8) z)⟩)) (z := (region_Put b v)) (v := (b ++ [(IntKind.wrap .u8 (Int.fdiv v (2 ^ 24))), (IntKind.wrap .u8 (Int.fdiv v (2 ^ 16))), (IntKind.wrap .u8 (Int.fdiv v (2 ^ 8))), (IntKind.wrap .u8 v)])) rfl rfl (.one (.tmp 4 (.own 1000 (List.length (α := Int) (b ++ [(IntKind.wrap .u8 (Int.fdiv v (2 ^ 24))), (IntKind.wrap .u8 (Int.fdiv v (2 ^ 16))), (IntKind.wrap .u8 (Int.fdiv v (2 ^ 8))), (IntKind.wrap .u8 v)])) (SL (eI .u8) (b ++ [(IntKind.wrap .u8 (Int.fdiv v (2 ^ 24))), (IntKind.wrap .u8 (Int.fdiv v (2 ^ 16))), (IntKind.wrap .u8 (Int.fdiv v (2 ^ 8))), (IntKind.wrap .u8 v)]))) rfl) (.one (.rfl _)) rfl) trivial ⟨rfl, trivial⟩
theorem region_Put_len (b : List Int) (v : Int) : (region_Put b v).length = b.length + 4 := by simp [region_Put]

def ref01_Same_l0 (a : List Int) (b : List Int) : Nat → Int → (Bool) ⊕ (Int)
  | 0, _ => Sum.inr default
  | n0 + 1, i_0 =>
    (bif decide ((i_0 : Int) < (a.length : Int)) then
      (bif !(decide (((ix a i_0) : Int) = (ix b i_0))) then
        Sum.inl false
      else
        ref01_Same_l0 a b n0 (IntKind.wrap .i64 (i_0 + 1)))
    else
      Sum.inr i_0)
/-- interregnum/interregnumref01.Same -/
def ref01_Same (a : List Int) (b : List Int) : Bool :=
  (bif !(decide (((a.length : Int) : Int) = (b.length : Int))) then
    false
  else
    (Sum.elim (fun z => z) (fun (x_0 : Int) =>
      true) (ref01_Same_l0 a b (((a.length : Int) - 0).toNat + 1) 0)))
set_option maxRecDepth 100000 in
set_option maxHeartbeats 4000000 in
theorem ref01_Same_pf_g (a : List Int) (b : List Int) : PG Try.prog 30 [] [] [.sem (SL (eI .u8) a), .sem (SL (eI .u8) b)] (fun _ : Unit => True) (fun _ => (fun (z : Bool) => ⟨[], [], .sc (.bool z)⟩) (ref01_Same a b)) := by
  refine pg_of (N := 26) (l := [.tmp 4]) Try.func30 rfl rfl rfl (Nat.le_of_ble_eq_true rfl) fun w0 i0 F βs => ?_
  refine aw_len 0 rfl (fun hl1 => ?_)
  refine aw_len 1 rfl (fun hl2 => ?_)
  refine aw_seq ?_
  refine aw_region ?_
  refine al_op rfl (g_assign (p := .sc (.bool false)) rfl rfl rfl rfl) ?_
  refine al_nil ?_
  refine aw_seq ?_
  refine aw_seq ?_
  refine aw_region ?_
  refine al_op rfl (g_move (p := .sem (SL (eI .u8) a)) rfl rfl rfl rfl) ?_
  refine al_op rfl (g_len rfl rfl rfl Try.underlying36 (isSl_sem rfl)) ?_
  refine al_op rfl (g_move (p := .sem (SL (eI .u8) b)) rfl rfl rfl rfl) ?_
  refine al_op rfl (g_len rfl rfl rfl Try.underlying36 (isSl_sem rfl)) ?_
  refine al_op rfl (g_bin (u1 := .int .i64 (a.length : Int)) (u2 := .int .i64 (b.length : Int)) (v := .bool (!(decide (((a.length : Int) : Int) = (b.length : Int))))) rfl rfl rfl rfl rfl (fun _ => rfl)) ?_
  refine al_nil ?_
  refine aw_cond (b := !(decide (((a.length : Int) : Int) = (b.length : Int)))) rfl (fun k3 => ?_) (fun k3 => ?_)
  · skip
    refine aw_seq ?_
    refine aw_region ?_
    refine al_op rfl (g_assign (p := .sc (.bool false)) rfl rfl rfl rfl) ?_
    refine al_nil ?_
    refine aw_ret ?_
    exact endG_mk (F := (fun (z : Bool) => ⟨[], [], .sc (.bool z)⟩)) (z := (ref01_Same a b)) (v := false) (bT k3 rfl) rfl (.one (.tmp 4 (.sc (.bool false)) rfl) (.one (.rfl _)) rfl) trivial trivial
  · skip
    refine aw_skip ?_
    refine aw_seq ?_
    refine aw_seq ?_
    refine aw_region ?_
    refine al_op rfl (g_assign (p := .sc (.int .i64 0)) rfl rfl rfl rfl) ?_
    refine al_nil ?_
    refine aw_tailV (ι := Int) (p := fun x_0 => (ref01_Same_l0 a b (((a.length : Int) - 0).toNat + 1) 0) = .inr x_0) (S := fun x_0 => St.of 26 [(0, .sem (SL (eI .u8) a)), (1, .sem (SL (eI .u8) b)), (4, .sc (.bool false)), (5, .sc (.int .i64 x_0))] [] []) (by first | exact closedAW | exact closedV | exact closedS | exact closedJ) ?_ (fun x_0 e4 => ?_)
    · skip
      refine aw_block ?_
      refine aw_loopS (ι := Nat × Int) (S := fun i => St.of 26 [(0, .sem (SL (eI .u8) a)), (1, .sem (SL (eI .u8) b)), (4, .sc (.bool false)), (5, .sc (.int .i64 i.2))] [] []) (J := fun i => ref01_Same_l0 a b i.1 i.2 = (ref01_Same_l0 a b (((a.length : Int) - 0).toNat + 1) 0) ∧ (((a.length : Int) - i.2).toNat < i.1) ∧ (0 ≤ i.2)) (μ := fun i => i.1) (i₀ := ((((a.length : Int) - 0).toNat + 1), 0)) (sub_of rfl ⟨⟨rfl, (.one (.rfl _))⟩, ⟨⟨rfl, (.one (.rfl _))⟩, ⟨⟨rfl, (.one (.rfl _))⟩, ⟨⟨rfl, (.one (.rfl _))⟩, trivial⟩⟩⟩⟩ trivial trivial) ⟨rfl, (by first | omega | ((try simp only [z1, z2, z3, z4, z5, z6, z7, z8, z9, zA, zB, zC, zD, wrap64, wrapu8, wrapu16, wrapu32, wrapu64, tmod_ite, tdiv_ite, sub_len, region_Put_len] at *); omega) | ((try simp only [z1, z2, z3, z4, z5, z6, z7, z8, z9, zA, tmod_ite, tdiv_ite, sub_len, region_Put_len] at *); (try simp (disch := omega) only [wrap64_id]); (try simp only [z1, z2, z3, z4, z5, z6, z7, z8, z9, zA, zB, zC, zD, wrap64, wrapu8, wrapu16, wrapu32, wrapu64, tmod_ite, tdiv_ite, sub_len] at *); omega)), (by first | omega | ((try simp only [z1, z2, z3, z4, z5, z6, z7, z8, z9, zA, zB, zC, zD, wrap64, wrapu8, wrapu16, wrapu32, wrapu64, tmod_ite, tdiv_ite, sub_len, region_Put_len] at *); omega) | ((try simp only [z1, z2, z3, z4, z5, z6, z7, z8, z9, zA, tmod_ite, tdiv_ite, sub_len, region_Put_len] at *); (try simp (disch := omega) only [wrap64_id]); (try simp only [z1, z2, z3, z4, z5, z6, z7, z8, z9, zA, zB, zC, zD, wrap64, wrapu8, wrapu16, wrapu32, wrapu64, tmod_ite, tdiv_ite, sub_len] at *); omega))⟩ ?_
      rintro ⟨n0, i_0⟩ ⟨hJ0, hm0_0, hm0_1⟩
      obtain ⟨n0, rfl⟩ : ∃ m, n0 = m + 1 := ⟨n0 - 1, by have : 0 < n0 := Nat.lt_of_le_of_lt (Nat.zero_le _) hm0_0; omega⟩
      replace hJ0 : ref01_Same_l0 a b (n0 + 1) i_0 = (ref01_Same_l0 a b (((a.length : Int) - 0).toNat + 1) 0) := hJ0
      replace hm0_0 : ((a.length : Int) - i_0).toNat < n0 + 1 := hm0_0
      replace hm0_1 : 0 ≤ i_0 := hm0_1
      refine aw_len 0 rfl (fun hl5 => ?_)
      refine aw_len 1 rfl (fun hl6 => ?_)
      refine aw_seq ?_
      refine aw_seq ?_
      refine aw_region ?_
      refine al_op rfl (g_move (p := .sc (.int .i64 i_0)) rfl rfl rfl rfl) ?_
      refine al_op rfl (g_move (p := .sem (SL (eI .u8) a)) rfl rfl rfl rfl) ?_
      refine al_op rfl (g_len rfl rfl rfl Try.underlying36 (isSl_sem rfl)) ?_
      refine al_op rfl (g_bin (u1 := .int .i64 i_0) (u2 := .int .i64 (a.length : Int)) (v := .bool (decide ((i_0 : Int) < (a.length : Int)))) rfl rfl rfl rfl rfl (fun _ => rfl)) ?_
      refine al_nil ?_
      refine aw_cond (b := decide ((i_0 : Int) < (a.length : Int))) rfl (fun k7 => ?_) (fun k7 => ?_)
      · skip
        refine aw_skip ?_
        refine aw_seq ?_
        refine aw_block ?_
        refine aw_seq ?_
        refine aw_plan { ds := [some 17, some 18, some 19, some 20, some 21, some 22, some 23, some 24, some 25], p := fun i => [.sem (SL (eI .u8) a), .sc (.int .i64 i_0), .sem (PT [.sc (.int .u8 (ix a i_0))]), .sc (.int .u8 (ix a i_0)), .sem (SL (eI .u8) b), .sc (.int .i64 i_0), .sem (PT [.sc (.int .u8 (ix b i_0))]), .sc (.int .u8 (ix b i_0)), .sc (.bool (!(decide (((ix a i_0) : Int) = (ix b i_0)))))].getD i .any, al := [], st := [] } rfl rfl rfl rfl ?_ (fun bD hb => ?_)
        · refine ⟨fun bD hc hi hd => ?_, fun bD hc hi hd => ?_, fun bD hc hi hd => ?_, fun bD hc hi hd => ?_, fun bD hc hi hd => ?_, fun bD hc hi hd => ?_, fun bD hc hi hd => ?_, fun bD hc hi hd => ?_, fun bD hc hi hd => ?_, trivial⟩
          · exact Plan.putStep (i := 0) (q := .sem (SL (eI .u8) a)) rfl rfl rfl (gs_plain rfl (g_move (p := .sem (SL (eI .u8) a)) rfl rfl rfl rfl))
          · exact Plan.putStep (i := 1) (q := .sc (.int .i64 i_0)) rfl rfl rfl (gs_plain rfl (g_move (p := .sc (.int .i64 i_0)) rfl rfl rfl rfl))
          · exact Plan.putStep (i := 2) (q := .sem (PT [.sc (.int .u8 (ix a i_0))])) rfl rfl rfl (gs_plain rfl (g_ix (E := (eI .u8)) (l := a) (n := i_0) (ps := [.sc (.int .u8 (ix a i_0))]) rfl rfl rfl Try.underlying36 ty5 (by exact (isSl_sem (by exact (gt (p := .sem (SL (eI .u8) a)) (q := .any) (hd 0 (by decide)))))) (gt (p := .sc (.int .i64 i_0)) (q := .any) (hd 1 (by decide))) (by first | omega | ((try simp only [z1, z2, z3, z4, z5, z6, z7, z8, z9, zA, zB, zC, zD, wrap64, wrapu8, wrapu16, wrapu32, wrapu64, tmod_ite, tdiv_ite, sub_len, region_Put_len] at *); omega) | ((try simp only [z1, z2, z3, z4, z5, z6, z7, z8, z9, zA, tmod_ite, tdiv_ite, sub_len, region_Put_len] at *); (try simp (disch := omega) only [wrap64_id]); (try simp only [z1, z2, z3, z4, z5, z6, z7, z8, z9, zA, zB, zC, zD, wrap64, wrapu8, wrapu16, wrapu32, wrapu64, tmod_ite, tdiv_ite, sub_len] at *); omega)) rfl))
          · exact Plan.putStep (i := 3) (q := .sc (.int .u8 (ix a i_0))) rfl rfl rfl (gs_plain rfl (g_loadPT (ps := [.sc (.int .u8 (ix a i_0))]) (p := .sc (.int .u8 (ix a i_0))) rfl rfl rfl ty5 (gt (p := .sem (PT [.sc (.int .u8 (ix a i_0))])) (q := .any) (hd 2 (by decide))) rfl rfl rfl rfl))
          · exact Plan.putStep (i := 4) (q := .sem (SL (eI .u8) b)) rfl rfl rfl (gs_plain rfl (g_move (p := .sem (SL (eI .u8) b)) rfl rfl rfl rfl))
          · exact Plan.putStep (i := 5) (q := .sc (.int .i64 i_0)) rfl rfl rfl (gs_plain rfl (g_move (p := .sc (.int .i64 i_0)) rfl rfl rfl rfl))
          · exact Plan.putStep (i := 6) (q := .sem (PT [.sc (.int .u8 (ix b i_0))])) rfl rfl rfl (gs_plain rfl (g_ix (E := (eI .u8)) (l := b) (n := i_0) (ps := [.sc (.int .u8 (ix b i_0))]) rfl rfl rfl Try.underlying36 ty5 (by exact (isSl_sem (by exact (gt (p := .sem (SL (eI .u8) b)) (q := .any) (hd 4 (by decide)))))) (gt (p := .sc (.int .i64 i_0)) (q := .any) (hd 5 (by decide))) (by first | omega | ((try simp only [z1, z2, z3, z4, z5, z6, z7, z8, z9, zA, zB, zC, zD, wrap64, wrapu8, wrapu16, wrapu32, wrapu64, tmod_ite, tdiv_ite, sub_len, region_Put_len] at *); omega) | ((try simp only [z1, z2, z3, z4, z5, z6, z7, z8, z9, zA, tmod_ite, tdiv_ite, sub_len, region_Put_len] at *); (try simp (disch := omega) only [wrap64_id]); (try simp only [z1, z2, z3, z4, z5, z6, z7, z8, z9, zA, zB, zC, zD, wrap64, wrapu8, wrapu16, wrapu32, wrapu64, tmod_ite, tdiv_ite, sub_len] at *); omega)) rfl))
          · exact Plan.putStep (i := 7) (q := .sc (.int .u8 (ix b i_0))) rfl rfl rfl (gs_plain rfl (g_loadPT (ps := [.sc (.int .u8 (ix b i_0))]) (p := .sc (.int .u8 (ix b i_0))) rfl rfl rfl ty5 (gt (p := .sem (PT [.sc (.int .u8 (ix b i_0))])) (q := .any) (hd 6 (by decide))) rfl rfl rfl rfl))
          · exact Plan.putStep (i := 8) (q := .sc (.bool (!(decide (((ix a i_0) : Int) = (ix b i_0)))))) rfl rfl rfl (gs_plain rfl (g_bin (u1 := .int .u8 (ix a i_0)) (u2 := .int .u8 (ix b i_0)) (v := .bool (!(decide (((ix a i_0) : Int) = (ix b i_0))))) rfl rfl rfl (gt (p := .sc (.int .u8 (ix a i_0))) (q := .any) (hd 3 (by decide))) (gt (p := .sc (.int .u8 (ix b i_0))) (q := .any) (hd 7 (by decide))) (fun _ => rfl)))
        obtain rfl : bD = fun _ => true := funext hb
        refine aw_cond (b := !(decide (((ix a i_0) : Int) = (ix b i_0)))) rfl (fun k8 => ?_) (fun k8 => ?_)
        · skip
          refine aw_seq ?_
          refine aw_region ?_
          refine al_op rfl (g_assign (p := .sc (.bool false)) rfl rfl rfl rfl) ?_
          refine al_nil ?_
          refine aw_ret ?_
          exact endG_mk (F := (fun (z : Bool) => ⟨[], [], .sc (.bool z)⟩)) (z := (ref01_Same a b)) (v := false) (bF k3 (mL (hJ0.symm.trans (bT k7 (bT k8 rfl))) rfl)) rfl (.one (.tmp 4 (.sc (.bool false)) rfl) (.one (.rfl _)) rfl) trivial trivial
        · skip
          refine aw_skip ?_
          refine aw_region ?_
          refine al_op rfl (g_move (p := .sc (.int .i64 i_0)) rfl rfl rfl rfl) ?_
          refine al_op rfl (g_bin (u1 := .int .i64 i_0) (u2 := .int .i64 1) (v := .int .i64 (IntKind.wrap .i64 (i_0 + 1))) rfl rfl rfl rfl rfl (fun _ => rfl)) ?_
          refine al_op rfl (g_assign (p := .sc (.int .i64 (IntKind.wrap .i64 (i_0 + 1)))) rfl rfl rfl rfl) ?_
          refine al_nil ?_
          exact ⟨(n0, (IntKind.wrap .i64 (i_0 + 1))), (sub_of rfl ⟨⟨rfl, (.one (.rfl _))⟩, ⟨⟨rfl, (.one (.rfl _))⟩, ⟨⟨rfl, (.one (.rfl _))⟩, ⟨⟨rfl, (.one (.rfl _))⟩, trivial⟩⟩⟩⟩ trivial trivial), ⟨Eq.trans (Eq.symm (bT k7 (bF k8 rfl))) hJ0, (by first | omega | ((try simp only [z1, z2, z3, z4, z5, z6, z7, z8, z9, zA, zB, zC, zD, wrap64, wrapu8, wrapu16, wrapu32, wrapu64, tmod_ite, tdiv_ite, sub_len, region_Put_len] at *); omega) | ((try simp only [z1, z2, z3, z4, z5, z6, z7, z8, z9, zA, tmod_ite, tdiv_ite, sub_len, region_Put_len] at *); (try simp (disch := omega) only [wrap64_id]); (try simp only [z1, z2, z3, z4, z5, z6, z7, z8, z9, zA, zB, zC, zD, wrap64, wrapu8, wrapu16, wrapu32, wrapu64, tmod_ite, tdiv_ite, sub_len] at *); omega)), (by first | omega | ((try simp only [z1, z2, z3, z4, z5, z6, z7, z8, z9, zA, zB, zC, zD, wrap64, wrapu8, wrapu16, wrapu32, wrapu64, tmod_ite, tdiv_ite, sub_len, region_Put_len] at *); omega) | ((try simp only [z1, z2, z3, z4, z5, z6, z7, z8, z9, zA, tmod_ite, tdiv_ite, sub_len, region_Put_len] at *); (try simp (disch := omega) only [wrap64_id]); (try simp only [z1, z2, z3, z4, z5, z6, z7, z8, z9, zA, zB, zC, zD, wrap64, wrapu8, wrapu16, wrapu32, wrapu64, tmod_ite, tdiv_ite, sub_len] at *); omega))⟩, Nat.lt_succ_self _⟩
      · skip
        refine aw_exit ?_
        exact ⟨i_0, hJ0.symm.trans (bF k7 rfl), (sub_of rfl ⟨⟨rfl, (.one (.rfl _))⟩, ⟨⟨rfl, (.one (.rfl _))⟩, ⟨⟨rfl, (.one (.rfl _))⟩, ⟨⟨rfl, (.one (.rfl _))⟩, trivial⟩⟩⟩⟩ trivial trivial)⟩
    · skip
      refine aw_len 0 rfl (fun hl9 => ?_)
      refine aw_len 1 rfl (fun hl10 => ?_)
      refine aw_seq ?_
      refine aw_region ?_
      refine al_op rfl (g_assign (p := .sc (.bool true)) rfl rfl rfl rfl) ?_
      refine al_nil ?_
      refine aw_ret ?_
      exact endG_mk (F := (fun (z : Bool) => ⟨[], [], .sc (.bool z)⟩)) (z := (ref01_Same a b)) (v := true) (bF k3 (mR e4 rfl)) rfl (.one (.tmp 4 (.sc (.bool true)) rfl) (.one (.rfl _)) rfl) trivial trivial
theorem ref01_Same_pf (a : List Int) (b : List Int) : PF Try.prog 30 [.sem (SL (eI .u8) a), .sem (SL (eI .u8) b)] (.sc (.bool (ref01_Same a b))) := pf_ofG (ref01_Same_pf_g a b) rfl

/-- interregnum/interregnumref05.SameNote -/
def ref05_SameNote (a0 : api_Note) (a1 : api_Note) : Bool :=
  ((decide ((a0.fCode : Int) = a1.fCode)) && (decide ((a0.fSub : Int) = a1.fSub))) && (ref01_Same a0.fData a1.fData)
set_option maxRecDepth 100000 in
set_option maxHeartbeats 4000000 in
theorem ref05_SameNote_pf_g (a0 : api_Note) (a1 : api_Note) : PG Try.prog 17 [] [] [.agg (api_Note.cells a0), .agg (api_Note.cells a1)] (fun _ : Unit => True) (fun _ => (fun (z : Bool) => ⟨[], [], .sc (.bool z)⟩) (ref05_SameNote a0 a1)) := by
  refine pg_of (N := 24) (l := [.tmp 4]) Try.func17 rfl rfl rfl (Nat.le_of_ble_eq_true rfl) fun w0 i0 F βs => ?_
  refine aw_seq ?_
  refine aw_region ?_
  refine al_op rfl (g_box (s := 2) (p := .agg (api_Note.cells a0)) (qs := (api_Note.cells a0)) rfl rfl rfl rfl rfl rfl rfl) ?_
  refine al_op rfl (g_box (s := 3) (p := .agg (api_Note.cells a1)) (qs := (api_Note.cells a1)) rfl rfl rfl rfl rfl rfl rfl) ?_
  refine al_op rfl (g_assign (p := .sc (.bool false)) rfl rfl rfl rfl) ?_
  refine al_nil ?_
  refine aw_seq ?_
  refine aw_region ?_
  refine al_op rfl (g_fieldAddr (b := 2) (k := 0) (m := 0) rfl rfl rfl fld38_0 rfl rfl) ?_
  refine al_op rfl (g_load (s := 2) (off := 0) (ps := (api_Note.cells a0)) (p := .sc (.int .i64 a0.fCode)) rfl rfl rfl ty3 rfl rfl rfl rfl rfl) ?_
  refine al_op rfl (g_fieldAddr (b := 3) (k := 0) (m := 0) rfl rfl rfl fld38_0 rfl rfl) ?_
  refine al_op rfl (g_load (s := 3) (off := 0) (ps := (api_Note.cells a1)) (p := .sc (.int .i64 a1.fCode)) rfl rfl rfl ty3 rfl rfl rfl rfl rfl) ?_
  refine al_op rfl (g_bin (u1 := .int .i64 a0.fCode) (u2 := .int .i64 a1.fCode) (v := .bool (decide ((a0.fCode : Int) = a1.fCode))) rfl rfl rfl rfl rfl (fun _ => rfl)) ?_
  refine al_op rfl (g_move (p := .sc (.bool (decide ((a0.fCode : Int) = a1.fCode)))) rfl rfl rfl rfl) ?_
  refine al_gW (C := decide ((a0.fCode : Int) = a1.fCode)) (p := .loc 2 1) (gd_T rfl rfl rfl rfl rfl) rfl rfl (fun g1 => g_fieldAddr (b := 2) (k := 0) (m := 1) rfl rfl rfl fld38_1 rfl rfl) ?_
  refine al_gW (C := decide ((a0.fCode : Int) = a1.fCode)) (p := .sc (.int .i64 a0.fSub)) (gd_T rfl rfl rfl rfl rfl) rfl rfl (fun g2 => g_load (s := 2) (off := 1) (ps := (api_Note.cells a0)) (p := .sc (.int .i64 a0.fSub)) rfl rfl rfl ty3 (gt (p := .loc 2 1) (q := .sc undef) g2) rfl rfl rfl rfl) ?_
  refine al_gW (C := decide ((a0.fCode : Int) = a1.fCode)) (p := .loc 3 1) (gd_T rfl rfl rfl rfl rfl) rfl rfl (fun g3 => g_fieldAddr (b := 3) (k := 0) (m := 1) rfl rfl rfl fld38_1 rfl rfl) ?_
  refine al_gW (C := decide ((a0.fCode : Int) = a1.fCode)) (p := .sc (.int .i64 a1.fSub)) (gd_T rfl rfl rfl rfl rfl) rfl rfl (fun g4 => g_load (s := 3) (off := 1) (ps := (api_Note.cells a1)) (p := .sc (.int .i64 a1.fSub)) rfl rfl rfl ty3 (gt (p := .loc 3 1) (q := .sc undef) g4) rfl rfl rfl rfl) ?_
  refine al_gW (C := decide ((a0.fCode : Int) = a1.fCode)) (p := .sc (.bool (decide ((a0.fSub : Int) = a1.fSub)))) (gd_T rfl rfl rfl rfl rfl) rfl rfl (fun g5 => g_bin (u1 := .int .i64 a0.fSub) (u2 := .int .i64 a1.fSub) (v := .bool (decide ((a0.fSub : Int) = a1.fSub))) rfl rfl rfl (gt (p := .sc (.int .i64 a0.fSub)) (q := .sc undef) g5) (gt (p := .sc (.int .i64 a1.fSub)) (q := .sc undef) g5) (fun _ => rfl)) ?_
  refine al_op rfl (g_andU (b := decide ((a0.fCode : Int) = a1.fCode)) (y := decide ((a0.fSub : Int) = a1.fSub)) rfl rfl rfl rfl rfl) ?_
  refine al_op rfl (g_move (p := .sc (.bool ((decide ((a0.fCode : Int) = a1.fCode)) && (decide ((a0.fSub : Int) = a1.fSub))))) rfl rfl rfl rfl) ?_
  refine al_gW (C := (decide ((a0.fCode : Int) = a1.fCode)) && (decide ((a0.fSub : Int) = a1.fSub))) (p := .loc 2 2) (gd_T rfl rfl rfl rfl rfl) rfl rfl (fun g6 => g_fieldAddr (b := 2) (k := 0) (m := 2) rfl rfl rfl fld38_2 rfl rfl) ?_
  refine al_gW (C := (decide ((a0.fCode : Int) = a1.fCode)) && (decide ((a0.fSub : Int) = a1.fSub))) (p := .sem (SL (eI .u8) a0.fData)) (gd_T rfl rfl rfl rfl rfl) rfl rfl (fun g7 => g_load (s := 2) (off := 2) (ps := (api_Note.cells a0)) (p := .sem (SL (eI .u8) a0.fData)) rfl rfl rfl ty36 (gt (p := .loc 2 2) (q := .sc undef) g7) rfl rfl rfl rfl) ?_
  refine al_gW (C := (decide ((a0.fCode : Int) = a1.fCode)) && (decide ((a0.fSub : Int) = a1.fSub))) (p := .loc 3 2) (gd_T rfl rfl rfl rfl rfl) rfl rfl (fun g8 => g_fieldAddr (b := 3) (k := 0) (m := 2) rfl rfl rfl fld38_2 rfl rfl) ?_
  refine al_gW (C := (decide ((a0.fCode : Int) = a1.fCode)) && (decide ((a0.fSub : Int) = a1.fSub))) (p := .sem (SL (eI .u8) a1.fData)) (gd_T rfl rfl rfl rfl rfl) rfl rfl (fun g9 => g_load (s := 3) (off := 2) (ps := (api_Note.cells a1)) (p := .sem (SL (eI .u8) a1.fData)) rfl rfl rfl ty36 (gt (p := .loc 3 2) (q := .sc undef) g9) rfl rfl rfl rfl) ?_
  refine al_gW (C := (decide ((a0.fCode : Int) = a1.fCode)) && (decide ((a0.fSub : Int) = a1.fSub))) (p := .sc (.bool (ref01_Same a0.fData a1.fData))) (gd_T rfl rfl rfl rfl rfl) rfl rfl (fun g10 => g_call (fn := Try.f30) (xs := [.tmp 19, .tmp 21]) (args := [.sem (SL (eI .u8) a0.fData), .sem (SL (eI .u8) a1.fData)]) (r := .sc (.bool (ref01_Same a0.fData a1.fData))) rfl rfl rfl Try.func30 rfl rfl (congrS2 (b0 := .sem (SL (eI .u8) a0.fData)) (b1 := .sem (SL (eI .u8) a1.fData)) (gt (p := .sem (SL (eI .u8) a0.fData)) (q := .sc undef) g10) (gt (p := .sem (SL (eI .u8) a1.fData)) (q := .sc undef) g10)) rfl rfl (ref01_Same_pf a0.fData a1.fData)) ?_
  refine al_op rfl (g_andU (b := (decide ((a0.fCode : Int) = a1.fCode)) && (decide ((a0.fSub : Int) = a1.fSub))) (y := (ref01_Same a0.fData a1.fData)) rfl rfl rfl rfl rfl) ?_
  refine al_op rfl (g_assign (p := .sc (.bool (((decide ((a0.fCode : Int) = a1.fCode)) && (decide ((a0.fSub : Int) = a1.fSub))) && (ref01_Same a0.fData a1.fData)))) rfl rfl rfl rfl) ?_
  refine al_nil ?_
  refine aw_ret ?_
  exact endG_mk (F := (fun (z : Bool) => ⟨[], [], .sc (.bool z)⟩)) (z := (ref05_SameNote a0 a1)) (v := ((decide ((a0.fCode : Int) = a1.fCode)) && (decide ((a0.fSub : Int) = a1.fSub))) && (ref01_Same a0.fData a1.fData)) rfl rfl (.one (.tmp 4 (.sc (.bool (((decide ((a0.fCode : Int) = a1.fCode)) && (decide ((a0.fSub : Int) = a1.fSub))) && (ref01_Same a0.fData a1.fData)))) rfl) (.one (.rfl _)) rfl) trivial trivial
theorem ref05_SameNote_pf (a0 : api_Note) (a1 : api_Note) : PF Try.prog 17 [.agg (api_Note.cells a0), .agg (api_Note.cells a1)] (.sc (.bool (ref05_SameNote a0 a1))) := pf_ofG (ref05_SameNote_pf_g a0 a1) rfl
theorem Same_refl_l (a : List Int) : ∀ (n : Nat) (i : Int), ∃ x, ref01_Same_l0 a a n i = .inr x
  | 0, i => ⟨_, rfl⟩
  | n + 1, i => by
    simp only [ref01_Same_l0]
    cases decide (i < (a.length : Int)) with
    | false => exact ⟨i, rfl⟩
    | true =>
      simp only [decide_true, Bool.not_true, cond_true, cond_false]
      exact Same_refl_l a n _
theorem Same_refl (a : List Int) : ref01_Same a a = true := by
  simp only [ref01_Same, decide_true, Bool.not_true, cond_false]
  obtain ⟨x, h⟩ := Same_refl_l a (((a.length : Int) - 0).toNat + 1) 0
  rw [h]; rfl
theorem SameNote_refl (a : api_Note) : ref05_SameNote a a = true := by simp [ref05_SameNote, Same_refl]

/-- interregnum/interregnumref01.Four -/
def ref01_Four (a0 : Int) : List Int :=
  [(IntKind.wrap .u8 (Int.fdiv a0 (2 ^ 24))), (IntKind.wrap .u8 (Int.fdiv a0 (2 ^ 16))), (IntKind.wrap .u8 (Int.fdiv a0 (2 ^ 8))), (IntKind.wrap .u8 a0)]
set_option maxRecDepth 100000 in
set_option maxHeartbeats 4000000 in
theorem ref01_Four_pf_g (a0 : Int) : PG Try.prog 36 [] [] [.sc (.int .i64 a0)] (fun _ : Unit => True) (fun _ => (fun (z : List Int) => ⟨[], [], .sem (SL (eI .u8) z)⟩) (ref01_Four a0)) := by
  refine pg_of (N := 15) (l := [.tmp 2]) Try.func36 rfl rfl rfl (Nat.le_of_ble_eq_true rfl) fun w0 i0 F βs => ?_
  refine aw_seq ?_
  refine aw_region ?_
  refine al_op rfl (g_assign (p := .sc (.slice none 0 0)) rfl rfl rfl rfl) ?_
  refine al_nil ?_
  refine aw_seq ?_
  refine aw_region ?_
  refine al_op rfl (g_move (p := .sc (.int .i64 a0)) rfl rfl rfl rfl) ?_
  refine al_op rfl (g_bin (u1 := .int .i64 a0) (u2 := .int .u64 24) (v := .int .i64 (Int.fdiv a0 (2 ^ 24))) rfl rfl rfl rfl rfl (fun _ => rfl)) ?_
  refine al_op rfl (g_conv (m := (IntKind.wrap .u8 (Int.fdiv a0 (2 ^ 24)))) rfl rfl rfl Try.underlying3 Try.underlying5 rfl rfl) ?_
  refine al_op rfl (g_move (p := .sc (.int .i64 a0)) rfl rfl rfl rfl) ?_
  refine al_op rfl (g_bin (u1 := .int .i64 a0) (u2 := .int .u64 16) (v := .int .i64 (Int.fdiv a0 (2 ^ 16))) rfl rfl rfl rfl rfl (fun _ => rfl)) ?_
  refine al_op rfl (g_conv (m := (IntKind.wrap .u8 (Int.fdiv a0 (2 ^ 16)))) rfl rfl rfl Try.underlying3 Try.underlying5 rfl rfl) ?_
  refine al_op rfl (g_move (p := .sc (.int .i64 a0)) rfl rfl rfl rfl) ?_
  refine al_op rfl (g_bin (u1 := .int .i64 a0) (u2 := .int .u64 8) (v := .int .i64 (Int.fdiv a0 (2 ^ 8))) rfl rfl rfl rfl rfl (fun _ => rfl)) ?_
  refine al_op rfl (g_conv (m := (IntKind.wrap .u8 (Int.fdiv a0 (2 ^ 8)))) rfl rfl rfl Try.underlying3 Try.underlying5 rfl rfl) ?_
  refine al_op rfl (g_move (p := .sc (.int .i64 a0)) rfl rfl rfl rfl) ?_
  refine al_op rfl (g_conv (m := (IntKind.wrap .u8 a0)) rfl rfl rfl Try.underlying3 Try.underlying5 rfl rfl) ?_
  refine al_op rfl (g_buildSlice (E := (eI .u8)) (l := [(IntKind.wrap .u8 (Int.fdiv a0 (2 ^ 24))), (IntKind.wrap .u8 (Int.fdiv a0 (2 ^ 16))), (IntKind.wrap .u8 (Int.fdiv a0 (2 ^ 8))), (IntKind.wrap .u8 a0)]) (tp := 14) (parts := [(0, .tmp 5), (1, .tmp 8), (2, .tmp 11), (3, .tmp 13)]) (qs := [.sc (.int .u8 (IntKind.wrap .u8 (Int.fdiv a0 (2 ^ 24)))), .sc (.int .u8 (IntKind.wrap .u8 (Int.fdiv a0 (2 ^ 16)))), .sc (.int .u8 (IntKind.wrap .u8 (Int.fdiv a0 (2 ^ 8)))), .sc (.int .u8 (IntKind.wrap .u8 a0))]) rfl rfl rfl el36 rfl rfl rfl rfl) ?_
  refine al_op rfl (g_assign (p := .own 14 (List.length (α := Int) [(IntKind.wrap .u8 (Int.fdiv a0 (2 ^ 24))), (IntKind.wrap .u8 (Int.fdiv a0 (2 ^ 16))), (IntKind.wrap .u8 (Int.fdiv a0 (2 ^ 8))), (IntKind.wrap .u8 a0)]) (SL (eI .u8) [(IntKind.wrap .u8 (Int.fdiv a0 (2 ^ 24))), (IntKind.wrap .u8 (Int.fdiv a0 (2 ^ 16))), (IntKind.wrap .u8 (Int.fdiv a0 (2 ^ 8))), (IntKind.wrap .u8 a0)])) rfl rfl rfl rfl) ?_
  refine al_nil ?_
  refine aw_ret ?_
  exact endG_mk (F := (fun (z : List Int) => ⟨[], [], .sem (SL (eI .u8) z)⟩)) (z := (ref01_Four a0)) (v := [(IntKind.wrap .u8 (Int.fdiv a0 (2 ^ 24))), (IntKind.wrap .u8 (Int.fdiv a0 (2 ^ 16))), (IntKind.wrap .u8 (Int.fdiv a0 (2 ^ 8))), (IntKind.wrap .u8 a0)]) rfl rfl (.one (.tmp 2 (.sem (SL (eI .u8) [(IntKind.wrap .u8 (Int.fdiv a0 (2 ^ 24))), (IntKind.wrap .u8 (Int.fdiv a0 (2 ^ 16))), (IntKind.wrap .u8 (Int.fdiv a0 (2 ^ 8))), (IntKind.wrap .u8 a0)])) rfl) (.one (.rfl _)) rfl) trivial trivial
theorem ref01_Four_pf (a0 : Int) : PF Try.prog 36 [.sc (.int .i64 a0)] (.sem (SL (eI .u8) (ref01_Four a0))) := pf_ofG (ref01_Four_pf_g a0) rfl
theorem ref01_Four_len (a : Int) : (ref01_Four a).length = 4 := rfl

/-- interregnum/nego.Hold -/
def nego_Hold (a0 : api_Config) (a1 : api_Open) : Int :=
  (if (a1.fHold : Int) < a0.fHold then a1.fHold else a0.fHold)
set_option maxRecDepth 100000 in
set_option maxHeartbeats 4000000 in
theorem nego_Hold_pf_g (a0 : api_Config) (a1 : api_Open) : PG Try.prog 20 [] [] [.agg (api_Config.cells a0), .agg (api_Open.cells a1)] (fun _ : Unit => True) (fun _ => (fun (z : Int) => ⟨[], [], .sc (.int .i64 z)⟩) (nego_Hold a0 a1)) := by
  refine pg_of (N := 10) (l := [.tmp 4]) Try.func20 rfl rfl rfl (Nat.le_of_ble_eq_true rfl) fun w0 i0 F βs => ?_
  refine aw_seq ?_
  refine aw_region ?_
  refine al_op rfl (g_box (s := 2) (p := .agg (api_Config.cells a0)) (qs := (api_Config.cells a0)) rfl rfl rfl rfl rfl rfl rfl) ?_
  refine al_op rfl (g_box (s := 3) (p := .agg (api_Open.cells a1)) (qs := (api_Open.cells a1)) rfl rfl rfl rfl rfl rfl rfl) ?_
  refine al_op rfl (g_assign (p := .sc (.int .i64 0)) rfl rfl rfl rfl) ?_
  refine al_nil ?_
  refine aw_seq ?_
  refine aw_region ?_
  refine al_op rfl (g_fieldAddr (b := 2) (k := 0) (m := 3) rfl rfl rfl fld24_3 rfl rfl) ?_
  refine al_op rfl (g_load (s := 2) (off := 3) (ps := (api_Config.cells a0)) (p := .sc (.int .i64 a0.fHold)) rfl rfl rfl ty3 rfl rfl rfl rfl rfl) ?_
  refine al_op rfl (g_fieldAddr (b := 3) (k := 0) (m := 1) rfl rfl rfl fld29_1 rfl rfl) ?_
  refine al_op rfl (g_load (s := 3) (off := 1) (ps := (api_Open.cells a1)) (p := .sc (.int .i64 a1.fHold)) rfl rfl rfl ty3 rfl rfl rfl rfl rfl) ?_
  refine al_op rfl (g_builtin (xs := [.tmp 6, .tmp 8]) (us := [.int .i64 a0.fHold, .int .i64 a1.fHold]) (v := .int .i64 (if (a1.fHold : Int) < a0.fHold then a1.fHold else a0.fHold)) rfl rfl rfl rfl (fun _ _ => rfl)) ?_
  refine al_op rfl (g_assign (p := .sc (.int .i64 (if (a1.fHold : Int) < a0.fHold then a1.fHold else a0.fHold))) rfl rfl rfl rfl) ?_
  refine al_nil ?_
  refine aw_ret ?_
  exact endG_mk (F := (fun (z : Int) => ⟨[], [], .sc (.int .i64 z)⟩)) (z := (nego_Hold a0 a1)) (v := (if (a1.fHold : Int) < a0.fHold then a1.fHold else a0.fHold)) rfl rfl (.one (.tmp 4 (.sc (.int .i64 (if (a1.fHold : Int) < a0.fHold then a1.fHold else a0.fHold))) rfl) (.one (.rfl _)) rfl) trivial trivial
theorem nego_Hold_pf (a0 : api_Config) (a1 : api_Open) : PF Try.prog 20 [.agg (api_Config.cells a0), .agg (api_Open.cells a1)] (.sc (.int .i64 (nego_Hold a0 a1))) := pf_ofG (nego_Hold_pf_g a0 a1) rfl

/-- interregnum/interregnumref11.Hold -/
def ref11_Hold (a0 : api_Config) (a1 : api_Open) : Int :=
  (bif decide ((a0.fHold : Int) < a1.fHold) then
    a0.fHold
  else
    a1.fHold)
set_option maxRecDepth 100000 in
set_option maxHeartbeats 4000000 in
theorem ref11_Hold_pf_g (a0 : api_Config) (a1 : api_Open) : PG Try.prog 21 [] [] [.agg (api_Config.cells a0), .agg (api_Open.cells a1)] (fun _ : Unit => True) (fun _ => (fun (z : Int) => ⟨[], [], .sc (.int .i64 z)⟩) (ref11_Hold a0 a1)) := by
  refine pg_of (N := 14) (l := [.tmp 4]) Try.func21 rfl rfl rfl (Nat.le_of_ble_eq_true rfl) fun w0 i0 F βs => ?_
  refine aw_seq ?_
  refine aw_region ?_
  refine al_op rfl (g_box (s := 2) (p := .agg (api_Config.cells a0)) (qs := (api_Config.cells a0)) rfl rfl rfl rfl rfl rfl rfl) ?_
  refine al_op rfl (g_box (s := 3) (p := .agg (api_Open.cells a1)) (qs := (api_Open.cells a1)) rfl rfl rfl rfl rfl rfl rfl) ?_
  refine al_op rfl (g_assign (p := .sc (.int .i64 0)) rfl rfl rfl rfl) ?_
  refine al_nil ?_
  refine aw_seq ?_
  refine aw_seq ?_
  refine aw_region ?_
  refine al_op rfl (g_fieldAddr (b := 2) (k := 0) (m := 3) rfl rfl rfl fld24_3 rfl rfl) ?_
  refine al_op rfl (g_load (s := 2) (off := 3) (ps := (api_Config.cells a0)) (p := .sc (.int .i64 a0.fHold)) rfl rfl rfl ty3 rfl rfl rfl rfl rfl) ?_
  refine al_op rfl (g_fieldAddr (b := 3) (k := 0) (m := 1) rfl rfl rfl fld29_1 rfl rfl) ?_
  refine al_op rfl (g_load (s := 3) (off := 1) (ps := (api_Open.cells a1)) (p := .sc (.int .i64 a1.fHold)) rfl rfl rfl ty3 rfl rfl rfl rfl rfl) ?_
  refine al_op rfl (g_bin (u1 := .int .i64 a0.fHold) (u2 := .int .i64 a1.fHold) (v := .bool (decide ((a0.fHold : Int) < a1.fHold))) rfl rfl rfl rfl rfl (fun _ => rfl)) ?_
  refine al_nil ?_
  refine aw_cond (b := decide ((a0.fHold : Int) < a1.fHold)) rfl (fun k1 => ?_) (fun k1 => ?_)
  · skip
    refine aw_seq ?_
    refine aw_region ?_
    refine al_op rfl (g_fieldAddr (b := 2) (k := 0) (m := 3) rfl rfl rfl fld24_3 rfl rfl) ?_
    refine al_op rfl (g_load (s := 2) (off := 3) (ps := (api_Config.cells a0)) (p := .sc (.int .i64 a0.fHold)) rfl rfl rfl ty3 rfl rfl rfl rfl rfl) ?_
    refine al_op rfl (g_assign (p := .sc (.int .i64 a0.fHold)) rfl rfl rfl rfl) ?_
    refine al_nil ?_
    refine aw_ret ?_
    exact endG_mk (F := (fun (z : Int) => ⟨[], [], .sc (.int .i64 z)⟩)) (z := (ref11_Hold a0 a1)) (v := a0.fHold) (bT k1 rfl) rfl (.one (.tmp 4 (.sc (.int .i64 a0.fHold)) rfl) (.one (.rfl _)) rfl) trivial trivial
  · skip
    refine aw_skip ?_
    refine aw_seq ?_
    refine aw_region ?_
    refine al_op rfl (g_fieldAddr (b := 3) (k := 0) (m := 1) rfl rfl rfl fld29_1 rfl rfl) ?_
    refine al_op rfl (g_load (s := 3) (off := 1) (ps := (api_Open.cells a1)) (p := .sc (.int .i64 a1.fHold)) rfl rfl rfl ty3 rfl rfl rfl rfl rfl) ?_
    refine al_op rfl (g_assign (p := .sc (.int .i64 a1.fHold)) rfl rfl rfl rfl) ?_
    refine al_nil ?_
    refine aw_ret ?_
    exact endG_mk (F := (fun (z : Int) => ⟨[], [], .sc (.int .i64 z)⟩)) (z := (ref11_Hold a0 a1)) (v := a1.fHold) (bF k1 rfl) rfl (.one (.tmp 4 (.sc (.int .i64 a1.fHold)) rfl) (.one (.rfl _)) rfl) trivial trivial
theorem ref11_Hold_pf (a0 : api_Config) (a1 : api_Open) : PF Try.prog 21 [.agg (api_Config.cells a0), .agg (api_Open.cells a1)] (.sc (.int .i64 (ref11_Hold a0 a1))) := pf_ofG (ref11_Hold_pf_g a0 a1) rfl

/-- interregnum/nego.Ours -/
def nego_Ours (a0 : api_Config) (a1 : Bool) (a2 : Bool) : api_Open :=
  (⟨a0.fAS, a0.fHold, a0.fID, (⟨true, a0.fAS, true, a1, (if (4095 : Int) < a0.fGRTime then 4095 else a0.fGRTime), true, a2, true, a0.fLLTime⟩ : api_Caps)⟩ : api_Open)
set_option maxRecDepth 100000 in
set_option maxHeartbeats 4000000 in
theorem nego_Ours_pf_g (a0 : api_Config) (a1 : Bool) (a2 : Bool) : PG Try.prog 15 [] [] [.agg (api_Config.cells a0), .sc (.bool a1), .sc (.bool a2)] (fun _ : Unit => True) (fun _ => (fun (z : api_Open) => ⟨[], [], .agg (api_Open.cells z)⟩) (nego_Ours a0 a1 a2)) := by
  refine pg_of (N := 24) (l := [.cell 6 29]) Try.func15 rfl rfl rfl (Nat.le_of_ble_eq_true rfl) fun w0 i0 F βs => ?_
  refine aw_seq ?_
  refine aw_region ?_
  refine al_op rfl (g_box (s := 3) (p := .agg (api_Config.cells a0)) (qs := (api_Config.cells a0)) rfl rfl rfl rfl rfl rfl rfl) ?_
  refine al_op rfl (g_alloc (s := 6) (z := zv29) (qs := zc29) rfl rfl rfl rfl z29 rfl rfl) ?_
  refine al_nil ?_
  refine aw_seq ?_
  refine aw_region ?_
  refine al_op rfl (g_fieldAddr (b := 3) (k := 0) (m := 0) rfl rfl rfl fld24_0 rfl rfl) ?_
  refine al_op rfl (g_load (s := 3) (off := 0) (ps := (api_Config.cells a0)) (p := .sc (.int .i64 a0.fAS)) rfl rfl rfl ty3 rfl rfl rfl rfl rfl) ?_
  refine al_op rfl (g_fieldAddr (b := 3) (k := 0) (m := 3) rfl rfl rfl fld24_3 rfl rfl) ?_
  refine al_op rfl (g_load (s := 3) (off := 3) (ps := (api_Config.cells a0)) (p := .sc (.int .i64 a0.fHold)) rfl rfl rfl ty3 rfl rfl rfl rfl rfl) ?_
  refine al_op rfl (g_fieldAddr (b := 3) (k := 0) (m := 1) rfl rfl rfl fld24_1 rfl rfl) ?_
  refine al_op rfl (g_load (s := 3) (off := 1) (ps := (api_Config.cells a0)) (p := .sc (.int .u32 a0.fID)) rfl rfl rfl ty22 rfl rfl rfl rfl rfl) ?_
  refine al_op rfl (g_fieldAddr (b := 3) (k := 0) (m := 0) rfl rfl rfl fld24_0 rfl rfl) ?_
  refine al_op rfl (g_load (s := 3) (off := 0) (ps := (api_Config.cells a0)) (p := .sc (.int .i64 a0.fAS)) rfl rfl rfl ty3 rfl rfl rfl rfl rfl) ?_
  refine al_op rfl (g_move (p := .sc (.bool a1)) rfl rfl rfl rfl) ?_
  refine al_op rfl (g_fieldAddr (b := 3) (k := 0) (m := 4) rfl rfl rfl fld24_4 rfl rfl) ?_
  refine al_op rfl (g_load (s := 3) (off := 4) (ps := (api_Config.cells a0)) (p := .sc (.int .i64 a0.fGRTime)) rfl rfl rfl ty3 rfl rfl rfl rfl rfl) ?_
  refine al_op rfl (g_builtin (xs := [.tmp 17, .const (.int .i64 4095)]) (us := [.int .i64 a0.fGRTime, .int .i64 4095]) (v := .int .i64 (if (4095 : Int) < a0.fGRTime then 4095 else a0.fGRTime)) rfl rfl rfl rfl (fun _ _ => rfl)) ?_
  refine al_op rfl (g_move (p := .sc (.bool a2)) rfl rfl rfl rfl) ?_
  refine al_op rfl (g_fieldAddr (b := 3) (k := 0) (m := 5) rfl rfl rfl fld24_5 rfl rfl) ?_
  refine al_op rfl (g_load (s := 3) (off := 5) (ps := (api_Config.cells a0)) (p := .sc (.int .i64 a0.fLLTime)) rfl rfl rfl ty3 rfl rfl rfl rfl rfl) ?_
  refine al_op rfl (g_build (parts := [(0, .const (.bool true)), (1, .tmp 14), (2, .const (.bool true)), (3, .tmp 15), (4, .tmp 18), (5, .const (.bool true)), (6, .tmp 19), (7, .const (.bool true)), (8, .tmp 21)]) (pps := [(0, .sc (.bool true)), (1, .sc (.int .i64 a0.fAS)), (2, .sc (.bool true)), (3, .sc (.bool a1)), (4, .sc (.int .i64 (if (4095 : Int) < a0.fGRTime then 4095 else a0.fGRTime))), (5, .sc (.bool true)), (6, .sc (.bool a2)), (7, .sc (.bool true)), (8, .sc (.int .i64 a0.fLLTime))]) (qs := [.sc (.bool true), .sc (.int .i64 a0.fAS), .sc (.bool true), .sc (.bool a1), .sc (.int .i64 (if (4095 : Int) < a0.fGRTime then 4095 else a0.fGRTime)), .sc (.bool true), .sc (.bool a2), .sc (.bool true), .sc (.int .i64 a0.fLLTime)]) rfl rfl rfl bld27 rfl rfl (by kernel_rfl)) ?_
  refine al_op rfl (g_build (parts := [(0, .tmp 8), (1, .tmp 10), (2, .tmp 12), (3, .tmp 22)]) (pps := [(0, .sc (.int .i64 a0.fAS)), (1, .sc (.int .i64 a0.fHold)), (2, .sc (.int .u32 a0.fID)), (3, .agg [.sc (.bool true), .sc (.int .i64 a0.fAS), .sc (.bool true), .sc (.bool a1), .sc (.int .i64 (if (4095 : Int) < a0.fGRTime then 4095 else a0.fGRTime)), .sc (.bool true), .sc (.bool a2), .sc (.bool true), .sc (.int .i64 a0.fLLTime)])]) (qs := [.sc (.int .i64 a0.fAS), .sc (.int .i64 a0.fHold), .sc (.int .u32 a0.fID), .sc (.bool true), .sc (.int .i64 a0.fAS), .sc (.bool true), .sc (.bool a1), .sc (.int .i64 (if (4095 : Int) < a0.fGRTime then 4095 else a0.fGRTime)), .sc (.bool true), .sc (.bool a2), .sc (.bool true), .sc (.int .i64 a0.fLLTime)]) rfl rfl rfl bld29 rfl rfl (by kernel_rfl)) ?_
  refine al_op rfl (g_store (s := 6) (off := 0) (ps := zc29) (p := .agg [.sc (.int .i64 a0.fAS), .sc (.int .i64 a0.fHold), .sc (.int .u32 a0.fID), .sc (.bool true), .sc (.int .i64 a0.fAS), .sc (.bool true), .sc (.bool a1), .sc (.int .i64 (if (4095 : Int) < a0.fGRTime then 4095 else a0.fGRTime)), .sc (.bool true), .sc (.bool a2), .sc (.bool true), .sc (.int .i64 a0.fLLTime)]) (qs := [.sc (.int .i64 a0.fAS), .sc (.int .i64 a0.fHold), .sc (.int .u32 a0.fID), .sc (.bool true), .sc (.int .i64 a0.fAS), .sc (.bool true), .sc (.bool a1), .sc (.int .i64 (if (4095 : Int) < a0.fGRTime then 4095 else a0.fGRTime)), .sc (.bool true), .sc (.bool a2), .sc (.bool true), .sc (.int .i64 a0.fLLTime)]) rfl rfl ty29 rfl rfl rfl rfl rfl rfl rfl) ?_
  refine al_nil ?_
  refine aw_ret ?_
  exact endG_mk (F := (fun (z : api_Open) => ⟨[], [], .agg (api_Open.cells z)⟩)) (z := (nego_Ours a0 a1 a2)) (v := (⟨a0.fAS, a0.fHold, a0.fID, (⟨true, a0.fAS, true, a1, (if (4095 : Int) < a0.fGRTime then 4095 else a0.fGRTime), true, a2, true, a0.fLLTime⟩ : api_Caps)⟩ : api_Open)) rfl rfl (.one (.cell 6 29 6 12 true [.sc (.int .i64 a0.fAS), .sc (.int .i64 a0.fHold), .sc (.int .u32 a0.fID), .sc (.bool true), .sc (.int .i64 a0.fAS), .sc (.bool true), .sc (.bool a1), .sc (.int .i64 (if (4095 : Int) < a0.fGRTime then 4095 else a0.fGRTime)), .sc (.bool true), .sc (.bool a2), .sc (.bool true), .sc (.int .i64 a0.fLLTime)] (.agg [.sc (.int .i64 a0.fAS), .sc (.int .i64 a0.fHold), .sc (.int .u32 a0.fID), .sc (.bool true), .sc (.int .i64 a0.fAS), .sc (.bool true), .sc (.bool a1), .sc (.int .i64 (if (4095 : Int) < a0.fGRTime then 4095 else a0.fGRTime)), .sc (.bool true), .sc (.bool a2), .sc (.bool true), .sc (.int .i64 a0.fLLTime)]) rfl rfl ty29 rfl rfl rfl) (.one (.rfl _)) rfl) trivial trivial
theorem nego_Ours_pf (a0 : api_Config) (a1 : Bool) (a2 : Bool) : PF Try.prog 15 [.agg (api_Config.cells a0), .sc (.bool a1), .sc (.bool a2)] (.agg (api_Open.cells (nego_Ours a0 a1 a2))) := pf_ofG (nego_Ours_pf_g a0 a1 a2) rfl

/-- interregnum/interregnumref11.Ours -/
def ref11_Ours (a0 : api_Config) (a1 : Bool) (a2 : Bool) : api_Open :=
  (thn (bif decide ((4095 : Int) < a0.fGRTime) then 4095 else a0.fGRTime) fun (y_1 : Int) =>
    (⟨a0.fAS, a0.fHold, a0.fID, (⟨true, a0.fAS, true, a1, y_1, true, a2, true, a0.fLLTime⟩ : api_Caps)⟩ : api_Open))
set_option maxRecDepth 100000 in
set_option maxHeartbeats 4000000 in
theorem ref11_Ours_pf_g (a0 : api_Config) (a1 : Bool) (a2 : Bool) : PG Try.prog 16 [] [] [.agg (api_Config.cells a0), .sc (.bool a1), .sc (.bool a2)] (fun _ : Unit => True) (fun _ => (fun (z : api_Open) => ⟨[], [], .agg (api_Open.cells z)⟩) (ref11_Ours a0 a1 a2)) := by
  refine pg_of (N := 27) (l := [.cell 6 29]) Try.func16 rfl rfl rfl (Nat.le_of_ble_eq_true rfl) fun w0 i0 F βs => ?_
  refine aw_seq ?_
  refine aw_region ?_
  refine al_op rfl (g_box (s := 3) (p := .agg (api_Config.cells a0)) (qs := (api_Config.cells a0)) rfl rfl rfl rfl rfl rfl rfl) ?_
  refine al_op rfl (g_alloc (s := 6) (z := zv29) (qs := zc29) rfl rfl rfl rfl z29 rfl rfl) ?_
  refine al_nil ?_
  refine aw_seq ?_
  refine aw_region ?_
  refine al_op rfl (g_fieldAddr (b := 3) (k := 0) (m := 4) rfl rfl rfl fld24_4 rfl rfl) ?_
  refine al_op rfl (g_load (s := 3) (off := 4) (ps := (api_Config.cells a0)) (p := .sc (.int .i64 a0.fGRTime)) rfl rfl rfl ty3 rfl rfl rfl rfl rfl) ?_
  refine al_op rfl (g_assign (p := .sc (.int .i64 a0.fGRTime)) rfl rfl rfl rfl) ?_
  refine al_nil ?_
  refine aw_joinV (ι := Int) (p := fun y_1 => ((bif decide ((4095 : Int) < a0.fGRTime) then 4095 else a0.fGRTime)) = y_1) (S := fun y_1 => St.of 27 [(0, .agg (api_Config.cells a0)), (1, .sc (.bool a1)), (2, .sc (.bool a2)), (3, .loc 3 0), (6, .loc 6 0), (7, .sc (.int .i64 y_1))] [(3, (api_Config.cells a0)), (6, zc29)] []) ?_ (fun y_1 e1 => ?_)
  · skip
    refine aw_seq ?_
    refine aw_region ?_
    refine al_op rfl (g_move (p := .sc (.int .i64 a0.fGRTime)) rfl rfl rfl rfl) ?_
    refine al_op rfl (g_bin (u1 := .int .i64 a0.fGRTime) (u2 := .int .i64 4095) (v := .bool (decide ((4095 : Int) < a0.fGRTime))) rfl rfl rfl rfl rfl (fun _ => rfl)) ?_
    refine al_nil ?_
    refine aw_cond (b := decide ((4095 : Int) < a0.fGRTime)) rfl (fun k2 => ?_) (fun k2 => ?_)
    · skip
      refine aw_region ?_
      refine al_op rfl (g_assign (p := .sc (.int .i64 4095)) rfl rfl rfl rfl) ?_
      refine al_nil ?_
      exact ⟨4095, (bT k2 rfl), (sub_of rfl ⟨⟨rfl, (.agg (.cons (.rfl _) (.cons (.rfl _) (.cons (.rfl _) (.cons (.rfl _) (.cons (.rfl _) (.cons (.rfl _) (.cons (.rfl _) (.cons (.rfl _) .nil)))))))))⟩, ⟨⟨rfl, (.one (.rfl _))⟩, ⟨⟨rfl, (.one (.rfl _))⟩, ⟨⟨rfl, (.one (.rfl _))⟩, ⟨⟨rfl, (.one (.rfl _))⟩, ⟨⟨rfl, (.one (.rfl _))⟩, trivial⟩⟩⟩⟩⟩⟩ ⟨⟨(api_Config.cells a0), rfl, (.cons (.rfl _) (.cons (.rfl _) (.cons (.rfl _) (.cons (.rfl _) (.cons (.rfl _) (.cons (.rfl _) (.cons (.rfl _) (.cons (.rfl _) .nil))))))))⟩, ⟨⟨zc29, rfl, (.cons (.rfl _) (.cons (.rfl _) (.cons (.rfl _) (.cons (.rfl _) (.cons (.rfl _) (.cons (.rfl _) (.cons (.rfl _) (.cons (.rfl _) (.cons (.rfl _) (.cons (.rfl _) (.cons (.rfl _) (.cons (.rfl _) .nil))))))))))))⟩, trivial⟩⟩ trivial)⟩
    · skip
      refine aw_skip ?_
      exact ⟨a0.fGRTime, (bF k2 rfl), (sub_of rfl ⟨⟨rfl, (.agg (.cons (.rfl _) (.cons (.rfl _) (.cons (.rfl _) (.cons (.rfl _) (.cons (.rfl _) (.cons (.rfl _) (.cons (.rfl _) (.cons (.rfl _) .nil)))))))))⟩, ⟨⟨rfl, (.one (.rfl _))⟩, ⟨⟨rfl, (.one (.rfl _))⟩, ⟨⟨rfl, (.one (.rfl _))⟩, ⟨⟨rfl, (.one (.rfl _))⟩, ⟨⟨rfl, (.one (.rfl _))⟩, trivial⟩⟩⟩⟩⟩⟩ ⟨⟨(api_Config.cells a0), rfl, (.cons (.rfl _) (.cons (.rfl _) (.cons (.rfl _) (.cons (.rfl _) (.cons (.rfl _) (.cons (.rfl _) (.cons (.rfl _) (.cons (.rfl _) .nil))))))))⟩, ⟨⟨zc29, rfl, (.cons (.rfl _) (.cons (.rfl _) (.cons (.rfl _) (.cons (.rfl _) (.cons (.rfl _) (.cons (.rfl _) (.cons (.rfl _) (.cons (.rfl _) (.cons (.rfl _) (.cons (.rfl _) (.cons (.rfl _) (.cons (.rfl _) .nil))))))))))))⟩, trivial⟩⟩ trivial)⟩
  · skip
    refine aw_seq ?_
    refine aw_region ?_
    refine al_op rfl (g_fieldAddr (b := 3) (k := 0) (m := 0) rfl rfl rfl fld24_0 rfl rfl) ?_
    refine al_op rfl (g_load (s := 3) (off := 0) (ps := (api_Config.cells a0)) (p := .sc (.int .i64 a0.fAS)) rfl rfl rfl ty3 rfl rfl rfl rfl rfl) ?_
    refine al_op rfl (g_fieldAddr (b := 3) (k := 0) (m := 3) rfl rfl rfl fld24_3 rfl rfl) ?_
    refine al_op rfl (g_load (s := 3) (off := 3) (ps := (api_Config.cells a0)) (p := .sc (.int .i64 a0.fHold)) rfl rfl rfl ty3 rfl rfl rfl rfl rfl) ?_
    refine al_op rfl (g_fieldAddr (b := 3) (k := 0) (m := 1) rfl rfl rfl fld24_1 rfl rfl) ?_
    refine al_op rfl (g_load (s := 3) (off := 1) (ps := (api_Config.cells a0)) (p := .sc (.int .u32 a0.fID)) rfl rfl rfl ty22 rfl rfl rfl rfl rfl) ?_
    refine al_op rfl (g_fieldAddr (b := 3) (k := 0) (m := 0) rfl rfl rfl fld24_0 rfl rfl) ?_
    refine al_op rfl (g_load (s := 3) (off := 0) (ps := (api_Config.cells a0)) (p := .sc (.int .i64 a0.fAS)) rfl rfl rfl ty3 rfl rfl rfl rfl rfl) ?_
    refine al_op rfl (g_move (p := .sc (.bool a1)) rfl rfl rfl rfl) ?_
    refine al_op rfl (g_move (p := .sc (.int .i64 y_1)) rfl rfl rfl rfl) ?_
    refine al_op rfl (g_move (p := .sc (.bool a2)) rfl rfl rfl rfl) ?_
    refine al_op rfl (g_fieldAddr (b := 3) (k := 0) (m := 5) rfl rfl rfl fld24_5 rfl rfl) ?_
    refine al_op rfl (g_load (s := 3) (off := 5) (ps := (api_Config.cells a0)) (p := .sc (.int .i64 a0.fLLTime)) rfl rfl rfl ty3 rfl rfl rfl rfl rfl) ?_
    refine al_op rfl (g_build (parts := [(0, .const (.bool true)), (1, .tmp 19), (2, .const (.bool true)), (3, .tmp 20), (4, .tmp 21), (5, .const (.bool true)), (6, .tmp 22), (7, .const (.bool true)), (8, .tmp 24)]) (pps := [(0, .sc (.bool true)), (1, .sc (.int .i64 a0.fAS)), (2, .sc (.bool true)), (3, .sc (.bool a1)), (4, .sc (.int .i64 y_1)), (5, .sc (.bool true)), (6, .sc (.bool a2)), (7, .sc (.bool true)), (8, .sc (.int .i64 a0.fLLTime))]) (qs := [.sc (.bool true), .sc (.int .i64 a0.fAS), .sc (.bool true), .sc (.bool a1), .sc (.int .i64 y_1), .sc (.bool true), .sc (.bool a2), .sc (.bool true), .sc (.int .i64 a0.fLLTime)]) rfl rfl rfl bld27 rfl rfl (by kernel_rfl)) ?_
    refine al_op rfl (g_build (parts := [(0, .tmp 13), (1, .tmp 15), (2, .tmp 17), (3, .tmp 25)]) (pps := [(0, .sc (.int .i64 a0.fAS)), (1, .sc (.int .i64 a0.fHold)), (2, .sc (.int .u32 a0.fID)), (3, .agg [.sc (.bool true), .sc (.int .i64 a0.fAS), .sc (.bool true), .sc (.bool a1), .sc (.int .i64 y_1), .sc (.bool true), .sc (.bool a2), .sc (.bool true), .sc (.int .i64 a0.fLLTime)])]) (qs := [.sc (.int .i64 a0.fAS), .sc (.int .i64 a0.fHold), .sc (.int .u32 a0.fID), .sc (.bool true), .sc (.int .i64 a0.fAS), .sc (.bool true), .sc (.bool a1), .sc (.int .i64 y_1), .sc (.bool true), .sc (.bool a2), .sc (.bool true), .sc (.int .i64 a0.fLLTime)]) rfl rfl rfl bld29 rfl rfl (by kernel_rfl)) ?_
    refine al_op rfl (g_store (s := 6) (off := 0) (ps := zc29) (p := .agg [.sc (.int .i64 a0.fAS), .sc (.int .i64 a0.fHold), .sc (.int .u32 a0.fID), .sc (.bool true), .sc (.int .i64 a0.fAS), .sc (.bool true), .sc (.bool a1), .sc (.int .i64 y_1), .sc (.bool true), .sc (.bool a2), .sc (.bool true), .sc (.int .i64 a0.fLLTime)]) (qs := [.sc (.int .i64 a0.fAS), .sc (.int .i64 a0.fHold), .sc (.int .u32 a0.fID), .sc (.bool true), .sc (.int .i64 a0.fAS), .sc (.bool true), .sc (.bool a1), .sc (.int .i64 y_1), .sc (.bool true), .sc (.bool a2), .sc (.bool true), .sc (.int .i64 a0.fLLTime)]) rfl rfl ty29 rfl rfl rfl rfl rfl rfl rfl) ?_
    refine al_nil ?_
    refine aw_ret ?_
    exact endG_mk (F := (fun (z : api_Open) => ⟨[], [], .agg (api_Open.cells z)⟩)) (z := (ref11_Ours a0 a1 a2)) (v := (⟨a0.fAS, a0.fHold, a0.fID, (⟨true, a0.fAS, true, a1, y_1, true, a2, true, a0.fLLTime⟩ : api_Caps)⟩ : api_Open)) (mB e1 rfl) rfl (.one (.cell 6 29 6 12 true [.sc (.int .i64 a0.fAS), .sc (.int .i64 a0.fHold), .sc (.int .u32 a0.fID), .sc (.bool true), .sc (.int .i64 a0.fAS), .sc (.bool true), .sc (.bool a1), .sc (.int .i64 y_1), .sc (.bool true), .sc (.bool a2), .sc (.bool true), .sc (.int .i64 a0.fLLTime)] (.agg [.sc (.int .i64 a0.fAS), .sc (.int .i64 a0.fHold), .sc (.int .u32 a0.fID), .sc (.bool true), .sc (.int .i64 a0.fAS), .sc (.bool true), .sc (.bool a1), .sc (.int .i64 y_1), .sc (.bool true), .sc (.bool a2), .sc (.bool true), .sc (.int .i64 a0.fLLTime)]) rfl rfl ty29 rfl rfl rfl) (.one (.rfl _)) rfl) trivial trivial
theorem ref11_Ours_pf (a0 : api_Config) (a1 : Bool) (a2 : Bool) : PF Try.prog 16 [.agg (api_Config.cells a0), .sc (.bool a1), .sc (.bool a2)] (.agg (api_Open.cells (ref11_Ours a0 a1 a2))) := pf_ofG (ref11_Ours_pf_g a0 a1 a2) rfl

/-- interregnum/nego.Check -/
def nego_Check (a0 : api_Config) (a1 : api_PeerConf) (a2 : api_Open) : api_Note :=
  (bif !a2.fCaps.fFour then
    (⟨2, 7, (region_Put [65, 4] (IntKind.wrap .u32 a0.fAS))⟩ : api_Note)
  else
    (bif !(decide ((a2.fAS : Int) = a1.fAS)) then
      (⟨2, 2, []⟩ : api_Note)
    else
      (bif (decide ((a2.fID : Int) = 0)) || (decide ((a2.fID : Int) = a0.fID)) then
        (⟨2, 3, []⟩ : api_Note)
      else
        (bif (decide ((a2.fHold : Int) = 1)) || (decide ((a2.fHold : Int) = 2)) then
          (⟨2, 6, []⟩ : api_Note)
        else
          (⟨0, 0, []⟩ : api_Note)))))
set_option maxRecDepth 100000 in
set_option maxHeartbeats 4000000 in
theorem nego_Check_pf_g (a0 : api_Config) (a1 : api_PeerConf) (a2 : api_Open) : PG Try.prog 18 [] [] [.agg (api_Config.cells a0), .agg (api_PeerConf.cells a1), .agg (api_Open.cells a2)] (fun _ : Unit => True) (fun _ => (fun (z : api_Note) => ⟨[], [], .agg (api_Note.cells z)⟩) (nego_Check a0 a1 a2)) := by
  refine pg_of (N := 48) (l := [.cell 6 38]) Try.func18 rfl rfl rfl (Nat.le_of_ble_eq_true rfl) fun w0 i0 F βs => ?_
  refine aw_seq ?_
  refine aw_region ?_
  refine al_op rfl (g_box (s := 3) (p := .agg (api_Config.cells a0)) (qs := (api_Config.cells a0)) rfl rfl rfl rfl rfl rfl rfl) ?_
  refine al_op rfl (g_box (s := 4) (p := .agg (api_PeerConf.cells a1)) (qs := (api_PeerConf.cells a1)) rfl rfl rfl rfl rfl rfl rfl) ?_
  refine al_op rfl (g_box (s := 5) (p := .agg (api_Open.cells a2)) (qs := (api_Open.cells a2)) rfl rfl rfl rfl rfl rfl rfl) ?_
  refine al_op rfl (g_alloc (s := 6) (z := zv38) (qs := zc38) rfl rfl rfl rfl z38 rfl rfl) ?_
  refine al_nil ?_
  refine aw_seq ?_
  refine aw_block ?_
  refine aw_seq ?_
  refine aw_region ?_
  refine al_op rfl (g_fieldAddr (b := 5) (k := 0) (m := 3) rfl rfl rfl fld29_3 rfl rfl) ?_
  refine al_op rfl (g_fieldAddr (b := 5) (k := 3) (m := 3) rfl rfl rfl fld27_0 rfl rfl) ?_
  refine al_op rfl (g_load (s := 5) (off := 3) (ps := (api_Open.cells a2)) (p := .sc (.bool a2.fCaps.fFour)) rfl rfl rfl ty4 rfl rfl rfl rfl rfl) ?_
  refine al_op rfl (g_un (u := .bool a2.fCaps.fFour) (v := .bool (!a2.fCaps.fFour)) rfl rfl rfl rfl (fun _ => rfl)) ?_
  refine al_op rfl (g_assign (p := .sc (.bool !a2.fCaps.fFour)) rfl rfl rfl rfl) ?_
  refine al_nil ?_
  refine aw_cond (b := !a2.fCaps.fFour) rfl (fun k1 => ?_) (fun k1 => ?_)
  · skip
    refine aw_seq ?_
    refine aw_region ?_
    refine al_op rfl (g_buildSlice (E := (eI .u8)) (l := [65, 4]) (tp := 12) (parts := [(0, .const (.int .u8 65)), (1, .const (.int .u8 4))]) (qs := [.sc (.int .u8 65), .sc (.int .u8 4)]) rfl rfl rfl el36 rfl rfl rfl rfl) ?_
    refine al_op rfl (g_fieldAddr (b := 3) (k := 0) (m := 0) rfl rfl rfl fld24_0 rfl rfl) ?_
    refine al_op rfl (g_load (s := 3) (off := 0) (ps := (api_Config.cells a0)) (p := .sc (.int .i64 a0.fAS)) rfl rfl rfl ty3 rfl rfl rfl rfl rfl) ?_
    refine al_op rfl (g_conv (m := (IntKind.wrap .u32 a0.fAS)) rfl rfl rfl Try.underlying3 Try.underlying22 rfl rfl) ?_
    refine al_opX rfl (g_callG (fn := Try.f35) (xs := [.tmp 12, .tmp 15]) (bxs := []) (tps := [(1000, 12, (1, [65, 4].length))]) (newS := []) (newT := []) (ρ := []) (τ := [(1000, 12)]) rfl rfl rfl Try.func35 rfl rfl (region_Put_pf [65, 4] (IntKind.wrap .u32 a0.fAS) (by (try simp only [zB, zC, zD, sub_len]); omega)) rfl rfl rfl rfl rfl rfl (by decide) fn' (fc rfl fn') ((.cons (.one (.rfl _)) (.cons (.one (.rfl _)) .nil))) rfl (fun _ => rfl) (fun _ => rfl) rfl) (fun _ _ => ?_)
    refine al_op rfl (g_build (parts := [(0, .const (.int .i64 2)), (1, .const (.int .i64 7)), (2, .tmp 16)]) (pps := [(0, .sc (.int .i64 2)), (1, .sc (.int .i64 7)), (2, .own 12 (List.length (α := Int) (region_Put [65, 4] (IntKind.wrap .u32 a0.fAS))) (SL (eI .u8) (region_Put [65, 4] (IntKind.wrap .u32 a0.fAS))))]) (qs := [.sc (.int .i64 2), .sc (.int .i64 7), .own 12 (List.length (α := Int) (region_Put [65, 4] (IntKind.wrap .u32 a0.fAS))) (SL (eI .u8) (region_Put [65, 4] (IntKind.wrap .u32 a0.fAS)))]) rfl rfl rfl bld38 rfl rfl (by kernel_rfl)) ?_
    refine al_op rfl (g_store (s := 6) (off := 0) (ps := zc38) (p := .agg [.sc (.int .i64 2), .sc (.int .i64 7), .own 12 (List.length (α := Int) (region_Put [65, 4] (IntKind.wrap .u32 a0.fAS))) (SL (eI .u8) (region_Put [65, 4] (IntKind.wrap .u32 a0.fAS)))]) (qs := [.sc (.int .i64 2), .sc (.int .i64 7), .own 12 (List.length (α := Int) (region_Put [65, 4] (IntKind.wrap .u32 a0.fAS))) (SL (eI .u8) (region_Put [65, 4] (IntKind.wrap .u32 a0.fAS)))]) rfl rfl ty38 rfl rfl rfl rfl rfl rfl rfl) ?_
    refine al_nil ?_
    refine aw_ret ?_
    exact endG_mk (F := (fun (z : api_Note) => ⟨[], [], .agg (api_Note.cells z)⟩)) (z := (nego_Check a0 a1 a2)) (v := (⟨2, 7, (region_Put [65, 4] (IntKind.wrap .u32 a0.fAS))⟩ : api_Note)) (bT k1 rfl) rfl (.one (.cell 6 38 6 3 true [.sc (.int .i64 2), .sc (.int .i64 7), .own 12 (List.length (α := Int) (region_Put [65, 4] (IntKind.wrap .u32 a0.fAS))) (SL (eI .u8) (region_Put [65, 4] (IntKind.wrap .u32 a0.fAS)))] (.agg [.sc (.int .i64 2), .sc (.int .i64 7), .sem (SL (eI .u8) (region_Put [65, 4] (IntKind.wrap .u32 a0.fAS)))]) rfl rfl ty38 rfl rfl rfl) (.one (.rfl _)) rfl) trivial trivial
  · skip
    refine aw_seq ?_
    refine aw_region ?_
    refine al_op rfl (g_fieldAddr (b := 5) (k := 0) (m := 0) rfl rfl rfl fld29_0 rfl rfl) ?_
    refine al_op rfl (g_load (s := 5) (off := 0) (ps := (api_Open.cells a2)) (p := .sc (.int .i64 a2.fAS)) rfl rfl rfl ty3 rfl rfl rfl rfl rfl) ?_
    refine al_op rfl (g_fieldAddr (b := 4) (k := 0) (m := 1) rfl rfl rfl fld34_1 rfl rfl) ?_
    refine al_op rfl (g_load (s := 4) (off := 1) (ps := (api_PeerConf.cells a1)) (p := .sc (.int .i64 a1.fAS)) rfl rfl rfl ty3 rfl rfl rfl rfl rfl) ?_
    refine al_op rfl (g_bin (u1 := .int .i64 a2.fAS) (u2 := .int .i64 a1.fAS) (v := .bool (!(decide ((a2.fAS : Int) = a1.fAS)))) rfl rfl rfl rfl rfl (fun _ => rfl)) ?_
    refine al_op rfl (g_assign (p := .sc (.bool (!(decide ((a2.fAS : Int) = a1.fAS))))) rfl rfl rfl rfl) ?_
    refine al_nil ?_
    refine aw_cond (b := !(decide ((a2.fAS : Int) = a1.fAS))) rfl (fun k2 => ?_) (fun k2 => ?_)
    · skip
      refine aw_seq ?_
      refine aw_region ?_
      refine al_op rfl (g_build (parts := [(0, .const (.int .i64 2)), (1, .const (.int .i64 2))]) (pps := [(0, .sc (.int .i64 2)), (1, .sc (.int .i64 2))]) (qs := [.sc (.int .i64 2), .sc (.int .i64 2), .sc (.slice none 0 0)]) rfl rfl rfl bld38 rfl rfl (by kernel_rfl)) ?_
      refine al_op rfl (g_store (s := 6) (off := 0) (ps := zc38) (p := .agg [.sc (.int .i64 2), .sc (.int .i64 2), .sc (.slice none 0 0)]) (qs := [.sc (.int .i64 2), .sc (.int .i64 2), .sc (.slice none 0 0)]) rfl rfl ty38 rfl rfl rfl rfl rfl rfl rfl) ?_
      refine al_nil ?_
      refine aw_ret ?_
      exact endG_mk (F := (fun (z : api_Note) => ⟨[], [], .agg (api_Note.cells z)⟩)) (z := (nego_Check a0 a1 a2)) (v := (⟨2, 2, []⟩ : api_Note)) (bF k1 (bT k2 rfl)) rfl (.one (.cell 6 38 6 3 true [.sc (.int .i64 2), .sc (.int .i64 2), .sc (.slice none 0 0)] (.agg [.sc (.int .i64 2), .sc (.int .i64 2), .sc (.slice none 0 0)]) rfl rfl ty38 rfl rfl rfl) (.agg (.cons (.rfl _) (.cons (.rfl _) (.cons (.nil _) .nil)))) rfl) trivial trivial
    · skip
      refine aw_seq ?_
      refine aw_region ?_
      refine al_op rfl (g_fieldAddr (b := 5) (k := 0) (m := 2) rfl rfl rfl fld29_2 rfl rfl) ?_
      refine al_op rfl (g_load (s := 5) (off := 2) (ps := (api_Open.cells a2)) (p := .sc (.int .u32 a2.fID)) rfl rfl rfl ty22 rfl rfl rfl rfl rfl) ?_
      refine al_op rfl (g_bin (u1 := .int .u32 a2.fID) (u2 := .int .u32 0) (v := .bool (decide ((a2.fID : Int) = 0))) rfl rfl rfl rfl rfl (fun _ => rfl)) ?_
      refine al_op rfl (g_move (p := .sc (.bool (decide ((a2.fID : Int) = 0)))) rfl rfl rfl rfl) ?_
      refine al_gW (C := !(decide ((a2.fID : Int) = 0))) (p := .loc 5 2) (gd_F (b := decide ((a2.fID : Int) = 0)) (c := !(decide ((a2.fID : Int) = 0))) rfl rfl rfl rfl rfl rfl) rfl rfl (fun g3 => g_fieldAddr (b := 5) (k := 0) (m := 2) rfl rfl rfl fld29_2 rfl rfl) ?_
      refine al_gW (C := !(decide ((a2.fID : Int) = 0))) (p := .sc (.int .u32 a2.fID)) (gd_F (b := decide ((a2.fID : Int) = 0)) (c := !(decide ((a2.fID : Int) = 0))) rfl rfl rfl rfl rfl rfl) rfl rfl (fun g4 => g_load (s := 5) (off := 2) (ps := (api_Open.cells a2)) (p := .sc (.int .u32 a2.fID)) rfl rfl rfl ty22 (gt (p := .loc 5 2) (q := .sc undef) g4) rfl rfl rfl rfl) ?_
      refine al_gW (C := !(decide ((a2.fID : Int) = 0))) (p := .loc 3 1) (gd_F (b := decide ((a2.fID : Int) = 0)) (c := !(decide ((a2.fID : Int) = 0))) rfl rfl rfl rfl rfl rfl) rfl rfl (fun g5 => g_fieldAddr (b := 3) (k := 0) (m := 1) rfl rfl rfl fld24_1 rfl rfl) ?_
      refine al_gW (C := !(decide ((a2.fID : Int) = 0))) (p := .sc (.int .u32 a0.fID)) (gd_F (b := decide ((a2.fID : Int) = 0)) (c := !(decide ((a2.fID : Int) = 0))) rfl rfl rfl rfl rfl rfl) rfl rfl (fun g6 => g_load (s := 3) (off := 1) (ps := (api_Config.cells a0)) (p := .sc (.int .u32 a0.fID)) rfl rfl rfl ty22 (gt (p := .loc 3 1) (q := .sc undef) g6) rfl rfl rfl rfl) ?_
      refine al_gW (C := !(decide ((a2.fID : Int) = 0))) (p := .sc (.bool (decide ((a2.fID : Int) = a0.fID)))) (gd_F (b := decide ((a2.fID : Int) = 0)) (c := !(decide ((a2.fID : Int) = 0))) rfl rfl rfl rfl rfl rfl) rfl rfl (fun g7 => g_bin (u1 := .int .u32 a2.fID) (u2 := .int .u32 a0.fID) (v := .bool (decide ((a2.fID : Int) = a0.fID))) rfl rfl rfl (gt (p := .sc (.int .u32 a2.fID)) (q := .sc undef) g7) (gt (p := .sc (.int .u32 a0.fID)) (q := .sc undef) g7) (fun _ => rfl)) ?_
      refine al_op rfl (g_orU (b := decide ((a2.fID : Int) = 0)) (y := decide ((a2.fID : Int) = a0.fID)) rfl rfl rfl rfl rfl rfl) ?_
      refine al_op rfl (g_assign (p := .sc (.bool ((decide ((a2.fID : Int) = 0)) || (decide ((a2.fID : Int) = a0.fID))))) rfl rfl rfl rfl) ?_
      refine al_nil ?_
      refine aw_cond (b := (decide ((a2.fID : Int) = 0)) || (decide ((a2.fID : Int) = a0.fID))) rfl (fun k8 => ?_) (fun k8 => ?_)
      · skip
        refine aw_seq ?_
        refine aw_region ?_
        refine al_op rfl (g_build (parts := [(0, .const (.int .i64 2)), (1, .const (.int .i64 3))]) (pps := [(0, .sc (.int .i64 2)), (1, .sc (.int .i64 3))]) (qs := [.sc (.int .i64 2), .sc (.int .i64 3), .sc (.slice none 0 0)]) rfl rfl rfl bld38 rfl rfl (by kernel_rfl)) ?_
        refine al_op rfl (g_store (s := 6) (off := 0) (ps := zc38) (p := .agg [.sc (.int .i64 2), .sc (.int .i64 3), .sc (.slice none 0 0)]) (qs := [.sc (.int .i64 2), .sc (.int .i64 3), .sc (.slice none 0 0)]) rfl rfl ty38 rfl rfl rfl rfl rfl rfl rfl) ?_
        refine al_nil ?_
        refine aw_ret ?_
        exact endG_mk (F := (fun (z : api_Note) => ⟨[], [], .agg (api_Note.cells z)⟩)) (z := (nego_Check a0 a1 a2)) (v := (⟨2, 3, []⟩ : api_Note)) (bF k1 (bF k2 (bT k8 rfl))) rfl (.one (.cell 6 38 6 3 true [.sc (.int .i64 2), .sc (.int .i64 3), .sc (.slice none 0 0)] (.agg [.sc (.int .i64 2), .sc (.int .i64 3), .sc (.slice none 0 0)]) rfl rfl ty38 rfl rfl rfl) (.agg (.cons (.rfl _) (.cons (.rfl _) (.cons (.nil _) .nil)))) rfl) trivial trivial
      · skip
        refine aw_seq ?_
        refine aw_region ?_
        refine al_op rfl (g_fieldAddr (b := 5) (k := 0) (m := 1) rfl rfl rfl fld29_1 rfl rfl) ?_
        refine al_op rfl (g_load (s := 5) (off := 1) (ps := (api_Open.cells a2)) (p := .sc (.int .i64 a2.fHold)) rfl rfl rfl ty3 rfl rfl rfl rfl rfl) ?_
        refine al_op rfl (g_bin (u1 := .int .i64 a2.fHold) (u2 := .int .i64 1) (v := .bool (decide ((a2.fHold : Int) = 1))) rfl rfl rfl rfl rfl (fun _ => rfl)) ?_
        refine al_op rfl (g_move (p := .sc (.bool (decide ((a2.fHold : Int) = 1)))) rfl rfl rfl rfl) ?_
        refine al_gW (C := !(decide ((a2.fHold : Int) = 1))) (p := .loc 5 1) (gd_F (b := decide ((a2.fHold : Int) = 1)) (c := !(decide ((a2.fHold : Int) = 1))) rfl rfl rfl rfl rfl rfl) rfl rfl (fun g9 => g_fieldAddr (b := 5) (k := 0) (m := 1) rfl rfl rfl fld29_1 rfl rfl) ?_
        refine al_gW (C := !(decide ((a2.fHold : Int) = 1))) (p := .sc (.int .i64 a2.fHold)) (gd_F (b := decide ((a2.fHold : Int) = 1)) (c := !(decide ((a2.fHold : Int) = 1))) rfl rfl rfl rfl rfl rfl) rfl rfl (fun g10 => g_load (s := 5) (off := 1) (ps := (api_Open.cells a2)) (p := .sc (.int .i64 a2.fHold)) rfl rfl rfl ty3 (gt (p := .loc 5 1) (q := .sc undef) g10) rfl rfl rfl rfl) ?_
        refine al_gW (C := !(decide ((a2.fHold : Int) = 1))) (p := .sc (.bool (decide ((a2.fHold : Int) = 2)))) (gd_F (b := decide ((a2.fHold : Int) = 1)) (c := !(decide ((a2.fHold : Int) = 1))) rfl rfl rfl rfl rfl rfl) rfl rfl (fun g11 => g_bin (u1 := .int .i64 a2.fHold) (u2 := .int .i64 2) (v := .bool (decide ((a2.fHold : Int) = 2))) rfl rfl rfl (gt (p := .sc (.int .i64 a2.fHold)) (q := .sc undef) g11) rfl (fun _ => rfl)) ?_
        refine al_op rfl (g_orU (b := decide ((a2.fHold : Int) = 1)) (y := decide ((a2.fHold : Int) = 2)) rfl rfl rfl rfl rfl rfl) ?_
        refine al_op rfl (g_assign (p := .sc (.bool ((decide ((a2.fHold : Int) = 1)) || (decide ((a2.fHold : Int) = 2))))) rfl rfl rfl rfl) ?_
        refine al_nil ?_
        refine aw_cond (b := (decide ((a2.fHold : Int) = 1)) || (decide ((a2.fHold : Int) = 2))) rfl (fun k12 => ?_) (fun k12 => ?_)
        · skip
          refine aw_seq ?_
          refine aw_region ?_
          refine al_op rfl (g_build (parts := [(0, .const (.int .i64 2)), (1, .const (.int .i64 6))]) (pps := [(0, .sc (.int .i64 2)), (1, .sc (.int .i64 6))]) (qs := [.sc (.int .i64 2), .sc (.int .i64 6), .sc (.slice none 0 0)]) rfl rfl rfl bld38 rfl rfl (by kernel_rfl)) ?_
          refine al_op rfl (g_store (s := 6) (off := 0) (ps := zc38) (p := .agg [.sc (.int .i64 2), .sc (.int .i64 6), .sc (.slice none 0 0)]) (qs := [.sc (.int .i64 2), .sc (.int .i64 6), .sc (.slice none 0 0)]) rfl rfl ty38 rfl rfl rfl rfl rfl rfl rfl) ?_
          refine al_nil ?_
          refine aw_ret ?_
          exact endG_mk (F := (fun (z : api_Note) => ⟨[], [], .agg (api_Note.cells z)⟩)) (z := (nego_Check a0 a1 a2)) (v := (⟨2, 6, []⟩ : api_Note)) (bF k1 (bF k2 (bF k8 (bT k12 rfl)))) rfl (.one (.cell 6 38 6 3 true [.sc (.int .i64 2), .sc (.int .i64 6), .sc (.slice none 0 0)] (.agg [.sc (.int .i64 2), .sc (.int .i64 6), .sc (.slice none 0 0)]) rfl rfl ty38 rfl rfl rfl) (.agg (.cons (.rfl _) (.cons (.rfl _) (.cons (.nil _) .nil)))) rfl) trivial trivial
        · skip
          refine aw_skip ?_
          refine aw_seq ?_
          refine aw_region ?_
          refine al_op rfl (g_build (parts := []) (pps := []) (qs := zc38) rfl rfl rfl bld38 rfl rfl (by kernel_rfl)) ?_
          refine al_op rfl (g_store (s := 6) (off := 0) (ps := zc38) (p := .agg zc38) (qs := zc38) rfl rfl ty38 rfl rfl rfl rfl rfl rfl rfl) ?_
          refine al_nil ?_
          refine aw_ret ?_
          exact endG_mk (F := (fun (z : api_Note) => ⟨[], [], .agg (api_Note.cells z)⟩)) (z := (nego_Check a0 a1 a2)) (v := (⟨0, 0, []⟩ : api_Note)) (bF k1 (bF k2 (bF k8 (bF k12 rfl)))) rfl (.one (.cell 6 38 6 3 true zc38 (.agg zc38) rfl rfl ty38 rfl rfl rfl) (.agg (.cons (.rfl _) (.cons (.rfl _) (.cons (.nil _) .nil)))) rfl) trivial trivial
theorem nego_Check_pf (a0 : api_Config) (a1 : api_PeerConf) (a2 : api_Open) : PF Try.prog 18 [.agg (api_Config.cells a0), .agg (api_PeerConf.cells a1), .agg (api_Open.cells a2)] (.agg (api_Note.cells (nego_Check a0 a1 a2))) := pf_ofG (nego_Check_pf_g a0 a1 a2) rfl

/-- interregnum/interregnumref11.Check -/
def ref11_Check (a0 : api_Config) (a1 : api_PeerConf) (a2 : api_Open) : api_Note :=
  (bif !a2.fCaps.fFour then
    (⟨2, 7, ([65, 4] ++ (ref01_Four a0.fAS))⟩ : api_Note)
  else
    (bif !(decide ((a2.fAS : Int) = a1.fAS)) then
      (⟨2, 2, []⟩ : api_Note)
    else
      (bif (decide ((a2.fID : Int) = 0)) || (decide ((a2.fID : Int) = a0.fID)) then
        (⟨2, 3, []⟩ : api_Note)
      else
        (bif (decide ((a2.fHold : Int) = 1)) || (decide ((a2.fHold : Int) = 2)) then
          (⟨2, 6, []⟩ : api_Note)
        else
          (⟨0, 0, []⟩ : api_Note)))))
set_option maxRecDepth 100000 in
set_option maxHeartbeats 4000000 in
theorem ref11_Check_pf_g (a0 : api_Config) (a1 : api_PeerConf) (a2 : api_Open) : PG Try.prog 19 [] [] [.agg (api_Config.cells a0), .agg (api_PeerConf.cells a1), .agg (api_Open.cells a2)] (fun _ : Unit => True) (fun _ => (fun (z : api_Note) => ⟨[], [], .agg (api_Note.cells z)⟩) (ref11_Check a0 a1 a2)) := by
  refine pg_of (N := 44) (l := [.cell 6 38]) Try.func19 rfl rfl rfl (Nat.le_of_ble_eq_true rfl) fun w0 i0 F βs => ?_
  refine aw_seq ?_
  refine aw_region ?_
  refine al_op rfl (g_box (s := 3) (p := .agg (api_Config.cells a0)) (qs := (api_Config.cells a0)) rfl rfl rfl rfl rfl rfl rfl) ?_
  refine al_op rfl (g_box (s := 4) (p := .agg (api_PeerConf.cells a1)) (qs := (api_PeerConf.cells a1)) rfl rfl rfl rfl rfl rfl rfl) ?_
  refine al_op rfl (g_box (s := 5) (p := .agg (api_Open.cells a2)) (qs := (api_Open.cells a2)) rfl rfl rfl rfl rfl rfl rfl) ?_
  refine al_op rfl (g_alloc (s := 6) (z := zv38) (qs := zc38) rfl rfl rfl rfl z38 rfl rfl) ?_
  refine al_nil ?_
  refine aw_seq ?_
  refine aw_seq ?_
  refine aw_region ?_
  refine al_op rfl (g_fieldAddr (b := 5) (k := 0) (m := 3) rfl rfl rfl fld29_3 rfl rfl) ?_
  refine al_op rfl (g_fieldAddr (b := 5) (k := 3) (m := 3) rfl rfl rfl fld27_0 rfl rfl) ?_
  refine al_op rfl (g_load (s := 5) (off := 3) (ps := (api_Open.cells a2)) (p := .sc (.bool a2.fCaps.fFour)) rfl rfl rfl ty4 rfl rfl rfl rfl rfl) ?_
  refine al_op rfl (g_un (u := .bool a2.fCaps.fFour) (v := .bool (!a2.fCaps.fFour)) rfl rfl rfl rfl (fun _ => rfl)) ?_
  refine al_nil ?_
  refine aw_cond (b := !a2.fCaps.fFour) rfl (fun k1 => ?_) (fun k1 => ?_)
  · skip
    refine aw_seq ?_
    refine aw_region ?_
    refine al_op rfl (g_buildSlice (E := (eI .u8)) (l := [65, 4]) (tp := 11) (parts := [(0, .const (.int .u8 65)), (1, .const (.int .u8 4))]) (qs := [.sc (.int .u8 65), .sc (.int .u8 4)]) rfl rfl rfl el36 rfl rfl rfl rfl) ?_
    refine al_op rfl (g_fieldAddr (b := 3) (k := 0) (m := 0) rfl rfl rfl fld24_0 rfl rfl) ?_
    refine al_op rfl (g_load (s := 3) (off := 0) (ps := (api_Config.cells a0)) (p := .sc (.int .i64 a0.fAS)) rfl rfl rfl ty3 rfl rfl rfl rfl rfl) ?_
    refine al_op rfl (g_call (fn := Try.f36) (xs := [.tmp 13]) (args := [.sc (.int .i64 a0.fAS)]) (r := .sem (SL (eI .u8) (ref01_Four a0.fAS))) rfl rfl rfl Try.func36 rfl rfl rfl rfl rfl (ref01_Four_pf a0.fAS)) ?_
    refine al_op rfl (g_append (E := (eI .u8)) (l := [65, 4]) (ext := (ref01_Four a0.fAS)) (tp := 11) rfl rfl rfl el36 rfl rfl (isSl_sem rfl) (by (try simp only [zB, zC, zD, sub_len, region_Put_len, ref01_Four_len]); omega)) ?_
    refine al_op rfl (g_build (parts := [(0, .const (.int .i64 2)), (1, .const (.int .i64 7)), (2, .tmp 15)]) (pps := [(0, .sc (.int .i64 2)), (1, .sc (.int .i64 7)), (2, .own 11 (List.length (α := Int) ([65, 4] ++ (ref01_Four a0.fAS))) (SL (eI .u8) ([65, 4] ++ (ref01_Four a0.fAS))))]) (qs := [.sc (.int .i64 2), .sc (.int .i64 7), .own 11 (List.length (α := Int) ([65, 4] ++ (ref01_Four a0.fAS))) (SL (eI .u8) ([65, 4] ++ (ref01_Four a0.fAS)))]) rfl rfl rfl bld38 rfl rfl (by kernel_rfl)) ?_
    refine al_op rfl (g_store (s := 6) (off := 0) (ps := zc38) (p := .agg [.sc (.int .i64 2), .sc (.int .i64 7), .own 11 (List.length (α := Int) ([65, 4] ++ (ref01_Four a0.fAS))) (SL (eI .u8) ([65, 4] ++ (ref01_Four a0.fAS)))]) (qs := [.sc (.int .i64 2), .sc (.int .i64 7), .own 11 (List.length (α := Int) ([65, 4] ++ (ref01_Four a0.fAS))) (SL (eI .u8) ([65, 4] ++ (ref01_Four a0.fAS)))]) rfl rfl ty38 rfl rfl rfl rfl rfl rfl rfl) ?_
    refine al_nil ?_
    refine aw_ret ?_
    exact endG_mk (F := (fun (z : api_Note) => ⟨[], [], .agg (api_Note.cells z)⟩)) (z := (ref11_Check a0 a1 a2)) (v := (⟨2, 7, ([65, 4] ++ (ref01_Four a0.fAS))⟩ : api_Note)) (bT k1 rfl) rfl (.one (.cell 6 38 6 3 true [.sc (.int .i64 2), .sc (.int .i64 7), .own 11 (List.length (α := Int) ([65, 4] ++ (ref01_Four a0.fAS))) (SL (eI .u8) ([65, 4] ++ (ref01_Four a0.fAS)))] (.agg [.sc (.int .i64 2), .sc (.int .i64 7), .sem (SL (eI .u8) ([65, 4] ++ (ref01_Four a0.fAS)))]) rfl rfl ty38 rfl rfl rfl) (.one (.rfl _)) rfl) trivial trivial
  · skip
    refine aw_skip ?_
    refine aw_seq ?_
    refine aw_seq ?_
    refine aw_region ?_
    refine al_op rfl (g_fieldAddr (b := 5) (k := 0) (m := 0) rfl rfl rfl fld29_0 rfl rfl) ?_
    refine al_op rfl (g_load (s := 5) (off := 0) (ps := (api_Open.cells a2)) (p := .sc (.int .i64 a2.fAS)) rfl rfl rfl ty3 rfl rfl rfl rfl rfl) ?_
    refine al_op rfl (g_fieldAddr (b := 4) (k := 0) (m := 1) rfl rfl rfl fld34_1 rfl rfl) ?_
    refine al_op rfl (g_load (s := 4) (off := 1) (ps := (api_PeerConf.cells a1)) (p := .sc (.int .i64 a1.fAS)) rfl rfl rfl ty3 rfl rfl rfl rfl rfl) ?_
    refine al_op rfl (g_bin (u1 := .int .i64 a2.fAS) (u2 := .int .i64 a1.fAS) (v := .bool (!(decide ((a2.fAS : Int) = a1.fAS)))) rfl rfl rfl rfl rfl (fun _ => rfl)) ?_
    refine al_nil ?_
    refine aw_cond (b := !(decide ((a2.fAS : Int) = a1.fAS))) rfl (fun k2 => ?_) (fun k2 => ?_)
    · skip
      refine aw_seq ?_
      refine aw_region ?_
      refine al_op rfl (g_build (parts := [(0, .const (.int .i64 2)), (1, .const (.int .i64 2))]) (pps := [(0, .sc (.int .i64 2)), (1, .sc (.int .i64 2))]) (qs := [.sc (.int .i64 2), .sc (.int .i64 2), .sc (.slice none 0 0)]) rfl rfl rfl bld38 rfl rfl (by kernel_rfl)) ?_
      refine al_op rfl (g_store (s := 6) (off := 0) (ps := zc38) (p := .agg [.sc (.int .i64 2), .sc (.int .i64 2), .sc (.slice none 0 0)]) (qs := [.sc (.int .i64 2), .sc (.int .i64 2), .sc (.slice none 0 0)]) rfl rfl ty38 rfl rfl rfl rfl rfl rfl rfl) ?_
      refine al_nil ?_
      refine aw_ret ?_
      exact endG_mk (F := (fun (z : api_Note) => ⟨[], [], .agg (api_Note.cells z)⟩)) (z := (ref11_Check a0 a1 a2)) (v := (⟨2, 2, []⟩ : api_Note)) (bF k1 (bT k2 rfl)) rfl (.one (.cell 6 38 6 3 true [.sc (.int .i64 2), .sc (.int .i64 2), .sc (.slice none 0 0)] (.agg [.sc (.int .i64 2), .sc (.int .i64 2), .sc (.slice none 0 0)]) rfl rfl ty38 rfl rfl rfl) (.agg (.cons (.rfl _) (.cons (.rfl _) (.cons (.nil _) .nil)))) rfl) trivial trivial
    · skip
      refine aw_skip ?_
      refine aw_seq ?_
      refine aw_seq ?_
      refine aw_region ?_
      refine al_op rfl (g_fieldAddr (b := 5) (k := 0) (m := 2) rfl rfl rfl fld29_2 rfl rfl) ?_
      refine al_op rfl (g_load (s := 5) (off := 2) (ps := (api_Open.cells a2)) (p := .sc (.int .u32 a2.fID)) rfl rfl rfl ty22 rfl rfl rfl rfl rfl) ?_
      refine al_op rfl (g_bin (u1 := .int .u32 a2.fID) (u2 := .int .u32 0) (v := .bool (decide ((a2.fID : Int) = 0))) rfl rfl rfl rfl rfl (fun _ => rfl)) ?_
      refine al_op rfl (g_move (p := .sc (.bool (decide ((a2.fID : Int) = 0)))) rfl rfl rfl rfl) ?_
      refine al_gW (C := !(decide ((a2.fID : Int) = 0))) (p := .loc 5 2) (gd_F (b := decide ((a2.fID : Int) = 0)) (c := !(decide ((a2.fID : Int) = 0))) rfl rfl rfl rfl rfl rfl) rfl rfl (fun g3 => g_fieldAddr (b := 5) (k := 0) (m := 2) rfl rfl rfl fld29_2 rfl rfl) ?_
      refine al_gW (C := !(decide ((a2.fID : Int) = 0))) (p := .sc (.int .u32 a2.fID)) (gd_F (b := decide ((a2.fID : Int) = 0)) (c := !(decide ((a2.fID : Int) = 0))) rfl rfl rfl rfl rfl rfl) rfl rfl (fun g4 => g_load (s := 5) (off := 2) (ps := (api_Open.cells a2)) (p := .sc (.int .u32 a2.fID)) rfl rfl rfl ty22 (gt (p := .loc 5 2) (q := .sc undef) g4) rfl rfl rfl rfl) ?_
      refine al_gW (C := !(decide ((a2.fID : Int) = 0))) (p := .loc 3 1) (gd_F (b := decide ((a2.fID : Int) = 0)) (c := !(decide ((a2.fID : Int) = 0))) rfl rfl rfl rfl rfl rfl) rfl rfl (fun g5 => g_fieldAddr (b := 3) (k := 0) (m := 1) rfl rfl rfl fld24_1 rfl rfl) ?_
      refine al_gW (C := !(decide ((a2.fID : Int) = 0))) (p := .sc (.int .u32 a0.fID)) (gd_F (b := decide ((a2.fID : Int) = 0)) (c := !(decide ((a2.fID : Int) = 0))) rfl rfl rfl rfl rfl rfl) rfl rfl (fun g6 => g_load (s := 3) (off := 1) (ps := (api_Config.cells a0)) (p := .sc (.int .u32 a0.fID)) rfl rfl rfl ty22 (gt (p := .loc 3 1) (q := .sc undef) g6) rfl rfl rfl rfl) ?_
      refine al_gW (C := !(decide ((a2.fID : Int) = 0))) (p := .sc (.bool (decide ((a2.fID : Int) = a0.fID)))) (gd_F (b := decide ((a2.fID : Int) = 0)) (c := !(decide ((a2.fID : Int) = 0))) rfl rfl rfl rfl rfl rfl) rfl rfl (fun g7 => g_bin (u1 := .int .u32 a2.fID) (u2 := .int .u32 a0.fID) (v := .bool (decide ((a2.fID : Int) = a0.fID))) rfl rfl rfl (gt (p := .sc (.int .u32 a2.fID)) (q := .sc undef) g7) (gt (p := .sc (.int .u32 a0.fID)) (q := .sc undef) g7) (fun _ => rfl)) ?_
      refine al_op rfl (g_orU (b := decide ((a2.fID : Int) = 0)) (y := decide ((a2.fID : Int) = a0.fID)) rfl rfl rfl rfl rfl rfl) ?_
      refine al_nil ?_
      refine aw_cond (b := (decide ((a2.fID : Int) = 0)) || (decide ((a2.fID : Int) = a0.fID))) rfl (fun k8 => ?_) (fun k8 => ?_)
      · skip
        refine aw_seq ?_
        refine aw_region ?_
        refine al_op rfl (g_build (parts := [(0, .const (.int .i64 2)), (1, .const (.int .i64 3))]) (pps := [(0, .sc (.int .i64 2)), (1, .sc (.int .i64 3))]) (qs := [.sc (.int .i64 2), .sc (.int .i64 3), .sc (.slice none 0 0)]) rfl rfl rfl bld38 rfl rfl (by kernel_rfl)) ?_
        refine al_op rfl (g_store (s := 6) (off := 0) (ps := zc38) (p := .agg [.sc (.int .i64 2), .sc (.int .i64 3), .sc (.slice none 0 0)]) (qs := [.sc (.int .i64 2), .sc (.int .i64 3), .sc (.slice none 0 0)]) rfl rfl ty38 rfl rfl rfl rfl rfl rfl rfl) ?_
        refine al_nil ?_
        refine aw_ret ?_
        exact endG_mk (F := (fun (z : api_Note) => ⟨[], [], .agg (api_Note.cells z)⟩)) (z := (ref11_Check a0 a1 a2)) (v := (⟨2, 3, []⟩ : api_Note)) (bF k1 (bF k2 (bT k8 rfl))) rfl (.one (.cell 6 38 6 3 true [.sc (.int .i64 2), .sc (.int .i64 3), .sc (.slice none 0 0)] (.agg [.sc (.int .i64 2), .sc (.int .i64 3), .sc (.slice none 0 0)]) rfl rfl ty38 rfl rfl rfl) (.agg (.cons (.rfl _) (.cons (.rfl _) (.cons (.nil _) .nil)))) rfl) trivial trivial
      · skip
        refine aw_skip ?_
        refine aw_seq ?_
        refine aw_seq ?_
        refine aw_region ?_
        refine al_op rfl (g_fieldAddr (b := 5) (k := 0) (m := 1) rfl rfl rfl fld29_1 rfl rfl) ?_
        refine al_op rfl (g_load (s := 5) (off := 1) (ps := (api_Open.cells a2)) (p := .sc (.int .i64 a2.fHold)) rfl rfl rfl ty3 rfl rfl rfl rfl rfl) ?_
        refine al_op rfl (g_bin (u1 := .int .i64 a2.fHold) (u2 := .int .i64 1) (v := .bool (decide ((a2.fHold : Int) = 1))) rfl rfl rfl rfl rfl (fun _ => rfl)) ?_
        refine al_op rfl (g_move (p := .sc (.bool (decide ((a2.fHold : Int) = 1)))) rfl rfl rfl rfl) ?_
        refine al_gW (C := !(decide ((a2.fHold : Int) = 1))) (p := .loc 5 1) (gd_F (b := decide ((a2.fHold : Int) = 1)) (c := !(decide ((a2.fHold : Int) = 1))) rfl rfl rfl rfl rfl rfl) rfl rfl (fun g9 => g_fieldAddr (b := 5) (k := 0) (m := 1) rfl rfl rfl fld29_1 rfl rfl) ?_
        refine al_gW (C := !(decide ((a2.fHold : Int) = 1))) (p := .sc (.int .i64 a2.fHold)) (gd_F (b := decide ((a2.fHold : Int) = 1)) (c := !(decide ((a2.fHold : Int) = 1))) rfl rfl rfl rfl rfl rfl) rfl rfl (fun g10 => g_load (s := 5) (off := 1) (ps := (api_Open.cells a2)) (p := .sc (.int .i64 a2.fHold)) rfl rfl rfl ty3 (gt (p := .loc 5 1) (q := .sc undef) g10) rfl rfl rfl rfl) ?_
        refine al_gW (C := !(decide ((a2.fHold : Int) = 1))) (p := .sc (.bool (decide ((a2.fHold : Int) = 2)))) (gd_F (b := decide ((a2.fHold : Int) = 1)) (c := !(decide ((a2.fHold : Int) = 1))) rfl rfl rfl rfl rfl rfl) rfl rfl (fun g11 => g_bin (u1 := .int .i64 a2.fHold) (u2 := .int .i64 2) (v := .bool (decide ((a2.fHold : Int) = 2))) rfl rfl rfl (gt (p := .sc (.int .i64 a2.fHold)) (q := .sc undef) g11) rfl (fun _ => rfl)) ?_
        refine al_op rfl (g_orU (b := decide ((a2.fHold : Int) = 1)) (y := decide ((a2.fHold : Int) = 2)) rfl rfl rfl rfl rfl rfl) ?_
        refine al_nil ?_
        refine aw_cond (b := (decide ((a2.fHold : Int) = 1)) || (decide ((a2.fHold : Int) = 2))) rfl (fun k12 => ?_) (fun k12 => ?_)
        · skip
          refine aw_seq ?_
          refine aw_region ?_
          refine al_op rfl (g_build (parts := [(0, .const (.int .i64 2)), (1, .const (.int .i64 6))]) (pps := [(0, .sc (.int .i64 2)), (1, .sc (.int .i64 6))]) (qs := [.sc (.int .i64 2), .sc (.int .i64 6), .sc (.slice none 0 0)]) rfl rfl rfl bld38 rfl rfl (by kernel_rfl)) ?_
          refine al_op rfl (g_store (s := 6) (off := 0) (ps := zc38) (p := .agg [.sc (.int .i64 2), .sc (.int .i64 6), .sc (.slice none 0 0)]) (qs := [.sc (.int .i64 2), .sc (.int .i64 6), .sc (.slice none 0 0)]) rfl rfl ty38 rfl rfl rfl rfl rfl rfl rfl) ?_
          refine al_nil ?_
          refine aw_ret ?_
          exact endG_mk (F := (fun (z : api_Note) => ⟨[], [], .agg (api_Note.cells z)⟩)) (z := (ref11_Check a0 a1 a2)) (v := (⟨2, 6, []⟩ : api_Note)) (bF k1 (bF k2 (bF k8 (bT k12 rfl)))) rfl (.one (.cell 6 38 6 3 true [.sc (.int .i64 2), .sc (.int .i64 6), .sc (.slice none 0 0)] (.agg [.sc (.int .i64 2), .sc (.int .i64 6), .sc (.slice none 0 0)]) rfl rfl ty38 rfl rfl rfl) (.agg (.cons (.rfl _) (.cons (.rfl _) (.cons (.nil _) .nil)))) rfl) trivial trivial
        · skip
          refine aw_skip ?_
          refine aw_seq ?_
          refine aw_region ?_
          refine al_op rfl (g_build (parts := []) (pps := []) (qs := zc38) rfl rfl rfl bld38 rfl rfl (by kernel_rfl)) ?_
          refine al_op rfl (g_store (s := 6) (off := 0) (ps := zc38) (p := .agg zc38) (qs := zc38) rfl rfl ty38 rfl rfl rfl rfl rfl rfl rfl) ?_
          refine al_nil ?_
          refine aw_ret ?_
          exact endG_mk (F := (fun (z : api_Note) => ⟨[], [], .agg (api_Note.cells z)⟩)) (z := (ref11_Check a0 a1 a2)) (v := (⟨0, 0, []⟩ : api_Note)) (bF k1 (bF k2 (bF k8 (bF k12 rfl)))) rfl (.one (.cell 6 38 6 3 true zc38 (.agg zc38) rfl rfl ty38 rfl rfl rfl) (.agg (.cons (.rfl _) (.cons (.rfl _) (.cons (.nil _) .nil)))) rfl) trivial trivial
theorem ref11_Check_pf (a0 : api_Config) (a1 : api_PeerConf) (a2 : api_Open) : PF Try.prog 19 [.agg (api_Config.cells a0), .agg (api_PeerConf.cells a1), .agg (api_Open.cells a2)] (.agg (api_Note.cells (ref11_Check a0 a1 a2))) := pf_ofG (ref11_Check_pf_g a0 a1 a2) rfl
theorem Check_eq (a0 : api_Config) (a1 : api_PeerConf) (a2 : api_Open) : nego_Check a0 a1 a2 = ref11_Check a0 a1 a2 := by
  simp only [nego_Check, ref11_Check]
  congr 2
  simp only [region_Put, ref01_Four, wrapu8, wrapu32, fd8, fd16, fd24, List.cons.injEq, List.append_cancel_left_eq, and_true]
  refine ⟨?_, ?_, ?_, ?_⟩ <;> omega

/-- interregnum/interregnumlaw18.answers -/
def law18_answers  : Bool :=
  ((((decide ((((nego_Ours (⟨70000, 1, 0, 90, 5000, 0, 0, 0⟩ : api_Config) true false).fCaps).fAS4 : Int) = 70000)) && (decide ((((nego_Ours (⟨70000, 1, 0, 90, 5000, 0, 0, 0⟩ : api_Config) true false).fCaps).fTime : Int) = 4095))) && (((nego_Ours (⟨70000, 1, 0, 90, 5000, 0, 0, 0⟩ : api_Config) true false).fCaps).fRestarting)) && (decide (((nego_Hold (⟨70000, 1, 0, 90, 5000, 0, 0, 0⟩ : api_Config) (⟨0, 30, 0, (⟨false, 0, false, false, 0, false, false, false, 0⟩ : api_Caps)⟩ : api_Open)) : Int) = 30))) && (decide (((nego_Check (⟨70000, 1, 0, 90, 5000, 0, 0, 0⟩ : api_Config) (⟨0, 0, [], []⟩ : api_PeerConf) (⟨0, 0, 0, (⟨false, 0, false, false, 0, false, false, false, 0⟩ : api_Caps)⟩ : api_Open)).fSub : Int) = 7))
set_option maxRecDepth 100000 in
set_option maxHeartbeats 4000000 in
theorem law18_answers_pf_g  : PG Try.prog 14 [] [] [] (fun _ : Unit => True) (fun _ => (fun (z : Bool) => ⟨[], [], .sc (.bool z)⟩) law18_answers) := by
  refine pg_of (N := 35) (l := [.tmp 0]) Try.func14 rfl rfl rfl (Nat.le_of_ble_eq_true rfl) fun w0 i0 F βs => ?_
  refine aw_seq ?_
  refine aw_region ?_
  refine al_op rfl (g_assign (p := .sc (.bool false)) rfl rfl rfl rfl) ?_
  refine al_nil ?_
  refine aw_seq ?_
  refine aw_region ?_
  refine al_op rfl (g_build (parts := [(0, .const (.int .i64 70000)), (1, .const (.int .u32 1)), (3, .const (.int .i64 90)), (4, .const (.int .i64 5000))]) (pps := [(0, .sc (.int .i64 70000)), (1, .sc (.int .u32 1)), (3, .sc (.int .i64 90)), (4, .sc (.int .i64 5000))]) (qs := [.sc (.int .i64 70000), .sc (.int .u32 1), .sc (.int .u32 0), .sc (.int .i64 90), .sc (.int .i64 5000), .sc (.int .i64 0), .sc (.int .i64 0), .sc (.int .i64 0)]) rfl rfl rfl bld24 rfl rfl (by kernel_rfl)) ?_
  refine al_op rfl (g_alloc (s := 1) (z := zv24) (qs := zc24) rfl rfl rfl rfl z24 rfl rfl) ?_
  refine al_op rfl (g_store (s := 1) (off := 0) (ps := zc24) (p := .agg [.sc (.int .i64 70000), .sc (.int .u32 1), .sc (.int .u32 0), .sc (.int .i64 90), .sc (.int .i64 5000), .sc (.int .i64 0), .sc (.int .i64 0), .sc (.int .i64 0)]) (qs := [.sc (.int .i64 70000), .sc (.int .u32 1), .sc (.int .u32 0), .sc (.int .i64 90), .sc (.int .i64 5000), .sc (.int .i64 0), .sc (.int .i64 0), .sc (.int .i64 0)]) rfl rfl ty24 rfl rfl rfl rfl rfl rfl rfl) ?_
  refine al_nil ?_
  refine aw_seq ?_
  refine aw_region ?_
  refine al_op rfl (g_load (s := 1) (off := 0) (ps := [.sc (.int .i64 70000), .sc (.int .u32 1), .sc (.int .u32 0), .sc (.int .i64 90), .sc (.int .i64 5000), .sc (.int .i64 0), .sc (.int .i64 0), .sc (.int .i64 0)]) (p := .agg [.sc (.int .i64 70000), .sc (.int .u32 1), .sc (.int .u32 0), .sc (.int .i64 90), .sc (.int .i64 5000), .sc (.int .i64 0), .sc (.int .i64 0), .sc (.int .i64 0)]) rfl rfl rfl ty24 rfl rfl rfl rfl rfl) ?_
  refine al_op rfl (g_call (fn := Try.f15) (xs := [.tmp 4, .const (.bool true), .const (.bool false)]) (args := [.agg [.sc (.int .i64 70000), .sc (.int .u32 1), .sc (.int .u32 0), .sc (.int .i64 90), .sc (.int .i64 5000), .sc (.int .i64 0), .sc (.int .i64 0), .sc (.int .i64 0)], .sc (.bool true), .sc (.bool false)]) (r := .agg (api_Open.cells (nego_Ours (⟨70000, 1, 0, 90, 5000, 0, 0, 0⟩ : api_Config) true false))) rfl rfl rfl Try.func15 rfl rfl rfl rfl rfl (nego_Ours_pf (⟨70000, 1, 0, 90, 5000, 0, 0, 0⟩ : api_Config) true false)) ?_
  refine al_op rfl (g_alloc (s := 2) (z := zv29) (qs := zc29) rfl rfl rfl rfl z29 rfl rfl) ?_
  refine al_op rfl (g_store (s := 2) (off := 0) (ps := zc29) (p := .agg (api_Open.cells (nego_Ours (⟨70000, 1, 0, 90, 5000, 0, 0, 0⟩ : api_Config) true false))) (qs := (api_Open.cells (nego_Ours (⟨70000, 1, 0, 90, 5000, 0, 0, 0⟩ : api_Config) true false))) rfl rfl ty29 rfl rfl rfl rfl rfl rfl rfl) ?_
  refine al_nil ?_
  refine aw_seq ?_
  refine aw_region ?_
  refine al_op rfl (g_fieldAddr (b := 2) (k := 0) (m := 3) rfl rfl rfl fld29_3 rfl rfl) ?_
  refine al_op rfl (g_fieldAddr (b := 2) (k := 3) (m := 4) rfl rfl rfl fld27_1 rfl rfl) ?_
  refine al_op rfl (g_load (s := 2) (off := 4) (ps := (api_Open.cells (nego_Ours (⟨70000, 1, 0, 90, 5000, 0, 0, 0⟩ : api_Config) true false))) (p := .sc (.int .i64 (((nego_Ours (⟨70000, 1, 0, 90, 5000, 0, 0, 0⟩ : api_Config) true false).fCaps).fAS4))) rfl rfl rfl ty3 rfl rfl rfl rfl rfl) ?_
  refine al_op rfl (g_bin (u1 := .int .i64 (((nego_Ours (⟨70000, 1, 0, 90, 5000, 0, 0, 0⟩ : api_Config) true false).fCaps).fAS4)) (u2 := .int .i64 70000) (v := .bool (decide ((((nego_Ours (⟨70000, 1, 0, 90, 5000, 0, 0, 0⟩ : api_Config) true false).fCaps).fAS4 : Int) = 70000))) rfl rfl rfl rfl rfl (fun _ => rfl)) ?_
  refine al_op rfl (g_move (p := .sc (.bool (decide ((((nego_Ours (⟨70000, 1, 0, 90, 5000, 0, 0, 0⟩ : api_Config) true false).fCaps).fAS4 : Int) = 70000)))) rfl rfl rfl rfl) ?_
  refine al_gW (C := decide ((((nego_Ours (⟨70000, 1, 0, 90, 5000, 0, 0, 0⟩ : api_Config) true false).fCaps).fAS4 : Int) = 70000)) (p := .loc 2 3) (gd_T rfl rfl rfl rfl rfl) rfl rfl (fun g1 => g_fieldAddr (b := 2) (k := 0) (m := 3) rfl rfl rfl fld29_3 rfl rfl) ?_
  refine al_gW (C := decide ((((nego_Ours (⟨70000, 1, 0, 90, 5000, 0, 0, 0⟩ : api_Config) true false).fCaps).fAS4 : Int) = 70000)) (p := .loc 2 7) (gd_T rfl rfl rfl rfl rfl) rfl rfl (fun g2 => g_fieldAddr (b := 2) (k := 3) (m := 7) rfl rfl rfl fld27_4 (gt (p := .loc 2 3) (q := .sc undef) g2) rfl) ?_
  refine al_gW (C := decide ((((nego_Ours (⟨70000, 1, 0, 90, 5000, 0, 0, 0⟩ : api_Config) true false).fCaps).fAS4 : Int) = 70000)) (p := .sc (.int .i64 (((nego_Ours (⟨70000, 1, 0, 90, 5000, 0, 0, 0⟩ : api_Config) true false).fCaps).fTime))) (gd_T rfl rfl rfl rfl rfl) rfl rfl (fun g3 => g_load (s := 2) (off := 7) (ps := (api_Open.cells (nego_Ours (⟨70000, 1, 0, 90, 5000, 0, 0, 0⟩ : api_Config) true false))) (p := .sc (.int .i64 (((nego_Ours (⟨70000, 1, 0, 90, 5000, 0, 0, 0⟩ : api_Config) true false).fCaps).fTime))) rfl rfl rfl ty3 (gt (p := .loc 2 7) (q := .sc undef) g3) rfl rfl rfl rfl) ?_
  refine al_gW (C := decide ((((nego_Ours (⟨70000, 1, 0, 90, 5000, 0, 0, 0⟩ : api_Config) true false).fCaps).fAS4 : Int) = 70000)) (p := .sc (.bool (decide ((((nego_Ours (⟨70000, 1, 0, 90, 5000, 0, 0, 0⟩ : api_Config) true false).fCaps).fTime : Int) = 4095)))) (gd_T rfl rfl rfl rfl rfl) rfl rfl (fun g4 => g_bin (u1 := .int .i64 (((nego_Ours (⟨70000, 1, 0, 90, 5000, 0, 0, 0⟩ : api_Config) true false).fCaps).fTime)) (u2 := .int .i64 4095) (v := .bool (decide ((((nego_Ours (⟨70000, 1, 0, 90, 5000, 0, 0, 0⟩ : api_Config) true false).fCaps).fTime : Int) = 4095))) rfl rfl rfl (gt (p := .sc (.int .i64 (((nego_Ours (⟨70000, 1, 0, 90, 5000, 0, 0, 0⟩ : api_Config) true false).fCaps).fTime))) (q := .sc undef) g4) rfl (fun _ => rfl)) ?_
  refine al_op rfl (g_andU (b := decide ((((nego_Ours (⟨70000, 1, 0, 90, 5000, 0, 0, 0⟩ : api_Config) true false).fCaps).fAS4 : Int) = 70000)) (y := decide ((((nego_Ours (⟨70000, 1, 0, 90, 5000, 0, 0, 0⟩ : api_Config) true false).fCaps).fTime : Int) = 4095)) rfl rfl rfl rfl rfl) ?_
  refine al_op rfl (g_move (p := .sc (.bool ((decide ((((nego_Ours (⟨70000, 1, 0, 90, 5000, 0, 0, 0⟩ : api_Config) true false).fCaps).fAS4 : Int) = 70000)) && (decide ((((nego_Ours (⟨70000, 1, 0, 90, 5000, 0, 0, 0⟩ : api_Config) true false).fCaps).fTime : Int) = 4095))))) rfl rfl rfl rfl) ?_
  refine al_gW (C := (decide ((((nego_Ours (⟨70000, 1, 0, 90, 5000, 0, 0, 0⟩ : api_Config) true false).fCaps).fAS4 : Int) = 70000)) && (decide ((((nego_Ours (⟨70000, 1, 0, 90, 5000, 0, 0, 0⟩ : api_Config) true false).fCaps).fTime : Int) = 4095))) (p := .loc 2 3) (gd_T rfl rfl rfl rfl rfl) rfl rfl (fun g5 => g_fieldAddr (b := 2) (k := 0) (m := 3) rfl rfl rfl fld29_3 rfl rfl) ?_
  refine al_gW (C := (decide ((((nego_Ours (⟨70000, 1, 0, 90, 5000, 0, 0, 0⟩ : api_Config) true false).fCaps).fAS4 : Int) = 70000)) && (decide ((((nego_Ours (⟨70000, 1, 0, 90, 5000, 0, 0, 0⟩ : api_Config) true false).fCaps).fTime : Int) = 4095))) (p := .loc 2 6) (gd_T rfl rfl rfl rfl rfl) rfl rfl (fun g6 => g_fieldAddr (b := 2) (k := 3) (m := 6) rfl rfl rfl fld27_3 (gt (p := .loc 2 3) (q := .sc undef) g6) rfl) ?_
  refine al_gW (C := (decide ((((nego_Ours (⟨70000, 1, 0, 90, 5000, 0, 0, 0⟩ : api_Config) true false).fCaps).fAS4 : Int) = 70000)) && (decide ((((nego_Ours (⟨70000, 1, 0, 90, 5000, 0, 0, 0⟩ : api_Config) true false).fCaps).fTime : Int) = 4095))) (p := .sc (.bool (((nego_Ours (⟨70000, 1, 0, 90, 5000, 0, 0, 0⟩ : api_Config) true false).fCaps).fRestarting))) (gd_T rfl rfl rfl rfl rfl) rfl rfl (fun g7 => g_load (s := 2) (off := 6) (ps := (api_Open.cells (nego_Ours (⟨70000, 1, 0, 90, 5000, 0, 0, 0⟩ : api_Config) true false))) (p := .sc (.bool (((nego_Ours (⟨70000, 1, 0, 90, 5000, 0, 0, 0⟩ : api_Config) true false).fCaps).fRestarting))) rfl rfl rfl ty4 (gt (p := .loc 2 6) (q := .sc undef) g7) rfl rfl rfl rfl) ?_
  refine al_op rfl (g_andU (b := (decide ((((nego_Ours (⟨70000, 1, 0, 90, 5000, 0, 0, 0⟩ : api_Config) true false).fCaps).fAS4 : Int) = 70000)) && (decide ((((nego_Ours (⟨70000, 1, 0, 90, 5000, 0, 0, 0⟩ : api_Config) true false).fCaps).fTime : Int) = 4095))) (y := ((nego_Ours (⟨70000, 1, 0, 90, 5000, 0, 0, 0⟩ : api_Config) true false).fCaps).fRestarting) rfl rfl rfl rfl rfl) ?_
  refine al_op rfl (g_move (p := .sc (.bool (((decide ((((nego_Ours (⟨70000, 1, 0, 90, 5000, 0, 0, 0⟩ : api_Config) true false).fCaps).fAS4 : Int) = 70000)) && (decide ((((nego_Ours (⟨70000, 1, 0, 90, 5000, 0, 0, 0⟩ : api_Config) true false).fCaps).fTime : Int) = 4095))) && (((nego_Ours (⟨70000, 1, 0, 90, 5000, 0, 0, 0⟩ : api_Config) true false).fCaps).fRestarting)))) rfl rfl rfl rfl) ?_
  refine al_gW (C := ((decide ((((nego_Ours (⟨70000, 1, 0, 90, 5000, 0, 0, 0⟩ : api_Config) true false).fCaps).fAS4 : Int) = 70000)) && (decide ((((nego_Ours (⟨70000, 1, 0, 90, 5000, 0, 0, 0⟩ : api_Config) true false).fCaps).fTime : Int) = 4095))) && (((nego_Ours (⟨70000, 1, 0, 90, 5000, 0, 0, 0⟩ : api_Config) true false).fCaps).fRestarting)) (p := .agg [.sc (.int .i64 70000), .sc (.int .u32 1), .sc (.int .u32 0), .sc (.int .i64 90), .sc (.int .i64 5000), .sc (.int .i64 0), .sc (.int .i64 0), .sc (.int .i64 0)]) (gd_T rfl rfl rfl rfl rfl) rfl rfl (fun g8 => g_load (s := 1) (off := 0) (ps := [.sc (.int .i64 70000), .sc (.int .u32 1), .sc (.int .u32 0), .sc (.int .i64 90), .sc (.int .i64 5000), .sc (.int .i64 0), .sc (.int .i64 0), .sc (.int .i64 0)]) (p := .agg [.sc (.int .i64 70000), .sc (.int .u32 1), .sc (.int .u32 0), .sc (.int .i64 90), .sc (.int .i64 5000), .sc (.int .i64 0), .sc (.int .i64 0), .sc (.int .i64 0)]) rfl rfl rfl ty24 rfl rfl rfl rfl rfl) ?_
  refine al_gW (C := ((decide ((((nego_Ours (⟨70000, 1, 0, 90, 5000, 0, 0, 0⟩ : api_Config) true false).fCaps).fAS4 : Int) = 70000)) && (decide ((((nego_Ours (⟨70000, 1, 0, 90, 5000, 0, 0, 0⟩ : api_Config) true false).fCaps).fTime : Int) = 4095))) && (((nego_Ours (⟨70000, 1, 0, 90, 5000, 0, 0, 0⟩ : api_Config) true false).fCaps).fRestarting)) (p := .agg [.sc (.int .i64 0), .sc (.int .i64 30), .sc (.int .u32 0), .sc (.bool false), .sc (.int .i64 0), .sc (.bool false), .sc (.bool false), .sc (.int .i64 0), .sc (.bool false), .sc (.bool false), .sc (.bool false), .sc (.int .i64 0)]) (gd_T rfl rfl rfl rfl rfl) rfl rfl (fun g9 => g_build (parts := [(1, .const (.int .i64 30))]) (pps := [(1, .sc (.int .i64 30))]) (qs := [.sc (.int .i64 0), .sc (.int .i64 30), .sc (.int .u32 0), .sc (.bool false), .sc (.int .i64 0), .sc (.bool false), .sc (.bool false), .sc (.int .i64 0), .sc (.bool false), .sc (.bool false), .sc (.bool false), .sc (.int .i64 0)]) rfl rfl rfl bld29 rfl rfl (by kernel_rfl)) ?_
  refine al_gW (C := ((decide ((((nego_Ours (⟨70000, 1, 0, 90, 5000, 0, 0, 0⟩ : api_Config) true false).fCaps).fAS4 : Int) = 70000)) && (decide ((((nego_Ours (⟨70000, 1, 0, 90, 5000, 0, 0, 0⟩ : api_Config) true false).fCaps).fTime : Int) = 4095))) && (((nego_Ours (⟨70000, 1, 0, 90, 5000, 0, 0, 0⟩ : api_Config) true false).fCaps).fRestarting)) (p := .sc (.int .i64 (nego_Hold (⟨70000, 1, 0, 90, 5000, 0, 0, 0⟩ : api_Config) (⟨0, 30, 0, (⟨false, 0, false, false, 0, false, false, false, 0⟩ : api_Caps)⟩ : api_Open)))) (gd_T rfl rfl rfl rfl rfl) rfl rfl (fun g10 => g_call (fn := Try.f20) (xs := [.tmp 22, .tmp 23]) (args := [.agg [.sc (.int .i64 70000), .sc (.int .u32 1), .sc (.int .u32 0), .sc (.int .i64 90), .sc (.int .i64 5000), .sc (.int .i64 0), .sc (.int .i64 0), .sc (.int .i64 0)], .agg [.sc (.int .i64 0), .sc (.int .i64 30), .sc (.int .u32 0), .sc (.bool false), .sc (.int .i64 0), .sc (.bool false), .sc (.bool false), .sc (.int .i64 0), .sc (.bool false), .sc (.bool false), .sc (.bool false), .sc (.int .i64 0)]]) (r := .sc (.int .i64 (nego_Hold (⟨70000, 1, 0, 90, 5000, 0, 0, 0⟩ : api_Config) (⟨0, 30, 0, (⟨false, 0, false, false, 0, false, false, false, 0⟩ : api_Caps)⟩ : api_Open)))) rfl rfl rfl Try.func20 rfl rfl (congrS2 (b0 := .agg [.sc (.int .i64 70000), .sc (.int .u32 1), .sc (.int .u32 0), .sc (.int .i64 90), .sc (.int .i64 5000), .sc (.int .i64 0), .sc (.int .i64 0), .sc (.int .i64 0)]) (b1 := .agg [.sc (.int .i64 0), .sc (.int .i64 30), .sc (.int .u32 0), .sc (.bool false), .sc (.int .i64 0), .sc (.bool false), .sc (.bool false), .sc (.int .i64 0), .sc (.bool false), .sc (.bool false), .sc (.bool false), .sc (.int .i64 0)]) (gt (p := .agg [.sc (.int .i64 70000), .sc (.int .u32 1), .sc (.int .u32 0), .sc (.int .i64 90), .sc (.int .i64 5000), .sc (.int .i64 0), .sc (.int .i64 0), .sc (.int .i64 0)]) (q := .sc undef) g10) (gt (p := .agg [.sc (.int .i64 0), .sc (.int .i64 30), .sc (.int .u32 0), .sc (.bool false), .sc (.int .i64 0), .sc (.bool false), .sc (.bool false), .sc (.int .i64 0), .sc (.bool false), .sc (.bool false), .sc (.bool false), .sc (.int .i64 0)]) (q := .sc undef) g10)) rfl rfl (nego_Hold_pf (⟨70000, 1, 0, 90, 5000, 0, 0, 0⟩ : api_Config) (⟨0, 30, 0, (⟨false, 0, false, false, 0, false, false, false, 0⟩ : api_Caps)⟩ : api_Open))) ?_
  refine al_gW (C := ((decide ((((nego_Ours (⟨70000, 1, 0, 90, 5000, 0, 0, 0⟩ : api_Config) true false).fCaps).fAS4 : Int) = 70000)) && (decide ((((nego_Ours (⟨70000, 1, 0, 90, 5000, 0, 0, 0⟩ : api_Config) true false).fCaps).fTime : Int) = 4095))) && (((nego_Ours (⟨70000, 1, 0, 90, 5000, 0, 0, 0⟩ : api_Config) true false).fCaps).fRestarting)) (p := .sc (.bool (decide (((nego_Hold (⟨70000, 1, 0, 90, 5000, 0, 0, 0⟩ : api_Config) (⟨0, 30, 0, (⟨false, 0, false, false, 0, false, false, false, 0⟩ : api_Caps)⟩ : api_Open)) : Int) = 30)))) (gd_T rfl rfl rfl rfl rfl) rfl rfl (fun g11 => g_bin (u1 := .int .i64 (nego_Hold (⟨70000, 1, 0, 90, 5000, 0, 0, 0⟩ : api_Config) (⟨0, 30, 0, (⟨false, 0, false, false, 0, false, false, false, 0⟩ : api_Caps)⟩ : api_Open))) (u2 := .int .i64 30) (v := .bool (decide (((nego_Hold (⟨70000, 1, 0, 90, 5000, 0, 0, 0⟩ : api_Config) (⟨0, 30, 0, (⟨false, 0, false, false, 0, false, false, false, 0⟩ : api_Caps)⟩ : api_Open)) : Int) = 30))) rfl rfl rfl (gt (p := .sc (.int .i64 (nego_Hold (⟨70000, 1, 0, 90, 5000, 0, 0, 0⟩ : api_Config) (⟨0, 30, 0, (⟨false, 0, false, false, 0, false, false, false, 0⟩ : api_Caps)⟩ : api_Open)))) (q := .sc undef) g11) rfl (fun _ => rfl)) ?_
  refine al_op rfl (g_andU (b := ((decide ((((nego_Ours (⟨70000, 1, 0, 90, 5000, 0, 0, 0⟩ : api_Config) true false).fCaps).fAS4 : Int) = 70000)) && (decide ((((nego_Ours (⟨70000, 1, 0, 90, 5000, 0, 0, 0⟩ : api_Config) true false).fCaps).fTime : Int) = 4095))) && (((nego_Ours (⟨70000, 1, 0, 90, 5000, 0, 0, 0⟩ : api_Config) true false).fCaps).fRestarting)) (y := decide (((nego_Hold (⟨70000, 1, 0, 90, 5000, 0, 0, 0⟩ : api_Config) (⟨0, 30, 0, (⟨false, 0, false, false, 0, false, false, false, 0⟩ : api_Caps)⟩ : api_Open)) : Int) = 30)) rfl rfl rfl rfl rfl) ?_
  refine al_op rfl (g_move (p := .sc (.bool ((((decide ((((nego_Ours (⟨70000, 1, 0, 90, 5000, 0, 0, 0⟩ : api_Config) true false).fCaps).fAS4 : Int) = 70000)) && (decide ((((nego_Ours (⟨70000, 1, 0, 90, 5000, 0, 0, 0⟩ : api_Config) true false).fCaps).fTime : Int) = 4095))) && (((nego_Ours (⟨70000, 1, 0, 90, 5000, 0, 0, 0⟩ : api_Config) true false).fCaps).fRestarting)) && (decide (((nego_Hold (⟨70000, 1, 0, 90, 5000, 0, 0, 0⟩ : api_Config) (⟨0, 30, 0, (⟨false, 0, false, false, 0, false, false, false, 0⟩ : api_Caps)⟩ : api_Open)) : Int) = 30))))) rfl rfl rfl rfl) ?_
  refine al_gW (C := (((decide ((((nego_Ours (⟨70000, 1, 0, 90, 5000, 0, 0, 0⟩ : api_Config) true false).fCaps).fAS4 : Int) = 70000)) && (decide ((((nego_Ours (⟨70000, 1, 0, 90, 5000, 0, 0, 0⟩ : api_Config) true false).fCaps).fTime : Int) = 4095))) && (((nego_Ours (⟨70000, 1, 0, 90, 5000, 0, 0, 0⟩ : api_Config) true false).fCaps).fRestarting)) && (decide (((nego_Hold (⟨70000, 1, 0, 90, 5000, 0, 0, 0⟩ : api_Config) (⟨0, 30, 0, (⟨false, 0, false, false, 0, false, false, false, 0⟩ : api_Caps)⟩ : api_Open)) : Int) = 30))) (p := .agg [.sc (.int .i64 70000), .sc (.int .u32 1), .sc (.int .u32 0), .sc (.int .i64 90), .sc (.int .i64 5000), .sc (.int .i64 0), .sc (.int .i64 0), .sc (.int .i64 0)]) (gd_T rfl rfl rfl rfl rfl) rfl rfl (fun g12 => g_load (s := 1) (off := 0) (ps := [.sc (.int .i64 70000), .sc (.int .u32 1), .sc (.int .u32 0), .sc (.int .i64 90), .sc (.int .i64 5000), .sc (.int .i64 0), .sc (.int .i64 0), .sc (.int .i64 0)]) (p := .agg [.sc (.int .i64 70000), .sc (.int .u32 1), .sc (.int .u32 0), .sc (.int .i64 90), .sc (.int .i64 5000), .sc (.int .i64 0), .sc (.int .i64 0), .sc (.int .i64 0)]) rfl rfl rfl ty24 rfl rfl rfl rfl rfl) ?_
  refine al_gW (C := (((decide ((((nego_Ours (⟨70000, 1, 0, 90, 5000, 0, 0, 0⟩ : api_Config) true false).fCaps).fAS4 : Int) = 70000)) && (decide ((((nego_Ours (⟨70000, 1, 0, 90, 5000, 0, 0, 0⟩ : api_Config) true false).fCaps).fTime : Int) = 4095))) && (((nego_Ours (⟨70000, 1, 0, 90, 5000, 0, 0, 0⟩ : api_Config) true false).fCaps).fRestarting)) && (decide (((nego_Hold (⟨70000, 1, 0, 90, 5000, 0, 0, 0⟩ : api_Config) (⟨0, 30, 0, (⟨false, 0, false, false, 0, false, false, false, 0⟩ : api_Caps)⟩ : api_Open)) : Int) = 30))) (p := .agg [.sc (.int .i64 0), .sc (.int .i64 0), .sc (.slice none 0 0), .sc (.slice none 0 0)]) (gd_T rfl rfl rfl rfl rfl) rfl rfl (fun g13 => g_build (parts := []) (pps := []) (qs := [.sc (.int .i64 0), .sc (.int .i64 0), .sc (.slice none 0 0), .sc (.slice none 0 0)]) rfl rfl rfl bld34 rfl rfl (by kernel_rfl)) ?_
  refine al_gW (C := (((decide ((((nego_Ours (⟨70000, 1, 0, 90, 5000, 0, 0, 0⟩ : api_Config) true false).fCaps).fAS4 : Int) = 70000)) && (decide ((((nego_Ours (⟨70000, 1, 0, 90, 5000, 0, 0, 0⟩ : api_Config) true false).fCaps).fTime : Int) = 4095))) && (((nego_Ours (⟨70000, 1, 0, 90, 5000, 0, 0, 0⟩ : api_Config) true false).fCaps).fRestarting)) && (decide (((nego_Hold (⟨70000, 1, 0, 90, 5000, 0, 0, 0⟩ : api_Config) (⟨0, 30, 0, (⟨false, 0, false, false, 0, false, false, false, 0⟩ : api_Caps)⟩ : api_Open)) : Int) = 30))) (p := .agg zc29) (gd_T rfl rfl rfl rfl rfl) rfl rfl (fun g14 => g_build (parts := []) (pps := []) (qs := zc29) rfl rfl rfl bld29 rfl rfl (by kernel_rfl)) ?_
  refine al_gW (C := (((decide ((((nego_Ours (⟨70000, 1, 0, 90, 5000, 0, 0, 0⟩ : api_Config) true false).fCaps).fAS4 : Int) = 70000)) && (decide ((((nego_Ours (⟨70000, 1, 0, 90, 5000, 0, 0, 0⟩ : api_Config) true false).fCaps).fTime : Int) = 4095))) && (((nego_Ours (⟨70000, 1, 0, 90, 5000, 0, 0, 0⟩ : api_Config) true false).fCaps).fRestarting)) && (decide (((nego_Hold (⟨70000, 1, 0, 90, 5000, 0, 0, 0⟩ : api_Config) (⟨0, 30, 0, (⟨false, 0, false, false, 0, false, false, false, 0⟩ : api_Caps)⟩ : api_Open)) : Int) = 30))) (p := .agg (api_Note.cells (nego_Check (⟨70000, 1, 0, 90, 5000, 0, 0, 0⟩ : api_Config) (⟨0, 0, [], []⟩ : api_PeerConf) (⟨0, 0, 0, (⟨false, 0, false, false, 0, false, false, false, 0⟩ : api_Caps)⟩ : api_Open)))) (gd_T rfl rfl rfl rfl rfl) rfl rfl (fun g15 => g_call (fn := Try.f18) (xs := [.tmp 28, .tmp 29, .tmp 30]) (args := [.agg [.sc (.int .i64 70000), .sc (.int .u32 1), .sc (.int .u32 0), .sc (.int .i64 90), .sc (.int .i64 5000), .sc (.int .i64 0), .sc (.int .i64 0), .sc (.int .i64 0)], .agg [.sc (.int .i64 0), .sc (.int .i64 0), .sc (.slice none 0 0), .sc (.slice none 0 0)], .agg zc29]) (r := .agg (api_Note.cells (nego_Check (⟨70000, 1, 0, 90, 5000, 0, 0, 0⟩ : api_Config) (⟨0, 0, [], []⟩ : api_PeerConf) (⟨0, 0, 0, (⟨false, 0, false, false, 0, false, false, false, 0⟩ : api_Caps)⟩ : api_Open)))) rfl rfl rfl Try.func18 rfl rfl (congrS3 (b0 := .agg [.sc (.int .i64 70000), .sc (.int .u32 1), .sc (.int .u32 0), .sc (.int .i64 90), .sc (.int .i64 5000), .sc (.int .i64 0), .sc (.int .i64 0), .sc (.int .i64 0)]) (b1 := .agg [.sc (.int .i64 0), .sc (.int .i64 0), .sc (.slice none 0 0), .sc (.slice none 0 0)]) (b2 := .agg zc29) (gt (p := .agg [.sc (.int .i64 70000), .sc (.int .u32 1), .sc (.int .u32 0), .sc (.int .i64 90), .sc (.int .i64 5000), .sc (.int .i64 0), .sc (.int .i64 0), .sc (.int .i64 0)]) (q := .sc undef) g15) (gt (p := .agg [.sc (.int .i64 0), .sc (.int .i64 0), .sc (.slice none 0 0), .sc (.slice none 0 0)]) (q := .sc undef) g15) (gt (p := .agg zc29) (q := .sc undef) g15)) rfl rfl (pf_weak (nego_Check_pf (⟨70000, 1, 0, 90, 5000, 0, 0, 0⟩ : api_Config) (⟨0, 0, [], []⟩ : api_PeerConf) (⟨0, 0, 0, (⟨false, 0, false, false, 0, false, false, false, 0⟩ : api_Caps)⟩ : api_Open)) (.cons (.one (.rfl _)) (.cons (.agg (.cons (.rfl _) (.cons (.rfl _) (.cons (.nil _) (.cons (.nil _) .nil))))) (.cons (.one (.rfl _)) .nil))))) ?_
  refine al_gW (C := (((decide ((((nego_Ours (⟨70000, 1, 0, 90, 5000, 0, 0, 0⟩ : api_Config) true false).fCaps).fAS4 : Int) = 70000)) && (decide ((((nego_Ours (⟨70000, 1, 0, 90, 5000, 0, 0, 0⟩ : api_Config) true false).fCaps).fTime : Int) = 4095))) && (((nego_Ours (⟨70000, 1, 0, 90, 5000, 0, 0, 0⟩ : api_Config) true false).fCaps).fRestarting)) && (decide (((nego_Hold (⟨70000, 1, 0, 90, 5000, 0, 0, 0⟩ : api_Config) (⟨0, 30, 0, (⟨false, 0, false, false, 0, false, false, false, 0⟩ : api_Caps)⟩ : api_Open)) : Int) = 30))) (p := .sc (.int .i64 ((nego_Check (⟨70000, 1, 0, 90, 5000, 0, 0, 0⟩ : api_Config) (⟨0, 0, [], []⟩ : api_PeerConf) (⟨0, 0, 0, (⟨false, 0, false, false, 0, false, false, false, 0⟩ : api_Caps)⟩ : api_Open)).fSub))) (gd_T rfl rfl rfl rfl rfl) rfl rfl (fun g16 => g_field (ps := (api_Note.cells (nego_Check (⟨70000, 1, 0, 90, 5000, 0, 0, 0⟩ : api_Config) (⟨0, 0, [], []⟩ : api_PeerConf) (⟨0, 0, 0, (⟨false, 0, false, false, 0, false, false, false, 0⟩ : api_Caps)⟩ : api_Open)))) (p := .sc (.int .i64 ((nego_Check (⟨70000, 1, 0, 90, 5000, 0, 0, 0⟩ : api_Config) (⟨0, 0, [], []⟩ : api_PeerConf) (⟨0, 0, 0, (⟨false, 0, false, false, 0, false, false, false, 0⟩ : api_Caps)⟩ : api_Open)).fSub))) rfl rfl rfl fld38_1 (gt (p := .agg (api_Note.cells (nego_Check (⟨70000, 1, 0, 90, 5000, 0, 0, 0⟩ : api_Config) (⟨0, 0, [], []⟩ : api_PeerConf) (⟨0, 0, 0, (⟨false, 0, false, false, 0, false, false, false, 0⟩ : api_Caps)⟩ : api_Open)))) (q := .sc undef) g16) rfl rfl rfl) ?_
  refine al_gW (C := (((decide ((((nego_Ours (⟨70000, 1, 0, 90, 5000, 0, 0, 0⟩ : api_Config) true false).fCaps).fAS4 : Int) = 70000)) && (decide ((((nego_Ours (⟨70000, 1, 0, 90, 5000, 0, 0, 0⟩ : api_Config) true false).fCaps).fTime : Int) = 4095))) && (((nego_Ours (⟨70000, 1, 0, 90, 5000, 0, 0, 0⟩ : api_Config) true false).fCaps).fRestarting)) && (decide (((nego_Hold (⟨70000, 1, 0, 90, 5000, 0, 0, 0⟩ : api_Config) (⟨0, 30, 0, (⟨false, 0, false, false, 0, false, false, false, 0⟩ : api_Caps)⟩ : api_Open)) : Int) = 30))) (p := .sc (.bool (decide (((nego_Check (⟨70000, 1, 0, 90, 5000, 0, 0, 0⟩ : api_Config) (⟨0, 0, [], []⟩ : api_PeerConf) (⟨0, 0, 0, (⟨false, 0, false, false, 0, false, false, false, 0⟩ : api_Caps)⟩ : api_Open)).fSub : Int) = 7)))) (gd_T rfl rfl rfl rfl rfl) rfl rfl (fun g17 => g_bin (u1 := .int .i64 ((nego_Check (⟨70000, 1, 0, 90, 5000, 0, 0, 0⟩ : api_Config) (⟨0, 0, [], []⟩ : api_PeerConf) (⟨0, 0, 0, (⟨false, 0, false, false, 0, false, false, false, 0⟩ : api_Caps)⟩ : api_Open)).fSub)) (u2 := .int .i64 7) (v := .bool (decide (((nego_Check (⟨70000, 1, 0, 90, 5000, 0, 0, 0⟩ : api_Config) (⟨0, 0, [], []⟩ : api_PeerConf) (⟨0, 0, 0, (⟨false, 0, false, false, 0, false, false, false, 0⟩ : api_Caps)⟩ : api_Open)).fSub : Int) = 7))) rfl rfl rfl (gt (p := .sc (.int .i64 ((nego_Check (⟨70000, 1, 0, 90, 5000, 0, 0, 0⟩ : api_Config) (⟨0, 0, [], []⟩ : api_PeerConf) (⟨0, 0, 0, (⟨false, 0, false, false, 0, false, false, false, 0⟩ : api_Caps)⟩ : api_Open)).fSub))) (q := .sc undef) g17) rfl (fun _ => rfl)) ?_
  refine al_op rfl (g_andU (b := (((decide ((((nego_Ours (⟨70000, 1, 0, 90, 5000, 0, 0, 0⟩ : api_Config) true false).fCaps).fAS4 : Int) = 70000)) && (decide ((((nego_Ours (⟨70000, 1, 0, 90, 5000, 0, 0, 0⟩ : api_Config) true false).fCaps).fTime : Int) = 4095))) && (((nego_Ours (⟨70000, 1, 0, 90, 5000, 0, 0, 0⟩ : api_Config) true false).fCaps).fRestarting)) && (decide (((nego_Hold (⟨70000, 1, 0, 90, 5000, 0, 0, 0⟩ : api_Config) (⟨0, 30, 0, (⟨false, 0, false, false, 0, false, false, false, 0⟩ : api_Caps)⟩ : api_Open)) : Int) = 30))) (y := decide (((nego_Check (⟨70000, 1, 0, 90, 5000, 0, 0, 0⟩ : api_Config) (⟨0, 0, [], []⟩ : api_PeerConf) (⟨0, 0, 0, (⟨false, 0, false, false, 0, false, false, false, 0⟩ : api_Caps)⟩ : api_Open)).fSub : Int) = 7)) rfl rfl rfl rfl rfl) ?_
  refine al_op rfl (g_assign (p := .sc (.bool (((((decide ((((nego_Ours (⟨70000, 1, 0, 90, 5000, 0, 0, 0⟩ : api_Config) true false).fCaps).fAS4 : Int) = 70000)) && (decide ((((nego_Ours (⟨70000, 1, 0, 90, 5000, 0, 0, 0⟩ : api_Config) true false).fCaps).fTime : Int) = 4095))) && (((nego_Ours (⟨70000, 1, 0, 90, 5000, 0, 0, 0⟩ : api_Config) true false).fCaps).fRestarting)) && (decide (((nego_Hold (⟨70000, 1, 0, 90, 5000, 0, 0, 0⟩ : api_Config) (⟨0, 30, 0, (⟨false, 0, false, false, 0, false, false, false, 0⟩ : api_Caps)⟩ : api_Open)) : Int) = 30))) && (decide (((nego_Check (⟨70000, 1, 0, 90, 5000, 0, 0, 0⟩ : api_Config) (⟨0, 0, [], []⟩ : api_PeerConf) (⟨0, 0, 0, (⟨false, 0, false, false, 0, false, false, false, 0⟩ : api_Caps)⟩ : api_Open)).fSub : Int) = 7))))) rfl rfl rfl rfl) ?_
  refine al_nil ?_
  refine aw_ret ?_
  exact endG_mk (F := (fun (z : Bool) => ⟨[], [], .sc (.bool z)⟩)) (z := law18_answers) (v := ((((decide ((((nego_Ours (⟨70000, 1, 0, 90, 5000, 0, 0, 0⟩ : api_Config) true false).fCaps).fAS4 : Int) = 70000)) && (decide ((((nego_Ours (⟨70000, 1, 0, 90, 5000, 0, 0, 0⟩ : api_Config) true false).fCaps).fTime : Int) = 4095))) && (((nego_Ours (⟨70000, 1, 0, 90, 5000, 0, 0, 0⟩ : api_Config) true false).fCaps).fRestarting)) && (decide (((nego_Hold (⟨70000, 1, 0, 90, 5000, 0, 0, 0⟩ : api_Config) (⟨0, 30, 0, (⟨false, 0, false, false, 0, false, false, false, 0⟩ : api_Caps)⟩ : api_Open)) : Int) = 30))) && (decide (((nego_Check (⟨70000, 1, 0, 90, 5000, 0, 0, 0⟩ : api_Config) (⟨0, 0, [], []⟩ : api_PeerConf) (⟨0, 0, 0, (⟨false, 0, false, false, 0, false, false, false, 0⟩ : api_Caps)⟩ : api_Open)).fSub : Int) = 7))) rfl rfl (.one (.tmp 0 (.sc (.bool (((((decide ((((nego_Ours (⟨70000, 1, 0, 90, 5000, 0, 0, 0⟩ : api_Config) true false).fCaps).fAS4 : Int) = 70000)) && (decide ((((nego_Ours (⟨70000, 1, 0, 90, 5000, 0, 0, 0⟩ : api_Config) true false).fCaps).fTime : Int) = 4095))) && (((nego_Ours (⟨70000, 1, 0, 90, 5000, 0, 0, 0⟩ : api_Config) true false).fCaps).fRestarting)) && (decide (((nego_Hold (⟨70000, 1, 0, 90, 5000, 0, 0, 0⟩ : api_Config) (⟨0, 30, 0, (⟨false, 0, false, false, 0, false, false, false, 0⟩ : api_Caps)⟩ : api_Open)) : Int) = 30))) && (decide (((nego_Check (⟨70000, 1, 0, 90, 5000, 0, 0, 0⟩ : api_Config) (⟨0, 0, [], []⟩ : api_PeerConf) (⟨0, 0, 0, (⟨false, 0, false, false, 0, false, false, false, 0⟩ : api_Caps)⟩ : api_Open)).fSub : Int) = 7))))) rfl) (.one (.rfl _)) rfl) trivial trivial
theorem law18_answers_pf  : PF Try.prog 14 [] (.sc (.bool law18_answers)) := pf_ofG (law18_answers_pf_g) rfl
theorem law18_true : law18_answers = true := by decide
end Go.Proofs.Ytnpipeihomebhaa
