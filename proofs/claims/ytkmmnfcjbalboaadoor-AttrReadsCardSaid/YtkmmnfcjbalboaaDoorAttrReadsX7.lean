import Derived.Test.YtkmmnfcjbalboaaDoorB6
set_option linter.unusedVariables false
set_option linter.unusedSimpArgs false
namespace Go.Rx
open Go.Ab Go.L7
set_option maxRecDepth 100000
set_option maxHeartbeats 20000000
set_option linter.unusedVariables false
/-- interregnum/interregnumref05.ReadPath -/
noncomputable def C54 : Cfg S := { P := P7, inl := [], K := [(29, ctr P7 [22] [4] (fun x0 => (none, S29 x0))), (55, ctr P7 [30] [3] (fun x0 => (some (P55 x0), S55 x0)))], ann := [(54, [(8, .loop [(.sl 7, .int .i64), (.ce 6 0, .bool), (.ce 6 1, .own 3)]), (3, .loop [(.sl 4, .own 49), (.sl 5, .int .i64)])])] }
abbrev W54 : CT S [22, 4] [30] := (fun x0 => (some (P54 x0), S54 x0))
abbrev Ok54 : Prop := ConOk P7 54 (ctr P7 [30] [22, 4] W54) ∧ ConMon (ctr P7 [30] [22, 4] W54)
theorem q54 (x0 : List Int) (v : HR S [22, 4]) : (Xf C54 6 (emp 0) 54 (argsA C54 [⟨30, x0⟩]) (emp 0) (fun r _ => isR C54.P [22, 4] v r) (fun _ _ => False)) =
 (LOOP (fun (h : List api_Segment × Int) (J : List api_Segment × Int → Prop) => bif decide (h.snd < (↑x0.length : Int)) then (decide ((↑x0.length : Int) <
 IntKind.i64.wrap (h.snd + (2 : Int))) = false → (0 : Int) ≤ h.snd ∧ h.snd < (↑x0.length : Int)) ∧ (decide ((↑x0.length : Int) < IntKind.i64.wrap (h.snd + (2 :
 Int))) = false → (!decide (ix x0 h.snd = (1 : Int))) = true → (0 : Int) ≤ h.snd ∧ h.snd < (↑x0.length : Int)) ∧ ((decide ((↑x0.length : Int) <
 IntKind.i64.wrap (h.snd + (2 : Int))) || !decide (ix x0 h.snd = (1 : Int)) && !decide (ix x0 h.snd = (2 : Int))) = false → (0 : Int) ≤ IntKind.i64.wrap (h.snd
 + (1 : Int)) ∧ IntKind.i64.wrap (h.snd + (1 : Int)) < (↑x0.length : Int)) ∧ bif decide ((↑x0.length : Int) < IntKind.i64.wrap (h.snd + (2 : Int))) || !decide
 (ix x0 h.snd = (1 : Int)) && !decide (ix x0 h.snd = (2 : Int)) || decide ((↑x0.length : Int) < IntKind.i64.wrap (IntKind.i64.wrap (h.snd + (2 : Int)) +
 IntKind.i64.wrap ((4 : Int) * IntKind.i64.wrap (ix x0 (IntKind.i64.wrap (h.snd + (1 : Int))))))) then ([], false) = v else ((0 : Int) ≤ h.snd ∧ h.snd <
 (↑x0.length : Int)) ∧ LOOP (fun (h_1 : Int × Bool × List Int) (J_1 : Int × Bool × List Int → Prop) => ((0 : Int) ≤ IntKind.i64.wrap (h.snd + (1 : Int)) ∧
 IntKind.i64.wrap (h.snd + (1 : Int)) < (↑x0.length : Int)) ∧ bif decide (h_1.fst < IntKind.i64.wrap (ix x0 (IntKind.i64.wrap (h.snd + (1 : Int))))) then ((0 :
 Int) ≤ IntKind.i64.wrap (IntKind.i64.wrap (h.snd + (2 : Int)) + IntKind.i64.wrap ((4 : Int) * h_1.fst)) ∧ IntKind.i64.wrap (IntKind.i64.wrap (h.snd + (2 :
 Int)) + IntKind.i64.wrap ((4 : Int) * h_1.fst)) ≤ (↑x0.length : Int) ∧ (↑x0.length : Int) ≤ (↑x0.length : Int)) ∧ (nat_lit 4 ≤ (sub x0 (IntKind.i64.wrap
 (IntKind.i64.wrap (h.snd + (2 : Int)) + IntKind.i64.wrap ((4 : Int) * h_1.fst))) (↑x0.length : Int)).length ∧ ∀ (c : Int), List.Mem c (List.take (nat_lit 4)
 (sub x0 (IntKind.i64.wrap (IntKind.i64.wrap (h.snd + (2 : Int)) + IntKind.i64.wrap ((4 : Int) * h_1.fst))) (↑x0.length : Int))) → (0 : Int) ≤ c ∧ c ≤ (255 :
 Int)) ∧ (h_1.snd.snd.length = h_1.snd.snd.length ∧ (h_1.snd.snd.length + [S55 (sub x0 (IntKind.i64.wrap (IntKind.i64.wrap (h.snd + (2 : Int)) +
 IntKind.i64.wrap ((4 : Int) * h_1.fst))) (↑x0.length : Int))].length) * nat_lit 8 ≤ nat_lit 140737488355328) ∧ ∀ (y : List (Int)), y = h_1.snd.snd ++ [S55
 (sub x0 (IntKind.i64.wrap (IntKind.i64.wrap (h.snd + (2 : Int)) + IntKind.i64.wrap ((4 : Int) * h_1.fst))) (↑x0.length : Int))] → y.length = y.length ∧ J_1
 (IntKind.i64.wrap (h_1.fst + (1 : Int)), h_1.snd.fst, y) else (h.fst.length = h.fst.length ∧ (h.fst.length + [api_Segment.mk h_1.snd.fst h_1.snd.snd].length)
 * nat_lit 32 ≤ nat_lit 140737488355328) ∧ ∀ (y : List (api_Segment)), y = h.fst ++ [api_Segment.mk h_1.snd.fst h_1.snd.snd] → ((0 : Int) ≤ IntKind.i64.wrap
 (h.snd + (1 : Int)) ∧ IntKind.i64.wrap (h.snd + (1 : Int)) < (↑x0.length : Int)) ∧ y.length = y.length ∧ J (y, IntKind.i64.wrap (IntKind.i64.wrap (h.snd + (2
 : Int)) + IntKind.i64.wrap ((4 : Int) * IntKind.i64.wrap (ix x0 (IntKind.i64.wrap (h.snd + (1 : Int)))))))) ((0 : Int), decide (ix x0 h.snd = (1 : Int)), [])
 else bif !S29 h.fst then ([], false) = v else (h.fst, true) = v) ([], (0 : Int))) := by kernel_rfl
end Go.Rx
namespace Go.L7
open Go.Rx Go.Ab
def P37 (c s : Int) (d : List Int) : Prop := d.length ≤ 140737488355328
def S37 (c s : Int) (d : List Int) : api_Note := ⟨c, s, d⟩
end Go.L7
namespace Go.Rx
open Go.Ab Go.L7
set_option maxRecDepth 100000
set_option maxHeartbeats 20000000
set_option linter.unusedVariables false
/-- interregnum/interregnumref05.note -/
noncomputable def C37 : Cfg S := { P := P7, inl := [], K := [], ann := [] }
abbrev W37 : CT S [34] [3, 3, 30] := (fun x0 x1 x2 => (some (P37 x0 x1 x2), S37 x0 x1 x2))
abbrev Ok37 : Prop := ConOk P7 37 (ctr P7 [3, 3, 30] [34] W37) ∧ ConMon (ctr P7 [3, 3, 30] [34] W37)
theorem q37 (x0 : Int) (x1 : Int) (x2 : List Int) (v : HR S [34]) : (Xf C37 6 (emp 0) 37 (argsA C37 [⟨3, x0⟩, ⟨3, x1⟩, ⟨30, x2⟩]) (emp 0) (fun r _ => isR C37.P
 [34] v r) (fun _ _ => False)) = ((nat_lit 0 = nat_lit 0 ∧ (nat_lit 0 + x2.length) * nat_lit 1 ≤ nat_lit 140737488355328) ∧ ∀ (y : List (Int)), y = [] ++ x2 →
 api_Note.mk x0 x1 y = v) := by kernel_rfl
end Go.Rx
/-! The document's reading of a path. -/
namespace Go.Rx
open Go.Ab Go.L7
set_option linter.unusedVariables false
set_option linter.unusedSimpArgs false
set_option maxRecDepth 100000
theorem run37 : RunC C37 6 37 [34] [3, 3, 30] W37 [] := by
  intro (c : Int) _ (s : Int) _ (d : List Int) hd hp
  have hp : d.length ≤ 140737488355328 := hp _ rfl
  refine of_eq (q37 c s d _) ⟨⟨by trivial, by show (0 + d.length) * 1 ≤ 140737488355328; omega⟩, fun (y : List Int) hy => ?_⟩
  have hy : y = d := hy
  rw [hy]; rfl
theorem ok37 : Ok37 := con_ok (C := C37) kok_nil mx7 (by kernel_rfl) run37
theorem S55_eq {b : List Int} (hl : 4 ≤ b.length) (hb : By (b.take 4)) : S55 b = S66 b ∧ 0 ≤ S66 b ∧ S66 b ≤ 4294967295 := by
  match b, hl with
  | a :: b :: c :: d :: r, _ =>
    have h := fun x hx => hb x hx
    have ha := h a (by simp)
    have hb := h b (by simp)
    have hc := h c (by simp)
    have hd := h d (by simp)
    rw [S66_four r ha hb hc hd]
    refine ⟨rfl, by omega, by omega⟩
theorem ix_drop {α : Type} [Inhabited α] (x : List α) {i : Int} (hi : 0 ≤ i) (k : Nat) : ix (x.drop i.toNat) (k : Int) = ix x (i + k) := by
  unfold ix
  rw [List.getD_eq_getElem?_getD, List.getD_eq_getElem?_getD, List.getElem?_drop, Int.toNat_natCast, show (i + (k : Int)).toNat = i.toNat + k by omega]
theorem run54 : RunC C54 6 54 [22, 4] [30] W54 [] := by
  intro (x : List Int) hx hp
  obtain ⟨hl, hB⟩ : P65 x := hp _ rfl
  refine of_eq (q54 x (S65 x)) ?_
  generalize hv : S65 x = v
  unfold S65 at hv
  refine LOOP.of (fun h => 0 ≤ h.2 ∧ h.2 ≤ (x.length : Int) ∧ (h.1.length : Int) ≤ h.2 ∧ ∃ f, (x.drop h.2.toNat).length ≤ f ∧ pathOut h.1 (decP f (x.drop h.2.toNat)) = v) (fun h => (x.length - h.2).toNat) ⟨Int.le_refl _, by show (0 : Int) ≤ _; omega, by show ((([] : List api_Segment).length : Nat) : Int) ≤ 0; simp, x.length, by simp, hv⟩ ?_
  rintro ⟨out, i⟩ ⟨i1, i2, i3, f, i4, i5⟩ J hJ
  simp only at i1 i2 i3 i4 i5
  refine bif_of (fun h => ?_) (fun h => ?_)
  · have hlt : i < (x.length : Int) := of_decide_eq_true h
    obtain ⟨f, rfl⟩ : ∃ g, f = g + 1 := ⟨f - 1, by rw [List.length_drop] at i4; omega⟩
    have hbl : (x.drop i.toNat).length = x.length - i.toNat := List.length_drop ..
    have hne : x.drop i.toNat ≠ [] := fun e => by rw [e] at hbl; simp at hbl; omega
    have w2 : IntKind.i64.wrap (i + 2) = i + 2 := w64_id (by omega)
    have w1 : IntKind.i64.wrap (i + 1) = i + 1 := w64_id (by omega)
    have e0 : ix (x.drop i.toNat) 0 = ix x i := by have := ix_drop x i1 0; simpa using this
    have e1 : ix (x.drop i.toNat) 1 = ix x (i + 1) := by have := ix_drop x i1 1; simpa using this
    simp only [w2, w1]
    conv at i5 => lhs; unfold decP
    rw [if_neg hne, e0, e1] at i5
    refine ⟨fun h => ⟨i1, hlt⟩, fun h _ => ⟨i1, hlt⟩, fun h => ?_, bif_of (fun h => ?_) (fun h => ?_)⟩
    · simp only [Bool.or_eq_false_iff, decide_eq_false_iff_not] at h
      exact ⟨by omega, by omega⟩
    · -- none
      have : pathOut out none = v := by
        simp only [Bool.or_eq_true, decide_eq_true_eq, Bool.and_eq_true, Bool.not_eq_true', decide_eq_false_iff_not] at h
        split at i5
        · exact i5
        · rename_i hc
          rw [if_pos] at i5
          · exact i5
          · have hin : 0 ≤ ix x (i + 1) ∧ ix x (i + 1) ≤ 255 := hB _ (ix_mem (by omega) (by omega))
            rcases h with h | h
            · omega
            · rw [show IntKind.i64.wrap (ix x (i + 1)) = ix x (i + 1) from w64_id (by omega), show IntKind.i64.wrap (4 * ix x (i + 1)) = 4 * ix x (i + 1) from w64_id (by omega), show IntKind.i64.wrap (i + 2 + 4 * ix x (i + 1)) = i + 2 + 4 * ix x (i + 1) from w64_id (by omega)] at h
              omega
      exact this
    · simp only [Bool.or_eq_false_iff, decide_eq_false_iff_not, Bool.and_eq_false_iff, Bool.not_eq_false', decide_eq_true_eq] at h
      obtain ⟨⟨h2, hk⟩, h3⟩ := h
      have hin : 0 ≤ ix x (i + 1) ∧ ix x (i + 1) ≤ 255 := hB _ (ix_mem (by omega) (by omega))
      have wn : IntKind.i64.wrap (ix x (i + 1)) = ix x (i + 1) := w64_id (by omega)
      simp only [wn, show IntKind.i64.wrap (4 * ix x (i + 1)) = 4 * ix x (i + 1) from w64_id (by omega), show IntKind.i64.wrap (i + 2 + 4 * ix x (i + 1)) = i + 2 + 4 * ix x (i + 1) from w64_id (by omega)] at h3 ⊢
      rw [if_neg (by omega), if_neg (by omega)] at i5
      refine ⟨⟨i1, hlt⟩, ?_⟩
      generalize hn : ix x (i + 1) = n at *
      have hdd : (x.drop i.toNat).drop 2 = x.drop (i.toNat + 2) := by rw [List.drop_drop]
      rw [hdd] at i5
      refine LOOP.of (fun z => 0 ≤ z.1 ∧ z.1 ≤ n ∧ z.2.1 = decide (ix x i = 1) ∧ z.2.2.length = z.1.toNat ∧ z.2.2 ++ asN (n - z.1).toNat (x.drop (i.toNat + 2 + 4 * z.1.toNat)) = asN n.toNat (x.drop (i.toNat + 2))) (fun z => (n - z.1).toNat) ⟨Int.le_refl _, hin.1, rfl, rfl, by show [] ++ asN (n - 0).toNat _ = _; simp⟩ ?_
      rintro ⟨k, s, a⟩ ⟨k1, k2, k3, k4, k5⟩ J1 hJ1
      simp only at k1 k2 k3 k4 k5
      refine ⟨⟨by omega, by omega⟩, bif_of (fun hk' => ?_) (fun hk' => ?_)⟩
      · have hkn : k < n := of_decide_eq_true hk'
        have wk : IntKind.i64.wrap (4 * k) = 4 * k := w64_id (by omega)
        have wk2 : IntKind.i64.wrap (i + 2 + 4 * k) = i + 2 + 4 * k := w64_id (by omega)
        simp only [wk, wk2]
        have es : sub x (i + 2 + 4 * k) (x.length : Int) = x.drop (i.toNat + 2 + 4 * k.toNat) := sub_drop x (by omega)
        rw [es]
        have hdl : (x.drop (i.toNat + 2 + 4 * k.toNat)).length = x.length - (i.toNat + 2 + 4 * k.toNat) := List.length_drop ..
        have hQ : P55 (x.drop (i.toNat + 2 + 4 * k.toNat)) := ⟨by omega, By.take (By.drop hB _) 4⟩
        obtain ⟨s1, s2, s3⟩ := S55_eq hQ.1 hQ.2
        refine ⟨⟨by omega, by omega, Int.le_refl _⟩, hQ, ⟨by trivial, by show (a.length + 1) * 8 ≤ 140737488355328; omega⟩, fun (y : List Int) hy => ⟨by trivial, hJ1 _ ⟨?_, ?_, k3, ?_, ?_⟩ ?_⟩⟩
        · show 0 ≤ IntKind.i64.wrap (k + 1); rw [show IntKind.i64.wrap (k + 1) = k + 1 from w64_id (by omega)]; omega
        · show IntKind.i64.wrap (k + 1) ≤ n; rw [show IntKind.i64.wrap (k + 1) = k + 1 from w64_id (by omega)]; omega
        · show y.length = (IntKind.i64.wrap (k + 1)).toNat
          rw [show IntKind.i64.wrap (k + 1) = k + 1 from w64_id (by omega), hy, List.length_append, k4, List.length_singleton]; omega
        · show y ++ asN (n - IntKind.i64.wrap (k + 1)).toNat (x.drop (i.toNat + 2 + 4 * (IntKind.i64.wrap (k + 1)).toNat)) = _
          rw [show IntKind.i64.wrap (k + 1) = k + 1 from w64_id (by omega), ← k5, hy, List.append_assoc]
          congr 1
          rw [show (n - k).toNat = (n - (k + 1)).toNat + 1 by omega, asN, s1, show w64 (S66 (x.drop (i.toNat + 2 + 4 * k.toNat))) = S66 (x.drop (i.toNat + 2 + 4 * k.toNat)) from w64_id (by omega), List.drop_drop, show i.toNat + 2 + 4 * k.toNat + 4 = i.toNat + 2 + 4 * (k + 1).toNat by omega]
          rfl
        · show (n - IntKind.i64.wrap (k + 1)).toNat < (n - k).toNat
          rw [show IntKind.i64.wrap (k + 1) = k + 1 from w64_id (by omega)]; omega
      · have hkn : k = n := by have := of_decide_eq_false hk'; omega
        subst hkn
        have ka : a = asN k.toNat (x.drop (i.toNat + 2)) := by rw [← k5]; simp [asN]
        refine ⟨⟨by trivial, by show (out.length + 1) * 32 ≤ 140737488355328; omega⟩, fun (y : List api_Segment) hy => ⟨⟨by omega, by omega⟩, by trivial, hJ _ ⟨?_, ?_, ?_, f, ?_, ?_⟩ ?_⟩⟩
        · show 0 ≤ i + 2 + 4 * k; omega
        · show i + 2 + 4 * k ≤ _; omega
        · show (y.length : Int) ≤ i + 2 + 4 * k
          rw [hy, List.length_append, List.length_singleton]; omega
        · show (x.drop (i + 2 + 4 * k).toNat).length ≤ f
          rw [List.length_drop]; omega
        · show pathOut y (decP f (x.drop (i + 2 + 4 * k).toNat)) = v
          rw [List.drop_drop, show i.toNat + (2 + 4 * k.toNat) = (i + 2 + 4 * k).toNat by omega] at i5
          rw [← i5, hy, k3, ka]
          cases decP f (x.drop (i + 2 + 4 * k).toNat) with
          | none => rfl
          | some r =>
            simp only [pathOut, List.append_assoc, List.singleton_append]
        · show (x.length - (i + 2 + 4 * k)).toNat < (x.length - i).toNat
          omega
  · have hlt : ¬ i < (x.length : Int) := of_decide_eq_false h
    have hd : x.drop i.toNat = [] := List.drop_eq_nil_of_le (by omega)
    rw [hd] at i5
    have : decP f [] = some [] := by cases f <;> rfl
    rw [this] at i5
    change (if S26 (out ++ []) then (out ++ [], true) else ([], false)) = v at i5
    rw [List.append_nil] at i5
    refine bif_of (fun h => ?_) (fun h => ?_)
    · have h : S26 out = false := by have h' : S29 out = false := (by simpa using h); exact h'
      rw [h] at i5; exact i5
    · have h : S26 out = true := by have h' : S29 out = true := (by simpa using h); exact h'
      rw [h] at i5; exact i5
theorem ok54 : Ok54 := con_ok (C := C54) (kok_cons ok29 (kk1 ok55)) mx7 (by kernel_rfl) run54
end Go.Rx
namespace Go.Rx
open Go.Ab Go.L7
set_option maxRecDepth 100000
set_option maxHeartbeats 20000000
set_option linter.unusedVariables false
/-- interregnum/interregnumlaw07.AttrMissing -/
noncomputable def C7 : Cfg S := { P := P7, inl := [], K := [(15, ctr P7 [30, 30] [4] (fun x0 x1 => (none, S15 x0 x1))), (10, ctr P7 [27] [4] (fun x0 => (none, S10 x0))), (17, ctr P7 [30] [27, 34] (fun x0 => (some (P17 x0), S17 x0))), (11, ctr P7 [] [4] (none, S11)), (14, ctr P7 [27] [4] (fun x0 => (none, S14 x0))), (16, ctr P7 [27] [30] (fun x0 => (some (P16 x0), S16 x0)))], ann := [(7, [(11, .join [(.sl 9, .int .i64)]), (16, .join [(.sl 6, .own 5), (.sl 7, .int .i64)]), (7, .loop [(.sl 6, .own 5), (.sl 7, .int .i64), (.sl 8, .int .i64)])])] }
abbrev W7 : CT S [4] [27, 5] := (fun x0 x1 => (some (PM x0 x1), S7 x0 x1))
abbrev Ok7 : Prop := ConOk P7 7 (ctr P7 [27, 5] [4] W7) ∧ ConMon (ctr P7 [27, 5] [4] W7)
theorem q7 (x0 : api_Attrs) (x1 : Int) (v : HR S [4]) : (Xf C7 6 (emp 0) 7 (argsA C7 [⟨27, x0⟩, ⟨5, x1⟩]) (emp 0) (fun r _ => isR C7.P [4] v r) (fun _ _ =>
 False)) = (bif !S10 x0 then true = v else bif !S14 x0 then true = v else (x0.fPath.length ≤ nat_lit 1099511627776 ∧ x0.fRaws.length ≤ nat_lit 1073741824) ∧
 LOOP (fun (h : List Int × Int × Int) (J : List Int × Int × Int → Prop) => bif decide (h.snd.snd < (↑(S16 x0).length : Int)) then ((0 : Int) ≤ IntKind.i64.wrap
 (h.snd.snd + (2 : Int)) ∧ IntKind.i64.wrap (h.snd.snd + (2 : Int)) < (↑(S16 x0).length : Int)) ∧ JP (fun (h_1 : Int) => ((0 : Int) ≤ IntKind.i64.wrap
 (h.snd.snd + (1 : Int)) ∧ IntKind.i64.wrap (h.snd.snd + (1 : Int)) < (↑(S16 x0).length : Int)) ∧ h.fst.length = h.fst.length ∧ JP (fun (h_2 : List Int × Int)
 => h_2.fst.length = h_2.fst.length ∧ J (h_2.fst, h_2.snd, IntKind.i64.wrap (h.snd.snd + h_1))) fun (J : List Int × Int → Prop) => (decide (IntKind.i64.wrap
 (ix (S16 x0) (IntKind.i64.wrap (h.snd.snd + (1 : Int)))) ≤ (3 : Int)) = true → (0 : Int) ≤ IntKind.u64.wrap (IntKind.i64.wrap (ix (S16 x0) (IntKind.i64.wrap
 (h.snd.snd + (1 : Int)))))) ∧ bif decide (IntKind.i64.wrap (ix (S16 x0) (IntKind.i64.wrap (h.snd.snd + (1 : Int)))) ≤ (3 : Int)) && decide ((x1.fdiv ((2 :
 Int) ^ min (IntKind.u64.wrap (IntKind.i64.wrap (ix (S16 x0) (IntKind.i64.wrap (h.snd.snd + (1 : Int)))))).toNat (nat_lit 8))).tmod (2 : Int) = (1 : Int)) then
 bif decide (h.snd.fst = (0 : Int)) then h.fst.length = h.fst.length ∧ J (h.fst, IntKind.i64.wrap (ix (S16 x0) (IntKind.i64.wrap (h.snd.snd + (1 : Int)))))
 else h.fst.length = h.fst.length ∧ J (h.fst, h.snd.fst) else ((0 : Int) ≤ h.snd.snd ∧ h.snd.snd ≤ IntKind.i64.wrap (h.snd.snd + h_1) ∧ IntKind.i64.wrap
 (h.snd.snd + h_1) ≤ (↑(S16 x0).length : Int)) ∧ (h.fst.length = h.fst.length ∧ (h.fst.length + (sub (S16 x0) h.snd.snd (IntKind.i64.wrap (h.snd.snd +
 h_1))).length) * nat_lit 1 ≤ nat_lit 140737488355328) ∧ ∀ (y : List (Int)), y = h.fst ++ sub (S16 x0) h.snd.snd (IntKind.i64.wrap (h.snd.snd + h_1)) →
 y.length = y.length ∧ J (y, h.snd.fst)) fun (J : Int → Prop) => ((0 : Int) ≤ h.snd.snd ∧ h.snd.snd < (↑(S16 x0).length : Int)) ∧ bif decide ((IntKind.u8.wrap
 ((ix (S16 x0) h.snd.snd).tdiv (16 : Int))).tmod (2 : Int) = (1 : Int)) then ((0 : Int) ≤ IntKind.i64.wrap (h.snd.snd + (2 : Int)) ∧ IntKind.i64.wrap
 (h.snd.snd + (2 : Int)) < (↑(S16 x0).length : Int)) ∧ ((0 : Int) ≤ IntKind.i64.wrap (h.snd.snd + (3 : Int)) ∧ IntKind.i64.wrap (h.snd.snd + (3 : Int)) <
 (↑(S16 x0).length : Int)) ∧ J (IntKind.i64.wrap (IntKind.i64.wrap ((4 : Int) + IntKind.i64.wrap ((256 : Int) * IntKind.i64.wrap (ix (S16 x0) (IntKind.i64.wrap
 (h.snd.snd + (2 : Int)))))) + IntKind.i64.wrap (ix (S16 x0) (IntKind.i64.wrap (h.snd.snd + (3 : Int)))))) else J (IntKind.i64.wrap ((3 : Int) +
 IntKind.i64.wrap (ix (S16 x0) (IntKind.i64.wrap (h.snd.snd + (2 : Int)))))) else (h.fst.length ≤ nat_lit 549755813888 ∧ ∀ (c : Int), List.Mem c h.fst → (0 :
 Int) ≤ c ∧ c ≤ (255 : Int)) ∧ bif decide (h.snd.fst = (0 : Int)) then decide ((S17 h.fst).snd.fCode = (0 : Int)) = v else bif decide ((S17 h.fst).snd.fCode =
 (3 : Int)) && decide ((S17 h.fst).snd.fSub = (3 : Int)) then S15 (S17 h.fst).snd.fData [IntKind.u8.wrap h.snd.fst] = v else false = v) ([], (0 : Int), (0 :
 Int))) := by kernel_rfl
end Go.Rx
/-! AttrMissing: attributes cut out of bytes. -/
namespace Go.Rx
open Go.Ab Go.L7
set_option linter.unusedVariables false
set_option linter.unusedSimpArgs false
set_option maxRecDepth 100000
theorem flagLong : ∀ f : Fin 256, decide ((IntKind.u8.wrap (((f.val : Nat) : Int).tdiv 16)).tmod 2 = 1) = !decide (iand .u8 ((f.val : Nat) : Int) 16 = 0) := by decide +kernel
theorem flag_long {f : Int} (h : 0 ≤ f ∧ f ≤ 255) : decide ((IntKind.u8.wrap (f.tdiv 16)).tmod 2 = 1) = !decide (iand .u8 f 16 = 0) := by
  have := flagLong ⟨f.toNat, by omega⟩
  simp only [show ((f.toNat : Nat) : Int) = f by omega] at this
  exact this
/-- An item of a list of bytes. -/
structure AtI (b : List Int) (n : Nat) (i : It) : Prop where
  ok : i.ok
  le : n + (itB i).length ≤ b.length
  sm : b.length ≤ 400000000
  eq : (b.drop n).take (itB i).length = itB i
theorem AtI.ix {b : List Int} {n : Nat} {i : It} (h : AtI b n i) {k : Nat} (hk : k < (itB i).length) : Go.Ab.ix b ((n : Int) + k) = Go.Ab.ix (itB i) k := by
  unfold Go.Ab.ix
  rw [List.getD_eq_getElem?_getD, List.getD_eq_getElem?_getD, show ((n : Int) + k).toNat = n + k by omega, Int.toNat_natCast, ← h.eq, List.getElem?_take_of_lt hk, List.getElem?_drop]
theorem AtI.sub {b : List Int} {n : Nat} {i : It} (h : AtI b n i) : Go.Ab.sub b n ((n : Int) + (itB i).length) = itB i := by
  unfold Go.Ab.sub
  rw [show ((n : Int) + (itB i).length).toNat = n + (itB i).length by omega, Int.toNat_natCast, List.drop_take, show n + (itB i).length - n = (itB i).length by omega, h.eq]
theorem AtI.f {b : List Int} {n : Nat} {i : It} (h : AtI b n i) : Go.Ab.ix b n = i.f := by
  have := h.ix (k := 0) (by have := (itB_len i).1; omega)
  rw [show (n : Int) + (0 : Nat) = n by omega] at this
  rw [this]; unfold itB; split <;> rfl
theorem AtI.t {b : List Int} {n : Nat} {i : It} (h : AtI b n i) : Go.Ab.ix b ((n : Int) + 1) = i.t := by
  have := h.ix (k := 1) (by have := (itB_len i).1; omega)
  rw [show ((1 : Nat) : Int) = 1 from rfl] at this
  rw [this]; unfold itB; split <;> rfl
theorem w64_nat {n : Int} (h : 0 ≤ n ∧ n ≤ 500000000) : IntKind.i64.wrap n = n := w64_id (by omega)
/-- How many bytes an attribute has. -/
theorem cut_jp {b : List Int} {n : Nat} {i : It} (h : AtI b n i) {at_ : Int} (ha : at_ = n) {R : Int → Prop} (hR : R (itB i).length) :
    JP R fun (J : Int → Prop) => ((0 : Int) ≤ at_ ∧ at_ < (b.length : Int)) ∧ bif decide ((IntKind.u8.wrap ((Go.Ab.ix b at_).tdiv 16)).tmod 2 = 1) then
        ((0 : Int) ≤ IntKind.i64.wrap (at_ + 2) ∧ IntKind.i64.wrap (at_ + 2) < (b.length : Int)) ∧ ((0 : Int) ≤ IntKind.i64.wrap (at_ + 3) ∧ IntKind.i64.wrap (at_ + 3) < (b.length : Int)) ∧
          J (IntKind.i64.wrap (IntKind.i64.wrap (4 + IntKind.i64.wrap (256 * IntKind.i64.wrap (Go.Ab.ix b (IntKind.i64.wrap (at_ + 2))))) + IntKind.i64.wrap (Go.Ab.ix b (IntKind.i64.wrap (at_ + 3)))))
      else J (IntKind.i64.wrap (3 + IntKind.i64.wrap (Go.Ab.ix b (IntKind.i64.wrap (at_ + 2))))) := by
  subst ha
  have hle := h.le
  have hsm := h.sm
  have hl3 := (itB_len i).1
  have hd := h.ok.hl
  refine JP.of (fun m => m = (itB i).length) (fun J hJ => ⟨⟨by omega, by omega⟩, ?_⟩) fun m hm => by rw [hm]; exact hR
  rw [h.f, flag_long h.ok.hf, w64_nat (n := (n : Int) + 2) (by omega)]
  by_cases hz : iand .u8 i.f 16 = 0
  · rw [hz]
    refine bif_of (fun e => absurd e (by simp)) fun _ => hJ _ ?_
    have e2 : Go.Ab.ix b ((n : Int) + 2) = i.d.length := by
      have := h.ix (k := 2) (by omega)
      rw [show ((2 : Nat) : Int) = 2 from rfl] at this
      rw [this]; unfold itB; rw [if_pos hz]; rfl
    have hl : (itB i).length = 3 + i.d.length := by unfold itB; rw [if_pos hz]; simp; omega
    rw [e2, w64_nat (n := (i.d.length : Int)) (by omega), w64_nat (n := 3 + (i.d.length : Int)) (by omega), hl]; omega
  · rw [decide_eq_false hz]
    have hl : (itB i).length = 4 + i.d.length := by unfold itB; rw [if_neg hz]; simp; omega
    refine bif_of (fun _ => ?_) fun e => absurd e (by simp)
    have e2 : Go.Ab.ix b ((n : Int) + 2) = (i.d.length : Int) / 256 := by
      have := h.ix (k := 2) (by omega)
      rw [show ((2 : Nat) : Int) = 2 from rfl] at this
      rw [this]; unfold itB; rw [if_neg hz]; rfl
    have e3 : Go.Ab.ix b ((n : Int) + 3) = (i.d.length : Int) % 256 := by
      have := h.ix (k := 3) (by omega)
      rw [show ((3 : Nat) : Int) = 3 from rfl] at this
      rw [this]; unfold itB; rw [if_neg hz]; rfl
    rw [w64_nat (n := (n : Int) + 3) (by omega)]
    refine ⟨⟨by omega, by omega⟩, ⟨by omega, by omega⟩, hJ _ ?_⟩
    rw [e2, e3, w64_nat (n := (i.d.length : Int) / 256) (by omega), w64_nat (n := 256 * ((i.d.length : Int) / 256)) (by omega), w64_nat (n := 4 + 256 * ((i.d.length : Int) / 256)) (by omega), w64_nat (n := (i.d.length : Int) % 256) (by omega), w64_nat (by omega), hl]
    omega
theorem at_of {L done todo : List It} {i : It} (hL : L = done ++ i :: todo) (hok : ∀ j ∈ L, j.ok) (hs : (L.flatMap itB).length ≤ 400000000) : AtI (L.flatMap itB) (done.flatMap itB).length i := by
  have e : L.flatMap itB = done.flatMap itB ++ (itB i ++ todo.flatMap itB) := by rw [hL, List.flatMap_append, List.flatMap_cons]
  refine ⟨hok i (by rw [hL]; simp), ?_, hs, ?_⟩
  · rw [e]; simp only [List.length_append]; omega
  · rw [e, List.drop_left, List.take_left]
/-! ### What lacks -/
def dropT (k t : Int) : Bool := decide (t ≤ 3) && decide ((k.fdiv (2 ^ min t.toNat 8)).tmod 2 = 1)
def keepL (k : Int) (l : List It) : List It := l.filter fun i => !dropT k i.t
def leastL (k : Int) (l : List It) : Int := match l.filter fun i => dropT k i.t with
  | [] => 0
  | i :: _ => i.t
theorem leastL_snoc {k : Int} {l : List It} {i : It} (h : ∀ j ∈ l, 1 ≤ j.t) : leastL k (l ++ [i]) = if dropT k i.t then (if leastL k l = 0 then i.t else leastL k l) else leastL k l := by
  unfold leastL
  rw [List.filter_append]
  have hp : ∀ j ∈ l.filter (fun i => dropT k i.t), 1 ≤ j.t := fun j hj => h j (List.mem_filter.1 hj).1
  generalize l.filter (fun i => dropT k i.t) = m at hp
  cases m with
  | nil =>
    rw [List.nil_append]
    cases hd : dropT k i.t with
    | true => rw [List.filter_cons_of_pos (by exact hd)]; rfl
    | false => rw [List.filter_cons_of_neg (by simp [hd])]; rfl
  | cons x m =>
    have := hp x (by simp)
    rw [List.cons_append]
    show x.t = if dropT k i.t = true then if x.t = 0 then i.t else x.t else x.t
    rw [if_neg (show ¬ x.t = 0 by omega)]
    split <;> rfl
theorem its_1 {a : api_Attrs} (h : Gd7 a) : ∀ i ∈ its a, 1 ≤ i.t := by
  intro i hi
  have hp := its_pair h
  unfold its at hi hp
  rw [List.cons_append, List.cons_append] at hi hp
  rcases List.mem_cons.1 hi with rfl | hi
  · exact (by decide : (1 : Int) ≤ 1)
  · have := (List.pairwise_cons.1 hp).1 i hi
    have e : (pit 64 1 [a.fOrigin]).t = 1 := rfl
    omega
theorem keep_any {a : api_Attrs} {k : Int} {t : Int} (h1 : (its a).any (fun i => decide (i.t = t)) = true) : (keepL k (its a)).any (fun i => decide (i.t = t)) = !dropT k t := by
  rw [Bool.eq_iff_iff]
  unfold keepL
  constructor
  · intro h
    obtain ⟨i, hi, he⟩ := List.any_eq_true.1 h
    have he := of_decide_eq_true he
    have := (List.mem_filter.1 hi).2
    rwa [he] at this
  · intro h
    obtain ⟨i, hi, he⟩ := List.any_eq_true.1 h1
    have he' := of_decide_eq_true he
    exact List.any_eq_true.2 ⟨i, List.mem_filter.2 ⟨hi, by rw [he']; exact h⟩, he⟩
theorem leastL_its {a : api_Attrs} (h : Gd7 a) (k : Int) : leastL k (its a) = if dropT k 1 then 1 else if dropT k 2 then 2 else if dropT k 3 then 3 else 0 := by
  have hp := its_pair h
  have e : ∃ r, its a = pit 64 1 [a.fOrigin] :: pit 64 2 (S23 a.fPath) :: pit 64 3 (put4 a.fNext) :: r := ⟨_, by unfold its; rfl⟩
  obtain ⟨r, hr⟩ := e
  rw [hr] at hp ⊢
  have h3 : ∀ i ∈ r, 3 < i.t := fun i hi => (List.pairwise_cons.1 (List.pairwise_cons.1 (List.pairwise_cons.1 hp).2).2).1 i hi
  have hr0 : r.filter (fun i => dropT k i.t) = [] := List.filter_eq_nil_iff.2 fun i hi => by
    have := h3 i hi
    unfold dropT
    rw [decide_eq_false (by omega)]; simp
  unfold leastL
  cases d1 : dropT k 1 with
  | true => rw [List.filter_cons_of_pos (by exact d1)]; rfl
  | false =>
    rw [List.filter_cons_of_neg (by simp [pit, d1])]
    cases d2 : dropT k 2 with
    | true => rw [List.filter_cons_of_pos (by exact d2)]; rfl
    | false =>
      rw [List.filter_cons_of_neg (by simp [pit, d2])]
      cases d3 : dropT k 3 with
      | true => rw [List.filter_cons_of_pos (by exact d3)]; rfl
      | false => rw [List.filter_cons_of_neg (by simp [pit, d3]), hr0]; rfl
theorem sub_flat {α : Type} {f : α → List Int} {l m : List α} (h : l.Sublist m) : (l.flatMap f).length ≤ (m.flatMap f).length := by
  induction h with
  | slnil => simp
  | cons x _ ih => rw [List.flatMap_cons, List.length_append]; omega
  | cons_cons x _ ih => rw [List.flatMap_cons, List.flatMap_cons, List.length_append, List.length_append]; omega
/-- What is left is read: the least that lacks is told. -/
theorem read_keep {a : api_Attrs} (h : Gd7 a) (k : Int) : if leastL k (its a) = 0 then S17 ((keepL k (its a)).flatMap itB) = (a, ⟨0, 0, []⟩) else S17 ((keepL k (its a)).flatMap itB) = throwN 3 [leastL k (its a)] ∧ 1 ≤ leastL k (its a) ∧ leastL k (its a) ≤ 3 := by
  rw [leastL_its h]
  have hz : ∀ t : Int, ix (List.replicate 256 false) t = false := fun t => by unfold ix; rw [List.getD_eq_getElem?_getD, List.getElem?_replicate]; split <;> rfl
  have hg : ∀ i ∈ keepL k (its a), Acc i := fun i hi => its_acc h i (List.mem_filter.1 hi).1
  have hok : ∀ i ∈ keepL k (its a), i.ok := fun i hi => (hg i hi).ok
  have hn : ((keepL k (its a)).map It.t).Nodup := (its_nodup h).sublist (List.filter_sublist.map _)
  have hf := foldI_acc (keepL k (its a)) [] a0 (List.replicate 256 false) (by simp) hg hn fun i _ => hz _
  rw [List.append_nil] at hf
  have hs : ∀ u : Int, 0 ≤ u ∧ u ≤ 255 → ix (seenL (keepL k (its a)) (List.replicate 256 false)) u = (keepL k (its a)).any fun i => decide (i.t = u) := fun u hu => by
    rw [seenL_ix _ _ u (by simp) hok hu, hz]; simp
  have hall : S17 ((keepL k (its a)).flatMap itB) = finA (updL (keepL k (its a)) a0) (seenL (keepL k (its a)) (List.replicate 256 false)) := by rw [S17_items hok, hf]; rfl
  have t1 := keep_any (k := k) its_has.1 (a := a)
  have t2 := keep_any (k := k) its_has.2.1 (a := a)
  have t3 := keep_any (k := k) its_has.2.2 (a := a)
  have f1 := hs 1 (by omega)
  have f2 := hs 2 (by omega)
  have f3 := hs 3 (by omega)
  rw [t1] at f1
  rw [t2] at f2
  rw [t3] at f3
  cases d1 : dropT k 1 with
  | true =>
    rw [if_pos rfl, if_neg (by decide)]
    refine ⟨?_, by decide, by decide⟩
    rw [hall]; unfold finA; rw [f1, d1]; rfl
  | false =>
    simp only [Bool.false_eq_true, if_false]
    cases d2 : dropT k 2 with
    | true =>
      rw [if_pos rfl, if_neg (by decide)]
      refine ⟨?_, by decide, by decide⟩
      rw [hall]; unfold finA; rw [f1, d1, f2, d2]; rfl
    | false =>
      simp only [Bool.false_eq_true, if_false]
      cases d3 : dropT k 3 with
      | true =>
        rw [if_pos rfl, if_neg (by decide)]
        refine ⟨?_, by decide, by decide⟩
        rw [hall]; unfold finA; rw [f1, d1, f2, d2, f3, d3]; rfl
      | false =>
        simp only [Bool.false_eq_true, if_false, if_true]
        have : keepL k (its a) = its a := by
          refine List.filter_eq_self.2 fun i hi => ?_
          by_cases ht : i.t ≤ 3
          · have h1 := its_1 h i hi
            have : i.t = 1 ∨ i.t = 2 ∨ i.t = 3 := by omega
            rcases this with e | e | e <;> rw [e] <;> simp [d1, d2, d3]
          · unfold dropT; rw [decide_eq_false ht]; rfl
        rw [this]
        exact read_perm h (.refl _)
theorem u64_id {n : Int} (h : 0 ≤ n ∧ n ≤ 255) : (IntKind.u64.wrap (IntKind.i64.wrap n)).toNat = n.toNat ∧ 0 ≤ IntKind.u64.wrap (IntKind.i64.wrap n) := by
  rw [show IntKind.i64.wrap n = n from w64_id (by omega)]
  have : IntKind.u64.wrap n = n := by show n % 18446744073709551616 = n; omega
  rw [this]
  exact ⟨rfl, h.1⟩
theorem run7 : RunC C7 6 7 [4] [27, 5] W7 [] := by
  intro (x : api_Attrs) hx (k : Int) hk hp
  obtain ⟨hok, hk0, hk1⟩ : PM x k := hp _ rfl
  refine of_eq (q7 x k true) (bif_of (fun _ => rfl) fun h => ?_)
  have hs : S10 x = true := by simpa using h
  have hl := small_len hok hs
  have hb := S12_len hok hs
  have hP : P12 x := ⟨by omega, by omega⟩
  refine bif_of (fun _ => rfl) fun h => ⟨hP, ?_⟩
  have h : S13 x = true := by have h' : S14 x = true := (by simpa using h); exact h'
  have g := gd_of hok hs h
  have e16 : S16 x = (its x).flatMap itB := its_bytes g h
  have hsm : ((its x).flatMap itB).length ≤ 400000000 := by rw [← its_bytes g h]; exact hb.1
  rw [e16]
  refine LOOP.of (fun y => ∃ done todo, its x = done ++ todo ∧ y.2.2 = ((done.flatMap itB).length : Int) ∧ y.1 = (keepL k done).flatMap itB ∧ y.2.1 = leastL k done) (fun y => (((its x).flatMap itB).length - y.2.2).toNat) ⟨[], its x, rfl, rfl, rfl, rfl⟩ ?_
  rintro ⟨s, l, at_⟩ ⟨done, todo, hd, h1, h2, h3⟩ J hJ
  simp only at h1 h2 h3
  refine bif_of (fun hlt => ?_) (fun hlt => ?_)
  · have hlt : at_ < (((its x).flatMap itB).length : Int) := of_decide_eq_true hlt
    cases todo with
    | nil => rw [List.append_nil] at hd; rw [h1, ← hd] at hlt; omega
    | cons i todo =>
    have hA := at_of hd (its_ok g) hsm
    have hle := hA.le
    have hi3 := (itB_len i).1
    have ht := hA.ok.ht
    have hd' : its x = (done ++ [i]) ++ todo := by rw [hd]; simp
    have hfl : ((done ++ [i]).flatMap itB).length = (done.flatMap itB).length + (itB i).length := by rw [List.flatMap_append, List.length_append]; simp
    have hdn : ∀ j ∈ done, 1 ≤ j.t := fun j hj => its_1 g j (by rw [hd]; simp [hj])
    have hsl : s.length ≤ 400000000 := by
      rw [h2]
      have : (keepL k done).Sublist (its x) := List.filter_sublist.trans (by rw [hd]; exact List.sublist_append_left _ _)
      exact Nat.le_trans (sub_flat this) hsm
    have w1 : IntKind.i64.wrap (at_ + 1) = at_ + 1 := w64_nat (by omega)
    have w2 : IntKind.i64.wrap (at_ + 2) = at_ + 2 := w64_nat (by omega)
    have wn : IntKind.i64.wrap (at_ + (itB i).length) = at_ + (itB i).length := w64_nat (by omega)
    have et : Go.Ab.ix ((its x).flatMap itB) (IntKind.i64.wrap (at_ + 1)) = i.t := by rw [w1, h1]; exact hA.t
    refine ⟨⟨by show 0 ≤ IntKind.i64.wrap (at_ + 2); omega, by show IntKind.i64.wrap (at_ + 2) < _; omega⟩, cut_jp hA h1 ⟨⟨by show 0 ≤ IntKind.i64.wrap (at_ + 1); omega, by show IntKind.i64.wrap (at_ + 1) < _; omega⟩, by trivial, ?_⟩⟩
    refine JP.of (fun z => z.1 = (keepL k (done ++ [i])).flatMap itB ∧ z.2 = leastL k (done ++ [i])) (fun J' hJ' => ⟨fun _ => ?_, ?_⟩) fun z hz => ⟨by trivial, hJ _ ⟨done ++ [i], todo, hd', ?_, hz.1, hz.2⟩ ?_⟩
    · show 0 ≤ IntKind.u64.wrap (IntKind.i64.wrap (Go.Ab.ix _ (IntKind.i64.wrap (at_ + 1))))
      rw [et]; exact (u64_id ht).2
    · have hc : (decide (IntKind.i64.wrap (Go.Ab.ix ((its x).flatMap itB) (IntKind.i64.wrap (at_ + 1))) ≤ 3) && decide ((k.fdiv (2 ^ min (IntKind.u64.wrap (IntKind.i64.wrap (Go.Ab.ix ((its x).flatMap itB) (IntKind.i64.wrap (at_ + 1))))).toNat 8)).tmod 2 = 1)) = dropT k i.t := by
        rw [et, (u64_id ht).1, show IntKind.i64.wrap i.t = i.t from w64_id (by omega)]; rfl
      have hsn := leastL_snoc (k := k) (i := i) hdn
      have hkp : keepL k (done ++ [i]) = keepL k done ++ (if dropT k i.t then [] else [i]) := by
        unfold keepL
        rw [List.filter_append]
        cases hq : dropT k i.t with
        | true => rw [List.filter_cons_of_neg (by simp [hq])]; rfl
        | false => rw [List.filter_cons_of_pos (by simp [hq])]; rfl
      refine bif_of (fun e => ?_) (fun e => ?_)
      · have e : dropT k i.t = true := hc ▸ e
        rw [e] at hsn hkp
        rw [if_pos rfl] at hsn hkp
        rw [List.append_nil] at hkp
        refine bif_of (fun e0 => ⟨by trivial, hJ' _ ⟨?_, ?_⟩⟩) (fun e0 => ⟨by trivial, hJ' _ ⟨?_, ?_⟩⟩)
        · show s = _; rw [hkp]; exact h2
        · have e0 : l = 0 := of_decide_eq_true e0
          show IntKind.i64.wrap (Go.Ab.ix _ (IntKind.i64.wrap (at_ + 1))) = _
          rw [et, hsn, ← h3, if_pos e0]; exact w64_id (by omega)
        · show s = _; rw [hkp]; exact h2
        · have e0 : ¬ l = 0 := of_decide_eq_false e0
          show l = _
          rw [hsn, ← h3, if_neg e0]
      · have e : dropT k i.t = false := hc ▸ e
        rw [e] at hsn hkp
        rw [if_neg (by simp)] at hsn hkp
        have esub : Go.Ab.sub ((its x).flatMap itB) at_ (IntKind.i64.wrap (at_ + (itB i).length)) = itB i := by rw [wn, h1]; exact hA.sub
        refine ⟨⟨by show 0 ≤ at_; omega, by show at_ ≤ IntKind.i64.wrap (at_ + (itB i).length); omega, by show IntKind.i64.wrap (at_ + (itB i).length) ≤ _; omega⟩, ⟨by trivial, ?_⟩, fun y hy => ⟨by trivial, hJ' _ ⟨?_, ?_⟩⟩⟩
        · show (s.length + (Go.Ab.sub _ at_ (IntKind.i64.wrap (at_ + (itB i).length))).length) * 1 ≤ 140737488355328
          rw [esub]; omega
        · show y = _
          have hy' : y = s ++ Go.Ab.sub ((its x).flatMap itB) at_ (IntKind.i64.wrap (at_ + (itB i).length)) := hy
          rw [hy', esub, hkp, List.flatMap_append, h2]; simp
        · show l = _
          rw [hsn, h3]
    · show IntKind.i64.wrap (at_ + (itB i).length) = _
      rw [wn, hfl, h1]; omega
    · show (((its x).flatMap itB).length - IntKind.i64.wrap (at_ + (itB i).length)).toNat < (((its x).flatMap itB).length - at_).toNat
      rw [wn]; omega
  · have hlt : ¬ at_ < (((its x).flatMap itB).length : Int) := of_decide_eq_false hlt
    have ht0 : todo = [] := by
      cases todo with
      | nil => rfl
      | cons i todo =>
        have hA := at_of hd (its_ok g) hsm
        have hle := hA.le
        have hi3 := (itB_len i).1
        omega
    rw [ht0, List.append_nil] at hd
    subst hd
    have hr := read_keep g k
    have hsub : (keepL k (its x)).Sublist (its x) := List.filter_sublist
    have hQ : P17 s := ⟨by rw [h2]; exact Nat.le_trans (sub_flat hsub) (Nat.le_trans hsm (by decide)), by rw [h2]; exact items_by fun i hi => its_ok g i (hsub.subset hi)⟩
    refine ⟨hQ, bif_of (fun e => ?_) (fun e => ?_)⟩
    · have e : l = 0 := of_decide_eq_true e
      rw [← h3, if_pos e, ← h2] at hr
      show decide ((S17 s).2.fCode = 0) = true
      rw [hr]; rfl
    · have e : ¬ l = 0 := of_decide_eq_false e
      rw [← h3, if_neg e, ← h2] at hr
      show bif decide ((S17 s).2.fCode = 3) && decide ((S17 s).2.fSub = 3) then S15 (S17 s).2.fData [IntKind.u8.wrap l] = true else false = true
      rw [hr.1]
      have : IntKind.u8.wrap l = l := by show l % 256 = l; omega
      rw [this]
      show S15 [l] [l] = true
      exact decide_eq_true rfl
theorem ok7 (h52 : ConOk P7 52 (.srt (A := S.A) 45 53 Q52 R52)) : Ok7 := con_ok (C := C7) (kok_cons ok15 (kok_cons ok10 (kok_cons (ok17 h52) (kok_cons (ok11 h52) (kok_cons ok14 (kk1 ok16)))))) mx7 (by kernel_rfl) run7
end Go.Rx
namespace Go.Rx
open Go.Ab Go.L7
set_option maxRecDepth 100000
set_option maxHeartbeats 20000000
set_option linter.unusedVariables false
/-- interregnum/interregnumref05.ReadAttrs -/
noncomputable def C19 : Cfg S := { P := P7, inl := [], K := [(30, ctr P7 [23] [4] (fun x0 => (none, S30 x0))), (55, ctr P7 [30] [3] (fun x0 => (some (P55 x0), S55 x0))), (37, ctr P7 [3, 3, 30] [34] (fun x0 x1 x2 => (some (P37 x0 x1 x2), S37 x0 x1 x2))), (54, ctr P7 [30] [22, 4] (fun x0 => (some (P54 x0), S54 x0)))], ann := [(19, [(3, .loop [(.sl 0, .sl 5), (.ce 4 0, .int .i64), (.ce 4 1, .sl 49), (.ce 4 2, .int .u32), (.ce 4 3, .int .i64), (.ce 4 4, .int .i64), (.ce 4 5, .own 23), (.ce 4 6, .sl 45), (.tl 5, .run)]), (7, .join [(.sl 6, .int .i64)]), (12, .join [(.sl 7, .int .i64)]), (29, .loop [(.sl 13, .int .i64)]), (20, .all)]), (38, [(27, .join [(.sl 126, .bool)]), (32, .loop [(.sl 15, .int .i64), (.ce 0 0, .int .i64), (.ce 0 1, .sl 49), (.ce 0 2, .int .u32), (.ce 0 3, .int .i64), (.ce 0 4, .int .i64), (.ce 0 5, .own 23), (.ce 0 6, .sl 45)])]), (39, [(12, .join [(.sl 4, .own 45)]), (6, .join [(.sl 4, .own 45), (.sl 5, .bool)]), (9, .join [(.sl 4, .own 45), (.sl 5, .bool)]), (5, .loop [(.sl 4, .own 45), (.sl 5, .bool), (.sl 6, .int .i64)])])] }
abbrev W19 : CT S [27, 34] [30] := (fun x0 => (some (P19 x0), S19 x0))
abbrev Ok19 : Prop := ConOk P7 19 (ctr P7 [30] [27, 34] W19) ∧ ConMon (ctr P7 [30] [27, 34] W19)
theorem q19 (x0 : List Int) (v : HR S [27, 34]) : (Xf C19 6 (emp 0) 19 (argsA C19 [⟨30, x0⟩]) (emp 0) (fun r _ => isR C19.P [27, 34] v r) (fun _ _ => False)) =
 (nat_lit 0 = nat_lit 0 ∧ LOOP (fun (h : List Int × Int × List api_Segment × Int × Int × Int × List Int × List api_Raw × List Bool) (J : List Int × Int × List
 api_Segment × Int × Int × Int × List Int × List api_Raw × List Bool → Prop) => bif decide ((0 : Int) < (↑h.fst.length : Int)) then JP (fun (h_1 : Int) => bif
 decide ((↑h.fst.length : Int) < h_1) then Nat.le (nat_lit 0) (nat_lit 140737488355328) ∧ (api_Attrs.mk (0 : Int) [] (0 : Int) (0 : Int) (0 : Int) [] [],
 api_Note.mk (3 : Int) (1 : Int) []) = v else ((0 : Int) ≤ (2 : Int) ∧ (2 : Int) < (↑h.fst.length : Int)) ∧ JP (fun (h_2 : Int) => (decide ((↑h.fst.length :
 Int) < IntKind.i64.wrap (h_1 + h_2)) = false → (0 : Int) ≤ (1 : Int) ∧ (1 : Int) < (↑h.fst.length : Int)) ∧ (decide ((↑h.fst.length : Int) < IntKind.i64.wrap
 (h_1 + h_2)) = false → (0 : Int) ≤ ix h.fst (1 : Int) ∧ ix h.fst (1 : Int) < (↑(nat_lit 256) : Int)) ∧ bif decide ((↑h.fst.length : Int) < IntKind.i64.wrap
 (h_1 + h_2)) then Nat.le (nat_lit 0) (nat_lit 140737488355328) ∧ (api_Attrs.mk (0 : Int) [] (0 : Int) (0 : Int) (0 : Int) [] [], api_Note.mk (3 : Int) (1 :
 Int) []) = v else (ix h.fst (1 : Int)).toNat < h.snd.snd.snd.snd.snd.snd.snd.snd.length ∧ bif ix h.snd.snd.snd.snd.snd.snd.snd.snd (ix h.fst (1 : Int)) then
 Nat.le (nat_lit 0) (nat_lit 140737488355328) ∧ (api_Attrs.mk (0 : Int) [] (0 : Int) (0 : Int) (0 : Int) [] [], api_Note.mk (3 : Int) (1 : Int) []) = v else
 ((0 : Int) ≤ (0 : Int) ∧ (0 : Int) < (↑h.fst.length : Int)) ∧ ((0 : Int) ≤ (1 : Int) ∧ (1 : Int) < (↑h.fst.length : Int)) ∧ ((0 : Int) ≤ (0 : Int) ∧ (0 : Int)
 ≤ IntKind.i64.wrap (h_1 + h_2) ∧ IntKind.i64.wrap (h_1 + h_2) ≤ (↑h.fst.length : Int)) ∧ ((0 : Int) ≤ h_1 ∧ h_1 ≤ IntKind.i64.wrap (h_1 + h_2) ∧
 IntKind.i64.wrap (h_1 + h_2) ≤ (↑h.fst.length : Int)) ∧ ((0 : Int) ≤ IntKind.i64.wrap (ix h.fst (1 : Int)) ∧ IntKind.i64.wrap (ix h.fst (1 : Int)) <
 (↑(nat_lit 256) : Int)) ∧ (IntKind.i64.wrap (ix h.fst (1 : Int))).toNat < h.snd.snd.snd.snd.snd.snd.snd.snd.length ∧ ((0 : Int) ≤ IntKind.i64.wrap (h_1 + h_2)
 ∧ IntKind.i64.wrap (h_1 + h_2) ≤ (↑h.fst.length : Int) ∧ (↑h.fst.length : Int) ≤ (↑h.fst.length : Int)) ∧ bif decide ((1 : Int) ≤ IntKind.i64.wrap (ix h.fst
 (1 : Int))) && decide (IntKind.i64.wrap (ix h.fst (1 : Int)) ≤ (8 : Int)) then ((0 : Int) ≤ IntKind.i64.wrap (ix h.fst (1 : Int)) ∧ IntKind.i64.wrap (ix h.fst
 (1 : Int)) < (↑(nat_lit 9) : Int)) ∧ ((0 : Int) ≤ IntKind.i64.wrap (ix h.fst (1 : Int)) ∧ IntKind.i64.wrap (ix h.fst (1 : Int)) < (↑(nat_lit 9) : Int)) ∧ bif
 !decide (IntKind.i64.wrap (IntKind.i64.wrap ((IntKind.i64.wrap (ix h.fst (0 : Int))).tdiv (64 : Int)) * (64 : Int)) = ix [(0 : Int), (64 : Int), (64 : Int),
 (64 : Int), (128 : Int), (64 : Int), (64 : Int), (192 : Int), (192 : Int)] (IntKind.i64.wrap (ix h.fst (1 : Int)))) || decide ((IntKind.i64.wrap
 ((IntKind.i64.wrap (ix h.fst (0 : Int))).tdiv (32 : Int))).tmod (2 : Int) = (1 : Int)) && decide (IntKind.i64.wrap (ix h.fst (1 : Int)) < (7 : Int)) then (sub
 h.fst (0 : Int) (IntKind.i64.wrap (h_1 + h_2))).length.le (nat_lit 140737488355328) ∧ ((api_Attrs.mk (0 : Int) [] (0 : Int) (0 : Int) (0 : Int) [] [],
 api_Note.mk (3 : Int) (4 : Int) (sub h.fst (0 : Int) (IntKind.i64.wrap (h_1 + h_2)))) = v ∧ (api_Attrs.mk (0 : Int) [] (0 : Int) (0 : Int) (0 : Int) [] [],
 api_Note.mk (3 : Int) (4 : Int) (sub h.fst (0 : Int) (IntKind.i64.wrap (h_1 + h_2)))) = v) ∧ (api_Attrs.mk (0 : Int) [] (0 : Int) (0 : Int) (0 : Int) [] [],
 api_Note.mk (3 : Int) (4 : Int) (sub h.fst (0 : Int) (IntKind.i64.wrap (h_1 + h_2)))) = v else bif decide ((0 : Int) ≤ ix [(0 : Int), (1 : Int), (-1 : Int),
 (4 : Int), (4 : Int), (4 : Int), (0 : Int), (8 : Int), (-1 : Int)] (IntKind.i64.wrap (ix h.fst (1 : Int)))) && !decide ((↑(sub h.fst h_1 (IntKind.i64.wrap
 (h_1 + h_2))).length : Int) = ix [(0 : Int), (1 : Int), (-1 : Int), (4 : Int), (4 : Int), (4 : Int), (0 : Int), (8 : Int), (-1 : Int)] (IntKind.i64.wrap (ix
 h.fst (1 : Int)))) || decide (IntKind.i64.wrap (ix h.fst (1 : Int)) = (8 : Int)) && (decide ((↑(sub h.fst h_1 (IntKind.i64.wrap (h_1 + h_2))).length : Int) =
 (0 : Int)) || !decide ((↑(sub h.fst h_1 (IntKind.i64.wrap (h_1 + h_2))).length : Int).tmod (4 : Int) = (0 : Int))) then (sub h.fst (0 : Int) (IntKind.i64.wrap
 (h_1 + h_2))).length.le (nat_lit 140737488355328) ∧ ((api_Attrs.mk (0 : Int) [] (0 : Int) (0 : Int) (0 : Int) [] [], api_Note.mk (3 : Int) (5 : Int) (sub
 h.fst (0 : Int) (IntKind.i64.wrap (h_1 + h_2)))) = v ∧ (api_Attrs.mk (0 : Int) [] (0 : Int) (0 : Int) (0 : Int) [] [], api_Note.mk (3 : Int) (5 : Int) (sub
 h.fst (0 : Int) (IntKind.i64.wrap (h_1 + h_2)))) = v) ∧ (api_Attrs.mk (0 : Int) [] (0 : Int) (0 : Int) (0 : Int) [] [], api_Note.mk (3 : Int) (5 : Int) (sub
 h.fst (0 : Int) (IntKind.i64.wrap (h_1 + h_2)))) = v else bif decide (IntKind.i64.wrap (ix h.fst (1 : Int)) = (1 : Int)) then ((0 : Int) ≤ (0 : Int) ∧ (0 :
 Int) < (↑(sub h.fst h_1 (IntKind.i64.wrap (h_1 + h_2))).length : Int)) ∧ bif decide ((2 : Int) < ix (sub h.fst h_1 (IntKind.i64.wrap (h_1 + h_2))) (0 : Int))
 then (sub h.fst (0 : Int) (IntKind.i64.wrap (h_1 + h_2))).length.le (nat_lit 140737488355328) ∧ ((api_Attrs.mk (0 : Int) [] (0 : Int) (0 : Int) (0 : Int) []
 [], api_Note.mk (3 : Int) (6 : Int) (sub h.fst (0 : Int) (IntKind.i64.wrap (h_1 + h_2)))) = v ∧ (api_Attrs.mk (0 : Int) [] (0 : Int) (0 : Int) (0 : Int) []
 [], api_Note.mk (3 : Int) (6 : Int) (sub h.fst (0 : Int) (IntKind.i64.wrap (h_1 + h_2)))) = v) ∧ (api_Attrs.mk (0 : Int) [] (0 : Int) (0 : Int) (0 : Int) []
 [], api_Note.mk (3 : Int) (6 : Int) (sub h.fst (0 : Int) (IntKind.i64.wrap (h_1 + h_2)))) = v else ((0 : Int) ≤ (0 : Int) ∧ (0 : Int) < (↑(sub h.fst h_1
 (IntKind.i64.wrap (h_1 + h_2))).length : Int)) ∧ (h.snd.snd.snd.snd.snd.snd.fst.length = h.snd.snd.snd.snd.snd.snd.fst.length ∧ nat_lit 0 = nat_lit 0) ∧ J
 (sub h.fst (IntKind.i64.wrap (h_1 + h_2)) (↑h.fst.length : Int), IntKind.i64.wrap (ix (sub h.fst h_1 (IntKind.i64.wrap (h_1 + h_2))) (0 : Int)),
 h.snd.snd.fst, h.snd.snd.snd.fst, h.snd.snd.snd.snd.fst, h.snd.snd.snd.snd.snd.fst, h.snd.snd.snd.snd.snd.snd.fst, h.snd.snd.snd.snd.snd.snd.snd.fst,
 h.snd.snd.snd.snd.snd.snd.snd.snd.set (IntKind.i64.wrap (ix h.fst (1 : Int))).toNat true) else bif decide (IntKind.i64.wrap (ix h.fst (1 : Int)) = (2 : Int))
 then ((sub h.fst h_1 (IntKind.i64.wrap (h_1 + h_2))).length ≤ nat_lit 1099511627776 ∧ ∀ (c : Int), List.Mem c (sub h.fst h_1 (IntKind.i64.wrap (h_1 + h_2))) →
 (0 : Int) ≤ c ∧ c ≤ (255 : Int)) ∧ bif !(S54 (sub h.fst h_1 (IntKind.i64.wrap (h_1 + h_2)))).snd then Nat.le (nat_lit 0) (nat_lit 140737488355328) ∧
 ((api_Attrs.mk (0 : Int) [] (0 : Int) (0 : Int) (0 : Int) [] [], api_Note.mk (3 : Int) (11 : Int) []) = v ∧ (api_Attrs.mk (0 : Int) [] (0 : Int) (0 : Int) (0
 : Int) [] [], api_Note.mk (3 : Int) (11 : Int) []) = v) ∧ (api_Attrs.mk (0 : Int) [] (0 : Int) (0 : Int) (0 : Int) [] [], api_Note.mk (3 : Int) (11 : Int) [])
 = v else (h.snd.snd.snd.snd.snd.snd.fst.length = h.snd.snd.snd.snd.snd.snd.fst.length ∧ nat_lit 0 = nat_lit 0) ∧ J (sub h.fst (IntKind.i64.wrap (h_1 + h_2))
 (↑h.fst.length : Int), h.snd.fst, (S54 (sub h.fst h_1 (IntKind.i64.wrap (h_1 + h_2)))).fst, h.snd.snd.snd.fst, h.snd.snd.snd.snd.fst,
 h.snd.snd.snd.snd.snd.fst, h.snd.snd.snd.snd.snd.snd.fst, h.snd.snd.snd.snd.snd.snd.snd.fst, h.snd.snd.snd.snd.snd.snd.snd.snd.set (IntKind.i64.wrap (ix h.fst
 (1 : Int))).toNat true) else bif decide (IntKind.i64.wrap (ix h.fst (1 : Int)) = (3 : Int)) then (nat_lit 4 ≤ (sub h.fst h_1 (IntKind.i64.wrap (h_1 +
 h_2))).length ∧ ∀ (c : Int), List.Mem c (List.take (nat_lit 4) (sub h.fst h_1 (IntKind.i64.wrap (h_1 + h_2)))) → (0 : Int) ≤ c ∧ c ≤ (255 : Int)) ∧ bif !S30
 (IntKind.u32.wrap (S55 (sub h.fst h_1 (IntKind.i64.wrap (h_1 + h_2))))) then (sub h.fst (0 : Int) (IntKind.i64.wrap (h_1 + h_2))).length.le (nat_lit
 140737488355328) ∧ ((api_Attrs.mk (0 : Int) [] (0 : Int) (0 : Int) (0 : Int) [] [], api_Note.mk (3 : Int) (8 : Int) (sub h.fst (0 : Int) (IntKind.i64.wrap
 (h_1 + h_2)))) = v ∧ (api_Attrs.mk (0 : Int) [] (0 : Int) (0 : Int) (0 : Int) [] [], api_Note.mk (3 : Int) (8 : Int) (sub h.fst (0 : Int) (IntKind.i64.wrap
 (h_1 + h_2)))) = v) ∧ (api_Attrs.mk (0 : Int) [] (0 : Int) (0 : Int) (0 : Int) [] [], api_Note.mk (3 : Int) (8 : Int) (sub h.fst (0 : Int) (IntKind.i64.wrap
 (h_1 + h_2)))) = v else (h.snd.snd.snd.snd.snd.snd.fst.length = h.snd.snd.snd.snd.snd.snd.fst.length ∧ nat_lit 0 = nat_lit 0) ∧ J (sub h.fst (IntKind.i64.wrap
 (h_1 + h_2)) (↑h.fst.length : Int), h.snd.fst, h.snd.snd.fst, IntKind.u32.wrap (S55 (sub h.fst h_1 (IntKind.i64.wrap (h_1 + h_2)))), h.snd.snd.snd.snd.fst,
 h.snd.snd.snd.snd.snd.fst, h.snd.snd.snd.snd.snd.snd.fst, h.snd.snd.snd.snd.snd.snd.snd.fst, h.snd.snd.snd.snd.snd.snd.snd.snd.set (IntKind.i64.wrap (ix h.fst
 (1 : Int))).toNat true) else bif decide (IntKind.i64.wrap (ix h.fst (1 : Int)) = (4 : Int)) then (nat_lit 4 ≤ (sub h.fst h_1 (IntKind.i64.wrap (h_1 +
 h_2))).length ∧ ∀ (c : Int), List.Mem c (List.take (nat_lit 4) (sub h.fst h_1 (IntKind.i64.wrap (h_1 + h_2)))) → (0 : Int) ≤ c ∧ c ≤ (255 : Int)) ∧
 (h.snd.snd.snd.snd.snd.snd.fst.length = h.snd.snd.snd.snd.snd.snd.fst.length ∧ nat_lit 0 = nat_lit 0) ∧ J (sub h.fst (IntKind.i64.wrap (h_1 + h_2))
 (↑h.fst.length : Int), h.snd.fst, h.snd.snd.fst, h.snd.snd.snd.fst, S55 (sub h.fst h_1 (IntKind.i64.wrap (h_1 + h_2))), h.snd.snd.snd.snd.snd.fst,
 h.snd.snd.snd.snd.snd.snd.fst, h.snd.snd.snd.snd.snd.snd.snd.fst, h.snd.snd.snd.snd.snd.snd.snd.snd.set (IntKind.i64.wrap (ix h.fst (1 : Int))).toNat true)
 else bif decide (IntKind.i64.wrap (ix h.fst (1 : Int)) = (5 : Int)) then (nat_lit 4 ≤ (sub h.fst h_1 (IntKind.i64.wrap (h_1 + h_2))).length ∧ ∀ (c : Int),
 List.Mem c (List.take (nat_lit 4) (sub h.fst h_1 (IntKind.i64.wrap (h_1 + h_2)))) → (0 : Int) ≤ c ∧ c ≤ (255 : Int)) ∧ (h.snd.snd.snd.snd.snd.snd.fst.length =
 h.snd.snd.snd.snd.snd.snd.fst.length ∧ nat_lit 0 = nat_lit 0) ∧ J (sub h.fst (IntKind.i64.wrap (h_1 + h_2)) (↑h.fst.length : Int), h.snd.fst, h.snd.snd.fst,
 h.snd.snd.snd.fst, h.snd.snd.snd.snd.fst, S55 (sub h.fst h_1 (IntKind.i64.wrap (h_1 + h_2))), h.snd.snd.snd.snd.snd.snd.fst,
 h.snd.snd.snd.snd.snd.snd.snd.fst, h.snd.snd.snd.snd.snd.snd.snd.snd.set (IntKind.i64.wrap (ix h.fst (1 : Int))).toNat true) else JP (fun (h_3 : Bool) => bif
 h_3 then (nat_lit 0 = nat_lit 0 ∧ (nat_lit 0 + (sub h.fst h_1 (IntKind.i64.wrap (h_1 + h_2))).length) * nat_lit 1 ≤ nat_lit 140737488355328) ∧ ∀ (y : List
 (Int)), y = [] ++ sub h.fst h_1 (IntKind.i64.wrap (h_1 + h_2)) → LOOP (fun (h_5 : List api_Raw × Bool × Int) (J_1 : List api_Raw × Bool × Int → Prop) => bif
 decide (h_5.snd.snd < (↑h.snd.snd.snd.snd.snd.snd.snd.fst.length : Int)) then h_5.fst.length = h_5.fst.length ∧ JP (fun (h : List api_Raw × Bool) =>
 h.fst.length = h.fst.length ∧ J_1 (h.fst, h.snd, IntKind.i64.wrap (h_5.snd.snd + (1 : Int)))) fun (J : List api_Raw × Bool → Prop) => h_5.fst.length =
 h_5.fst.length ∧ JP (fun (h_6 : List api_Raw × Bool) => ((0 : Int) ≤ h_5.snd.snd ∧ h_5.snd.snd < (↑h.snd.snd.snd.snd.snd.snd.snd.fst.length : Int)) ∧
 (h_6.fst.length = h_6.fst.length ∧ (h_6.fst.length + [ix h.snd.snd.snd.snd.snd.snd.snd.fst h_5.snd.snd].length) * nat_lit 40 ≤ nat_lit 140737488355328) ∧ ∀ (y
 : List (api_Raw)), y = h_6.fst ++ [ix h.snd.snd.snd.snd.snd.snd.snd.fst h_5.snd.snd] → y.length = y.length ∧ J (y, h_6.snd)) fun (J : List api_Raw × Bool →
 Prop) => ((!h_5.snd.fst) = true → (0 : Int) ≤ h_5.snd.snd ∧ h_5.snd.snd < (↑h.snd.snd.snd.snd.snd.snd.snd.fst.length : Int)) ∧ bif !h_5.snd.fst && decide
 (IntKind.i64.wrap (ix h.fst (1 : Int)) < (ix h.snd.snd.snd.snd.snd.snd.snd.fst h_5.snd.snd).fType) then (h_5.fst.length = h_5.fst.length ∧ (h_5.fst.length +
 [api_Raw.mk (ix [(0 : Int), (64 : Int), (64 : Int), (64 : Int), (128 : Int), (64 : Int), (64 : Int), (192 : Int), (192 : Int)] (IntKind.i64.wrap (ix h.fst (1
 : Int)))) (IntKind.i64.wrap (ix h.fst (1 : Int))) y].length) * nat_lit 40 ≤ nat_lit 140737488355328) ∧ ∀ (y_1 : List (api_Raw)), y_1 = h_5.fst ++ [api_Raw.mk
 (ix [(0 : Int), (64 : Int), (64 : Int), (64 : Int), (128 : Int), (64 : Int), (64 : Int), (192 : Int), (192 : Int)] (IntKind.i64.wrap (ix h.fst (1 : Int))))
 (IntKind.i64.wrap (ix h.fst (1 : Int))) y] → y_1.length = y_1.length ∧ J (y_1, true) else h_5.fst.length = h_5.fst.length ∧ J (h_5.fst, h_5.snd.fst) else
 h_5.fst.length = h_5.fst.length ∧ JP (fun (h_6 : List api_Raw) => (h.snd.snd.snd.snd.snd.snd.fst.length = h.snd.snd.snd.snd.snd.snd.fst.length ∧ nat_lit 0 =
 nat_lit 0) ∧ J (sub h.fst (IntKind.i64.wrap (h_1 + h_2)) (↑h.fst.length : Int), h.snd.fst, h.snd.snd.fst, h.snd.snd.snd.fst, h.snd.snd.snd.snd.fst,
 h.snd.snd.snd.snd.snd.fst, h.snd.snd.snd.snd.snd.snd.fst, h_6, h.snd.snd.snd.snd.snd.snd.snd.snd.set (IntKind.i64.wrap (ix h.fst (1 : Int))).toNat true)) fun
 (J : List api_Raw → Prop) => bif !h_5.snd.fst then (h_5.fst.length = h_5.fst.length ∧ (h_5.fst.length + [api_Raw.mk (ix [(0 : Int), (64 : Int), (64 : Int),
 (64 : Int), (128 : Int), (64 : Int), (64 : Int), (192 : Int), (192 : Int)] (IntKind.i64.wrap (ix h.fst (1 : Int)))) (IntKind.i64.wrap (ix h.fst (1 : Int)))
 y].length) * nat_lit 40 ≤ nat_lit 140737488355328) ∧ ∀ (y_1 : List (api_Raw)), y_1 = h_5.fst ++ [api_Raw.mk (ix [(0 : Int), (64 : Int), (64 : Int), (64 :
 Int), (128 : Int), (64 : Int), (64 : Int), (192 : Int), (192 : Int)] (IntKind.i64.wrap (ix h.fst (1 : Int)))) (IntKind.i64.wrap (ix h.fst (1 : Int))) y] →
 y_1.length = y_1.length ∧ J y_1 else h_5.fst.length = h_5.fst.length ∧ J h_5.fst) ([], false, (0 : Int)) else bif decide (IntKind.i64.wrap (ix h.fst (1 :
 Int)) = (8 : Int)) then bif decide ((128 : Int) < (↑(sub h.fst h_1 (IntKind.i64.wrap (h_1 + h_2))).length : Int)) then (sub h.fst (0 : Int) (IntKind.i64.wrap
 (h_1 + h_2))).length.le (nat_lit 140737488355328) ∧ ((api_Attrs.mk (0 : Int) [] (0 : Int) (0 : Int) (0 : Int) [] [], api_Note.mk (3 : Int) (9 : Int) (sub
 h.fst (0 : Int) (IntKind.i64.wrap (h_1 + h_2)))) = v ∧ (api_Attrs.mk (0 : Int) [] (0 : Int) (0 : Int) (0 : Int) [] [], api_Note.mk (3 : Int) (9 : Int) (sub
 h.fst (0 : Int) (IntKind.i64.wrap (h_1 + h_2)))) = v) ∧ (api_Attrs.mk (0 : Int) [] (0 : Int) (0 : Int) (0 : Int) [] [], api_Note.mk (3 : Int) (9 : Int) (sub
 h.fst (0 : Int) (IntKind.i64.wrap (h_1 + h_2)))) = v else h.snd.snd.snd.snd.snd.snd.fst.length = h.snd.snd.snd.snd.snd.snd.fst.length ∧ LOOP (fun (h_4 : Int ×
 Int × List api_Segment × Int × Int × Int × List Int × List api_Raw) (J_1 : Int × Int × List api_Segment × Int × Int × Int × List Int × List api_Raw → Prop) =>
 bif decide (h_4.fst < (↑(sub h.fst h_1 (IntKind.i64.wrap (h_1 + h_2))).length : Int)) then ((0 : Int) ≤ h_4.fst ∧ h_4.fst ≤ (↑(sub h.fst h_1 (IntKind.i64.wrap
 (h_1 + h_2))).length : Int) ∧ (↑(sub h.fst h_1 (IntKind.i64.wrap (h_1 + h_2))).length : Int) ≤ (↑(sub h.fst h_1 (IntKind.i64.wrap (h_1 + h_2))).length : Int))
 ∧ (nat_lit 4 ≤ (sub (sub h.fst h_1 (IntKind.i64.wrap (h_1 + h_2))) h_4.fst (↑(sub h.fst h_1 (IntKind.i64.wrap (h_1 + h_2))).length : Int)).length ∧ ∀ (c :
 Int), List.Mem c (List.take (nat_lit 4) (sub (sub h.fst h_1 (IntKind.i64.wrap (h_1 + h_2))) h_4.fst (↑(sub h.fst h_1 (IntKind.i64.wrap (h_1 + h_2))).length :
 Int))) → (0 : Int) ≤ c ∧ c ≤ (255 : Int)) ∧ (h_4.snd.snd.snd.snd.snd.snd.fst.length = h_4.snd.snd.snd.snd.snd.snd.fst.length ∧
 (h_4.snd.snd.snd.snd.snd.snd.fst.length + [IntKind.u32.wrap (S55 (sub (sub h.fst h_1 (IntKind.i64.wrap (h_1 + h_2))) h_4.fst (↑(sub h.fst h_1
 (IntKind.i64.wrap (h_1 + h_2))).length : Int)))].length) * nat_lit 4 ≤ nat_lit 140737488355328) ∧ ∀ (y : List (Int)), y = h_4.snd.snd.snd.snd.snd.snd.fst ++
 [IntKind.u32.wrap (S55 (sub (sub h.fst h_1 (IntKind.i64.wrap (h_1 + h_2))) h_4.fst (↑(sub h.fst h_1 (IntKind.i64.wrap (h_1 + h_2))).length : Int)))] →
 y.length = y.length ∧ J_1 (IntKind.i64.wrap (h_4.fst + (4 : Int)), h_4.snd.fst, h_4.snd.snd.fst, h_4.snd.snd.snd.fst, h_4.snd.snd.snd.snd.fst,
 h_4.snd.snd.snd.snd.snd.fst, y, h_4.snd.snd.snd.snd.snd.snd.snd) else (h_4.snd.snd.snd.snd.snd.snd.fst.length = h_4.snd.snd.snd.snd.snd.snd.fst.length ∧
 nat_lit 0 = nat_lit 0) ∧ J (sub h.fst (IntKind.i64.wrap (h_1 + h_2)) (↑h.fst.length : Int), h_4.snd.fst, h_4.snd.snd.fst, h_4.snd.snd.snd.fst,
 h_4.snd.snd.snd.snd.fst, h_4.snd.snd.snd.snd.snd.fst, h_4.snd.snd.snd.snd.snd.snd.fst, h_4.snd.snd.snd.snd.snd.snd.snd, h.snd.snd.snd.snd.snd.snd.snd.snd.set
 (IntKind.i64.wrap (ix h.fst (1 : Int))).toNat true)) ((0 : Int), h.snd.fst, h.snd.snd.fst, h.snd.snd.snd.fst, h.snd.snd.snd.snd.fst,
 h.snd.snd.snd.snd.snd.fst, h.snd.snd.snd.snd.snd.snd.fst, h.snd.snd.snd.snd.snd.snd.snd.fst) else (h.snd.snd.snd.snd.snd.snd.fst.length =
 h.snd.snd.snd.snd.snd.snd.fst.length ∧ nat_lit 0 = nat_lit 0) ∧ J (sub h.fst (IntKind.i64.wrap (h_1 + h_2)) (↑h.fst.length : Int), h.snd.fst, h.snd.snd.fst,
 h.snd.snd.snd.fst, h.snd.snd.snd.snd.fst, h.snd.snd.snd.snd.snd.fst, h.snd.snd.snd.snd.snd.snd.fst, h.snd.snd.snd.snd.snd.snd.snd.fst,
 h.snd.snd.snd.snd.snd.snd.snd.snd.set (IntKind.i64.wrap (ix h.fst (1 : Int))).toNat true)) fun (J : Bool → Prop) => bif decide (IntKind.i64.wrap (ix h.fst (1
 : Int)) = (6 : Int)) then J (decide (IntKind.i64.wrap (ix h.fst (1 : Int)) = (6 : Int))) else J (decide (IntKind.i64.wrap (ix h.fst (1 : Int)) = (7 : Int)))
 else bif decide (IntKind.i64.wrap (ix h.fst (0 : Int)) < (128 : Int)) then (sub h.fst (0 : Int) (IntKind.i64.wrap (h_1 + h_2))).length.le (nat_lit
 140737488355328) ∧ (api_Attrs.mk (0 : Int) [] (0 : Int) (0 : Int) (0 : Int) [] [], api_Note.mk (3 : Int) (2 : Int) (sub h.fst (0 : Int) (IntKind.i64.wrap (h_1
 + h_2)))) = v else bif decide ((IntKind.i64.wrap ((IntKind.i64.wrap (ix h.fst (0 : Int))).tdiv (64 : Int))).tmod (2 : Int) = (0 : Int)) then
 (h.snd.snd.snd.snd.snd.snd.fst.length = h.snd.snd.snd.snd.snd.snd.fst.length ∧ nat_lit 0 = nat_lit 0) ∧ J (sub h.fst (IntKind.i64.wrap (h_1 + h_2))
 (↑h.fst.length : Int), h.snd.fst, h.snd.snd.fst, h.snd.snd.snd.fst, h.snd.snd.snd.snd.fst, h.snd.snd.snd.snd.snd.fst, h.snd.snd.snd.snd.snd.snd.fst,
 h.snd.snd.snd.snd.snd.snd.snd.fst, h.snd.snd.snd.snd.snd.snd.snd.snd.set (IntKind.i64.wrap (ix h.fst (1 : Int))).toNat true) else bif decide ((255 : Int) <
 h_2) then (sub h.fst (0 : Int) (IntKind.i64.wrap (h_1 + h_2))).length.le (nat_lit 140737488355328) ∧ (api_Attrs.mk (0 : Int) [] (0 : Int) (0 : Int) (0 : Int)
 [] [], api_Note.mk (3 : Int) (9 : Int) (sub h.fst (0 : Int) (IntKind.i64.wrap (h_1 + h_2)))) = v else bif decide ((8 : Int) < IntKind.i64.wrap (ix h.fst (1 :
 Int))) then (nat_lit 0 = nat_lit 0 ∧ (nat_lit 0 + (sub h.fst h_1 (IntKind.i64.wrap (h_1 + h_2))).length) * nat_lit 1 ≤ nat_lit 140737488355328) ∧ ∀ (y : List
 (Int)), y = [] ++ sub h.fst h_1 (IntKind.i64.wrap (h_1 + h_2)) → LOOP (fun (h_4 : List api_Raw × Bool × Int) (J_1 : List api_Raw × Bool × Int → Prop) => bif
 decide (h_4.snd.snd < (↑h.snd.snd.snd.snd.snd.snd.snd.fst.length : Int)) then h_4.fst.length = h_4.fst.length ∧ JP (fun (h : List api_Raw × Bool) =>
 h.fst.length = h.fst.length ∧ J_1 (h.fst, h.snd, IntKind.i64.wrap (h_4.snd.snd + (1 : Int)))) fun (J : List api_Raw × Bool → Prop) => h_4.fst.length =
 h_4.fst.length ∧ JP (fun (h_5 : List api_Raw × Bool) => ((0 : Int) ≤ h_4.snd.snd ∧ h_4.snd.snd < (↑h.snd.snd.snd.snd.snd.snd.snd.fst.length : Int)) ∧
 (h_5.fst.length = h_5.fst.length ∧ (h_5.fst.length + [ix h.snd.snd.snd.snd.snd.snd.snd.fst h_4.snd.snd].length) * nat_lit 40 ≤ nat_lit 140737488355328) ∧ ∀ (y
 : List (api_Raw)), y = h_5.fst ++ [ix h.snd.snd.snd.snd.snd.snd.snd.fst h_4.snd.snd] → y.length = y.length ∧ J (y, h_5.snd)) fun (J : List api_Raw × Bool →
 Prop) => ((!h_4.snd.fst) = true → (0 : Int) ≤ h_4.snd.snd ∧ h_4.snd.snd < (↑h.snd.snd.snd.snd.snd.snd.snd.fst.length : Int)) ∧ bif !h_4.snd.fst && decide
 (IntKind.i64.wrap (ix h.fst (1 : Int)) < (ix h.snd.snd.snd.snd.snd.snd.snd.fst h_4.snd.snd).fType) then (h_4.fst.length = h_4.fst.length ∧ (h_4.fst.length +
 [api_Raw.mk (224 : Int) (IntKind.i64.wrap (ix h.fst (1 : Int))) y].length) * nat_lit 40 ≤ nat_lit 140737488355328) ∧ ∀ (y_1 : List (api_Raw)), y_1 = h_4.fst
 ++ [api_Raw.mk (224 : Int) (IntKind.i64.wrap (ix h.fst (1 : Int))) y] → y_1.length = y_1.length ∧ J (y_1, true) else h_4.fst.length = h_4.fst.length ∧ J
 (h_4.fst, h_4.snd.fst) else h_4.fst.length = h_4.fst.length ∧ JP (fun (h_5 : List api_Raw) => (h.snd.snd.snd.snd.snd.snd.fst.length =
 h.snd.snd.snd.snd.snd.snd.fst.length ∧ nat_lit 0 = nat_lit 0) ∧ J (sub h.fst (IntKind.i64.wrap (h_1 + h_2)) (↑h.fst.length : Int), h.snd.fst, h.snd.snd.fst,
 h.snd.snd.snd.fst, h.snd.snd.snd.snd.fst, h.snd.snd.snd.snd.snd.fst, h.snd.snd.snd.snd.snd.snd.fst, h_5, h.snd.snd.snd.snd.snd.snd.snd.snd.set
 (IntKind.i64.wrap (ix h.fst (1 : Int))).toNat true)) fun (J : List api_Raw → Prop) => bif !h_4.snd.fst then (h_4.fst.length = h_4.fst.length ∧ (h_4.fst.length
 + [api_Raw.mk (224 : Int) (IntKind.i64.wrap (ix h.fst (1 : Int))) y].length) * nat_lit 40 ≤ nat_lit 140737488355328) ∧ ∀ (y_1 : List (api_Raw)), y_1 = h_4.fst
 ++ [api_Raw.mk (224 : Int) (IntKind.i64.wrap (ix h.fst (1 : Int))) y] → y_1.length = y_1.length ∧ J y_1 else h_4.fst.length = h_4.fst.length ∧ J h_4.fst) ([],
 false, (0 : Int)) else (h.snd.snd.snd.snd.snd.snd.fst.length = h.snd.snd.snd.snd.snd.snd.fst.length ∧ nat_lit 0 = nat_lit 0) ∧ J (sub h.fst (IntKind.i64.wrap
 (h_1 + h_2)) (↑h.fst.length : Int), h.snd.fst, h.snd.snd.fst, h.snd.snd.snd.fst, h.snd.snd.snd.snd.fst, h.snd.snd.snd.snd.snd.fst,
 h.snd.snd.snd.snd.snd.snd.fst, h.snd.snd.snd.snd.snd.snd.snd.fst, h.snd.snd.snd.snd.snd.snd.snd.snd.set (IntKind.i64.wrap (ix h.fst (1 : Int))).toNat true))
 fun (J : Int → Prop) => bif decide (h_1 = (4 : Int)) then ((0 : Int) ≤ (2 : Int) ∧ (2 : Int) < (↑h.fst.length : Int)) ∧ ((0 : Int) ≤ (3 : Int) ∧ (3 : Int) <
 (↑h.fst.length : Int)) ∧ J (IntKind.i64.wrap (IntKind.i64.wrap ((256 : Int) * IntKind.i64.wrap (ix h.fst (2 : Int))) + IntKind.i64.wrap (ix h.fst (3 : Int))))
 else J (IntKind.i64.wrap (ix h.fst (2 : Int)))) fun (J : Int → Prop) => ((0 : Int) ≤ (0 : Int) ∧ (0 : Int) < (↑h.fst.length : Int)) ∧ bif decide
 ((IntKind.u8.wrap ((ix h.fst (0 : Int)).tdiv (16 : Int))).tmod (2 : Int) = (1 : Int)) then J (4 : Int) else J (3 : Int) else LOOP (fun (h_1 : Int) (J : Int →
 Prop) => bif decide (h_1 ≤ (3 : Int)) then ((0 : Int) ≤ h_1 ∧ h_1 < (↑(nat_lit 256) : Int)) ∧ h_1.toNat < h.snd.snd.snd.snd.snd.snd.snd.snd.length ∧ bif !ix
 h.snd.snd.snd.snd.snd.snd.snd.snd h_1 then [IntKind.u8.wrap h_1].length.le (nat_lit 140737488355328) ∧ (api_Attrs.mk (0 : Int) [] (0 : Int) (0 : Int) (0 :
 Int) [] [], api_Note.mk (3 : Int) (3 : Int) [IntKind.u8.wrap h_1]) = v else J (IntKind.i64.wrap (h_1 + (1 : Int))) else (api_Attrs.mk h.snd.fst h.snd.snd.fst
 h.snd.snd.snd.fst h.snd.snd.snd.snd.fst h.snd.snd.snd.snd.snd.fst h.snd.snd.snd.snd.snd.snd.fst h.snd.snd.snd.snd.snd.snd.snd.fst, api_Note.mk (0 : Int) (0 :
 Int) []) = v) (1 : Int)) (x0, (0 : Int), [], (0 : Int), (-1 : Int), (-1 : Int), [], [], (List.replicate 256 false))) := by kernel_rfl
end Go.Rx
/-! The document's reading of attributes. -/
namespace Go.Rx
open Go.Ab Go.L7
set_option linter.unusedVariables false
set_option linter.unusedSimpArgs false
set_option maxRecDepth 100000
/-- A raw at its place. -/
def ins (x : api_Raw) : List api_Raw → List api_Raw
  | [] => [x]
  | r :: l => if x.fType < r.fType then x :: r :: l else r :: ins x l
theorem ins_perm (x : api_Raw) : ∀ l, (ins x l).Perm (l ++ [x])
  | [] => .refl _
  | r :: l => by
    unfold ins
    split
    · exact (List.perm_append_singleton x (r :: l)).symm
    · exact (ins_perm x l).cons r
theorem ins_pair (x : api_Raw) : ∀ {l : List api_Raw}, l.Pairwise (fun a b => a.fType < b.fType) → (∀ r ∈ l, r.fType ≠ x.fType) → (ins x l).Pairwise (fun a b => a.fType < b.fType)
  | [], _, _ => by simp [ins]
  | r :: l, h, hn => by
    obtain ⟨h1, h2⟩ := List.pairwise_cons.1 h
    unfold ins
    split
    · rename_i hlt
      refine .cons (fun y hy => ?_) h
      rcases List.mem_cons.1 hy with rfl | hy
      · exact hlt
      · have := h1 y hy; omega
    · rename_i hlt
      refine .cons (fun y hy => ?_) (ins_pair x h2 fun y hy => hn y (by simp [hy]))
      have := (ins_perm x l).mem_iff.1 hy
      rcases List.mem_append.1 this with hy | hy
      · exact h1 y hy
      · rw [List.mem_singleton] at hy; subst hy
        have := hn r (by simp)
        omega
theorem sortR_perm (l : List api_Raw) : (sortR l).Perm l := List.mergeSort_perm _ _
theorem sortR_pair {l : List api_Raw} (h : (l.map (·.fType)).Nodup) : (sortR l).Pairwise fun a b => a.fType < b.fType := by
  have h1 : (sortR l).Pairwise fun a b => a.fType ≤ b.fType := by
    have := List.pairwise_mergeSort (le := fun (x y : api_Raw) => decide (x.fType ≤ y.fType)) (fun a b c h1 h2 => by simp at *; omega) (fun a b => by simp; omega) l
    exact this.imp fun h => by simpa using h
  have h2 : ((sortR l).map (·.fType)).Nodup := (((sortR_perm l).map (·.fType)).nodup_iff).2 h
  rw [List.nodup_iff_pairwise_ne, List.pairwise_map] at h2
  exact (h1.and h2).imp fun h => by have := h.1; have := h.2; omega
theorem sortR_ins {l : List api_Raw} {x : api_Raw} (h : (l.map (·.fType)).Nodup) (hn : ∀ r ∈ l, r.fType ≠ x.fType) : ins x (sortR l) = sortR (l ++ [x]) :=
  (sortR_of (ins_pair x (sortR_pair h) fun r hr => hn r ((sortR_perm l).mem_iff.1 hr)) (((ins_perm x (sortR l)).trans ((sortR_perm l).append_right [x])).symm)).symm
theorem raw_loop {l : List api_Raw} {x : api_Raw} {R : List api_Raw → Prop} (hl : l.length ≤ 1000) (hR : R (ins x l)) :
    LOOP (fun (h : List api_Raw × Bool × Int) (J1 : List api_Raw × Bool × Int → Prop) => bif decide (h.2.2 < (l.length : Int)) then h.1.length = h.1.length ∧ JP (fun (z : List api_Raw × Bool) => z.1.length = z.1.length ∧ J1 (z.1, z.2, IntKind.i64.wrap (h.2.2 + 1)))
        (fun (J : List api_Raw × Bool → Prop) => h.1.length = h.1.length ∧ JP (fun (z : List api_Raw × Bool) => (0 ≤ h.2.2 ∧ h.2.2 < (l.length : Int)) ∧ (z.1.length = z.1.length ∧ (z.1.length + [ix l h.2.2].length) * 40 ≤ 140737488355328) ∧ ∀ y : List api_Raw, y = z.1 ++ [ix l h.2.2] → y.length = y.length ∧ J (y, z.2))
          (fun (J : List api_Raw × Bool → Prop) => ((!h.2.1) = true → 0 ≤ h.2.2 ∧ h.2.2 < (l.length : Int)) ∧ bif !h.2.1 && decide (x.fType < (ix l h.2.2).fType) then (h.1.length = h.1.length ∧ (h.1.length + [x].length) * 40 ≤ 140737488355328) ∧ ∀ y1 : List api_Raw, y1 = h.1 ++ [x] → y1.length = y1.length ∧ J (y1, true) else h.1.length = h.1.length ∧ J (h.1, h.2.1)))
      else h.1.length = h.1.length ∧ JP (fun (z : List api_Raw) => R z) (fun (J : List api_Raw → Prop) => bif !h.2.1 then (h.1.length = h.1.length ∧ (h.1.length + [x].length) * 40 ≤ 140737488355328) ∧ ∀ y1 : List api_Raw, y1 = h.1 ++ [x] → y1.length = y1.length ∧ J y1 else h.1.length = h.1.length ∧ J h.1)) ([], false, 0) := by
  have hlen := (ins_perm x l).length_eq
  rw [List.length_append, List.length_singleton] at hlen
  have bd : ∀ {a b : List api_Raw}, a ++ b = ins x l → a.length ≤ 1001 := fun e => by have := congrArg List.length e; rw [List.length_append] at this; omega
  refine listLoop (l := l) (by omega) (fun (s : List api_Raw × Bool) i => (s.1, s.2, i)) (fun y => y.2.2) (fun _ _ => rfl) (fun i r s => (s.1 ++ if s.2 then r else ins x r) = ins x l) (s0 := ([], false)) rfl ?_ ?_
  · rintro ⟨o, p⟩ i s r J k1 k2 k3 k4 k5 k6 hJ
    simp only at k6
    have ho := bd k6
    refine bif_of (fun _ => ⟨by trivial, ?_⟩) (fun h => absurd k2 (of_decide_eq_false h))
    simp only [k3]
    refine JP.of (fun z => (z.1 ++ if z.2 then r else ins x r) = ins x l) (fun J' hJ' => ⟨by trivial, ?_⟩) fun z hz => ⟨by trivial, hJ z hz⟩
    refine JP.of (fun z => (z.1 ++ if z.2 then s :: r else s :: ins x r) = ins x l) (fun J'' hJ'' => ⟨fun _ => ⟨k1, k2⟩, bif_of (fun e => ⟨⟨by trivial, ?_⟩, fun y hy => ⟨by trivial, hJ'' _ ?_⟩⟩) (fun e => ⟨by trivial, hJ'' _ ?_⟩)⟩) fun z hz => ⟨⟨k1, k2⟩, ⟨by trivial, ?_⟩, fun y hy => ⟨by trivial, hJ' _ ?_⟩⟩
    · show (o.length + 1) * 40 ≤ 140737488355328
      omega
    · simp only [Bool.and_eq_true, Bool.not_eq_true', decide_eq_true_eq] at e
      have e1 : p = false := e.1
      rw [e1] at k6
      have hins : ins x (s :: r) = x :: s :: r := by show (if x.fType < s.fType then _ else _) = _; rw [if_pos e.2]
      rw [if_neg (by simp), hins] at k6
      have hy : y = o ++ [x] := hy
      show (y ++ if true = true then s :: r else s :: ins x r) = _
      rw [if_pos rfl, hy, ← k6, List.append_assoc]; rfl
    · simp only [Bool.and_eq_false_iff, Bool.not_eq_false', decide_eq_false_iff_not] at e
      show (o ++ if p = true then s :: r else s :: ins x r) = _
      rw [← k6]
      cases p with
      | true => rfl
      | false =>
        have e2 : ¬ x.fType < s.fType := by
          rcases e with e | e
          · cases e
          · exact e
        have hins : ins x (s :: r) = s :: ins x r := by show (if x.fType < s.fType then _ else _) = _; rw [if_neg e2]
        rw [if_neg (by simp), if_neg (by simp), hins]
    · show (z.1.length + 1) * 40 ≤ 140737488355328
      have := bd hz; omega
    · show (y ++ if z.2 = true then r else ins x r) = _
      have hy : y = z.1 ++ [s] := hy
      rw [← hz, hy]
      split <;> simp
  · rintro ⟨o, p⟩ i J rfl k6
    simp only at k6
    have ho := bd k6
    refine bif_of (fun h => absurd (of_decide_eq_true h) (by simp)) (fun _ => ⟨by trivial, ?_⟩)
    refine JP.of (fun z => z = ins x l) (fun J' hJ' => bif_of (fun e => ⟨⟨by trivial, ?_⟩, fun y hy => ⟨by trivial, hJ' _ ?_⟩⟩) (fun e => ⟨by trivial, hJ' _ ?_⟩)) fun z hz => by rw [hz]; exact hR
    · show (o.length + 1) * 40 ≤ 140737488355328
      omega
    · have e : p = false := by simpa using e
      have hy : y = o ++ [x] := hy
      rw [hy, ← k6, e]; rfl
    · have e : p = true := by simpa using e
      show o = _
      rw [← k6, e]; simp
theorem flagKn : ∀ (f : Fin 256) (t : Fin 9), 1 ≤ t.val → (decide (iand .i64 ((f.val : Nat) : Int) (if (ix kinds ((t.val : Nat) : Int)).fflags = 192 then 192 else 224) ≠ (ix kinds ((t.val : Nat) : Int)).fflags) =
    (!decide (IntKind.i64.wrap (IntKind.i64.wrap ((((f.val : Nat) : Int)).tdiv 64) * 64) = ix [0, 64, 64, 64, 128, 64, 64, 192, 192] ((t.val : Nat) : Int)) || decide ((IntKind.i64.wrap ((((f.val : Nat) : Int)).tdiv 32)).tmod 2 = 1) && decide (((t.val : Nat) : Int) < 7))) := by decide +kernel
theorem flag_kn {f t : Int} (hf : 0 ≤ f ∧ f ≤ 255) (ht : 1 ≤ t ∧ t ≤ 8) : decide (iand .i64 f (if (ix kinds t).fflags = 192 then 192 else 224) ≠ (ix kinds t).fflags) =
    (!decide (IntKind.i64.wrap (IntKind.i64.wrap (f.tdiv 64) * 64) = ix [0, 64, 64, 64, 128, 64, 64, 192, 192] t) || decide ((IntKind.i64.wrap (f.tdiv 32)).tmod 2 = 1) && decide (t < 7)) := by
  have := flagKn ⟨f.toNat, by omega⟩ ⟨t.toNat, by omega⟩ (by show 1 ≤ t.toNat; omega)
  simp only [show ((f.toNat : Nat) : Int) = f by omega, show ((t.toNat : Nat) : Int) = t by omega] at this
  exact this
theorem sizeKn : ∀ t : Fin 9, 1 ≤ t.val → ix [0, 1, -1, 4, 4, 4, 0, 8, -1] ((t.val : Nat) : Int) = (ix kinds ((t.val : Nat) : Int)).fsize ∧ ix [0, 64, 64, 64, 128, 64, 64, 192, 192] ((t.val : Nat) : Int) = (ix kinds ((t.val : Nat) : Int)).fflags := by decide +kernel
theorem size_kn {t : Int} (ht : 1 ≤ t ∧ t ≤ 8) : ix [0, 1, -1, 4, 4, 4, 0, 8, -1] t = (ix kinds t).fsize ∧ ix [0, 64, 64, 64, 128, 64, 64, 192, 192] t = (ix kinds t).fflags := by
  have := sizeKn ⟨t.toNat, by omega⟩ (by show 1 ≤ t.toNat; omega)
  simp only [show ((t.toNat : Nat) : Int) = t by omega] at this
  exact this
theorem flagOt : ∀ f : Fin 256, (decide (((f.val : Nat) : Int) < 128) = decide (iand .i64 ((f.val : Nat) : Int) 128 = 0)) ∧ (decide ((IntKind.i64.wrap ((((f.val : Nat) : Int)).tdiv 64)).tmod 2 = 0) = decide (iand .i64 ((f.val : Nat) : Int) 64 = 0)) := by decide +kernel
theorem flag_ot {f : Int} (hf : 0 ≤ f ∧ f ≤ 255) : (decide (f < 128) = decide (iand .i64 f 128 = 0)) ∧ (decide ((IntKind.i64.wrap (f.tdiv 64)).tmod 2 = 0) = decide (iand .i64 f 64 = 0)) := by
  have := flagOt ⟨f.toNat, by omega⟩
  simp only [show ((f.toNat : Nat) : Int) = f by omega] at this
  exact this
end Go.Rx
/-! ReadAttrs: the document's reading of attributes, walked. -/
namespace Go.Rx
open Go.Ab Go.L7
set_option linter.unusedVariables false
set_option linter.unusedSimpArgs false
set_option maxRecDepth 100000
theorem three {p : Prop} (h : p) : (p ∧ p) ∧ p := ⟨⟨h, h⟩, h⟩
set_option maxHeartbeats 1000000 in
theorem run19 : RunC C19 6 19 [27, 34] [30] W19 [] := by
  intro (x : List Int) hx hp
  obtain ⟨hp1, hp2⟩ : P17 x := hp _ rfl
  refine of_eq (q19 x (S17 x)) (And.intro (Eq.refl _) ?_)
  generalize hv : S17 x = v
  refine LOOP.of (fun h => ∃ rr, h.2.2.2.2.2.2.2.1 = sortR rr ∧ RdI v h.1 ⟨h.2.1, h.2.2.1, h.2.2.2.1, h.2.2.2.2.1, h.2.2.2.2.2.1, h.2.2.2.2.2.2.1, rr⟩ h.2.2.2.2.2.2.2.2) (fun h => h.1.length) ?_ ?_
  · exact ⟨[], (by simp [sortR]), hp2, hp1, by simpa using hp1, by simp, by simp, fun r hr => (by cases hr), by simp, _, Nat.le_refl _, hv⟩
  rintro ⟨b, o, p, nx, md, pf, cm, ra, seen⟩ ⟨rr, hra, hI⟩ J hJ
  dsimp only at hra hI ⊢
  have hrl : ra.length ≤ 256 := by
    have h1 := hI.rl
    have h2 : seen.count true ≤ seen.length := List.count_le_length
    rw [hI.sn] at h2
    have h1 : rr.length ≤ seen.count true := h1
    rw [hra, (sortR_perm rr).length_eq]; omega
  refine bif_of (fun h => ?_) (fun h => ?_)
  · have h0 : 0 < b.length := by have := of_decide_eq_true h; omega
    have hne : b ≠ [] := fun e => by rw [e] at h0; cases h0
    obtain ⟨f, hf, hd⟩ := hI.dec
    obtain ⟨f, rfl⟩ : ∃ g, f = g + 1 := ⟨f - 1, by omega⟩
    simp only [decA, if_neg hne] at hd
    have rg : ∀ i : Int, 0 ≤ i → i < (b.length : Int) → 0 ≤ ix b i ∧ ix b i ≤ 255 := fun i h1 h2 => hI.by_ _ (ix_mem h1 h2)
    have hll := hI.len
    have hh : headL b = 3 ∨ headL b = 4 := by unfold headL; split <;> simp
    have r0 := rg 0 (by omega) (by omega)
    refine JP.of (fun n => n = (headL b : Int)) (fun J hJ => ⟨⟨Int.le_refl _, by omega⟩, bif_of (fun e => hJ _ ?_) (fun e => hJ _ ?_)⟩) fun hd1 hhd => ?_
    · have e := e
      rw [flag_long r0] at e
      have e : ¬ iand IntKind.u8 (ix b 0) 16 = 0 := by simpa using e
      simp only [headL, if_neg e]; rfl
    · have e := e
      rw [flag_long r0] at e
      have e : iand IntKind.u8 (ix b 0) 16 = 0 := by simpa using e
      simp only [headL, if_pos e]; rfl
    subst hhd
    refine bif_of (fun e => ⟨Nat.zero_le _, ?_⟩) (fun e => ?_)
    · rw [if_pos (by have := of_decide_eq_true e; omega)] at hd
      exact hd
    have hl1 : headL b ≤ b.length := by have := of_decide_eq_false e; omega
    rw [if_neg (by omega)] at hd
    refine ⟨⟨by omega, by omega⟩, ?_⟩
    have r2 := rg 2 (by omega) (by omega)
    have r1 := rg 1 (by omega) (by omega)
    refine JP.of (fun n => n = sizeL b) (fun J hJ => bif_of (fun e => ⟨⟨by omega, ?_⟩, ⟨by omega, ?_⟩, hJ _ ?_⟩) (fun e => hJ _ ?_)) fun sz hsz => ?_
    · have := of_decide_eq_true e; omega
    · have := of_decide_eq_true e; omega
    · have h4 : headL b = 4 := by have := of_decide_eq_true e; omega
      have r3 := rg 3 (by omega) (by omega)
      have hi : ¬ (iand IntKind.u8 (ix b 0) 16 = 0) := by intro hi; simp only [headL, if_pos hi] at h4; omega
      simp only [sizeL, if_neg hi]
      rw [wrap64 (n := ix b 2) (by omega), wrap64 (n := ix b 3) (by omega), wrap64 (n := 256 * ix b 2) (by omega), wrap64 (by omega)]
      omega
    · have h3 : headL b = 3 := by have := of_decide_eq_false e; omega
      have hi : iand IntKind.u8 (ix b 0) 16 = 0 := by
        by_cases hi : iand IntKind.u8 (ix b 0) 16 = 0
        · exact hi
        · simp only [headL, if_neg hi] at h3; omega
      simp only [sizeL, if_pos hi]
      exact wrap64 (by omega)
    have hsr : 0 ≤ sizeL b ∧ sizeL b ≤ 65535 := by
      unfold sizeL
      by_cases hi : iand IntKind.u8 (ix b 0) 16 = 0
      · rw [if_pos hi]; omega
      · have h4 : headL b = 4 := by simp only [headL, if_neg hi]
        have r3 := rg 3 (by omega) (by omega)
        rw [if_neg hi]; omega
    subst hsz
    generalize hk : headL b + (sizeL b).toNat = k at hd
    have hkW : IntKind.i64.wrap ((headL b : Int) + sizeL b) = (k : Int) := by rw [wrap64 (by omega)]; omega
    have hall : sub b 0 (k : Int) = b.take k := by simp [sub]
    have hdat : sub b (headL b : Int) (k : Int) = (b.take k).drop (headL b) := by simp [sub]
    have hrest : sub b (k : Int) (b.length : Int) = b.drop k := sub_drop b (by simp)
    rw [hkW, hall, hdat, hrest, wrap64 (n := ix b 1) (by omega), wrap64 (n := ix b 0) (by omega)]
    refine ⟨fun _ => ⟨by omega, by omega⟩, fun _ => ⟨by omega, by show ix b 1 < 256; omega⟩, bif_of (fun e => ⟨Nat.zero_le _, ?_⟩) (fun e => ?_)⟩
    · rw [if_pos (by have := of_decide_eq_true e; omega)] at hd
      exact hd
    have hl2 : ¬ (b.length : Int) < k := of_decide_eq_false e
    rw [if_neg (by omega)] at hd
    have hkl : k ≤ b.length := by omega
    generalize htt : ix b 1 = t at *
    generalize hff : ix b 0 = fl at *
    have hseen : t.toNat < seen.length := by rw [hI.sn]; omega
    refine ⟨hseen, bif_of (fun e => ⟨Nat.zero_le _, ?_⟩) (fun hs => ?_)⟩
    · rw [if_pos e] at hd; exact hd
    rw [if_neg (by simp [hs])] at hd
    refine ⟨⟨by omega, by omega⟩, ⟨by omega, by omega⟩, ⟨by omega, by omega, by omega⟩, ⟨by omega, by omega, by omega⟩, ⟨by omega, by show t < 256; omega⟩, hseen, ⟨by omega, by omega, by omega⟩, ?_⟩
    have hBa : By (b.take k) := By.take hI.by_ _
    have hal : (b.take k).length = k := by rw [List.length_take]; omega
    generalize hA : b.take k = all at *
    have hBd : By (all.drop (headL b)) := By.drop hBa _
    have hdl : (all.drop (headL b)).length = k - headL b := by rw [List.length_drop, hal]
    generalize hD : all.drop (headL b) = d at *
    have hthrow : ∀ s x, attrA fl t all d ⟨o, p, nx, md, pf, cm, rr⟩ = .inl (s, x) → throwN s x = v := fun s x he => by rw [he] at hd; exact hd
    have hgo : ∀ a', attrA fl t all d ⟨o, p, nx, md, pf, cm, rr⟩ = .inr a' → a'.fComms.length ≤ cm.length + d.length → (a'.fRaws = rr ∨ ∃ fl', a'.fRaws = rr ++ [⟨fl', t, d⟩]) → J (b.drop k, a'.fOrigin, a'.fPath, a'.fNext, a'.fMed, a'.fPref, a'.fComms, sortR a'.fRaws, seen.set t.toNat true) := by
      intro a' he hc hr
      rw [he] at hd
      exact hJ _ ⟨a'.fRaws, rfl, hI.next (t := t) (k := k) (f := f) (d := d) (by omega) hkl (by omega) r1 hs hc hr (by rw [List.length_drop]; omega) hd⟩ (by show (b.drop k).length < b.length; rw [List.length_drop]; omega)
    have hall6 : all.length.le 140737488355328 := Nat.le_trans (show all.length ≤ 549755813888 by omega) (by decide)
    have hd6 : (0 + d.length) * 1 ≤ 140737488355328 := by omega
    have hnew : ∀ r ∈ rr, r.fType ≠ t := fun r hr e => by have := (hI.rt r hr).2.2; rw [e, hs] at this; cases this
    have hins : ∀ fl', ins ⟨fl', t, d⟩ ra = sortR (rr ++ [⟨fl', t, d⟩]) := fun fl' => by rw [hra]; exact sortR_ins hI.nd fun r hr => hnew r hr
    have p55 : (d.length : Int) = 4 → P55 d := fun e => ⟨by omega, By.take hBd 4⟩
    refine bif_of (fun e => ?_) (fun e => ?_)
    · have ht : 1 ≤ t ∧ t ≤ 8 := by simpa using e
      obtain ⟨hsz, hfl⟩ := size_kn ht
      have hfk := flag_kn r0 ht
      simp only [attrA, if_pos ht, knownA] at hthrow hgo
      refine ⟨⟨by omega, by show t < 9; omega⟩, ⟨by omega, by show t < 9; omega⟩, ?_⟩
      rw [hsz]
      refine bif_of (fun e => ⟨hall6, three (hthrow 4 all ?_)⟩) (fun e => ?_)
      · have e := hfk.trans e
        rw [if_pos (of_decide_eq_true e)]
      have e4 := of_decide_eq_false (hfk.trans e)
      simp only [if_neg e4] at hthrow hgo
      rw [hfl]
      refine bif_of (fun e => ⟨hall6, three (hthrow 5 all ?_)⟩) (fun e5 => ?_)
      · have e : ((decide (0 ≤ (ix kinds t).fsize) && !decide ((d.length : Int) = (ix kinds t).fsize)) || (decide (t = 8) && (decide ((d.length : Int) = 0) || !decide ((d.length : Int).tmod 4 = 0)))) = true := e
        rw [if_pos e]
      have hc5 : ((decide (0 ≤ (ix kinds t).fsize) && !decide ((d.length : Int) = (ix kinds t).fsize)) || (decide (t = 8) && (decide ((d.length : Int) = 0) || !decide ((d.length : Int).tmod 4 = 0)))) = false := e5
      simp only [hc5, Bool.false_eq_true, if_false] at hthrow hgo
      simp only [Bool.or_eq_false_iff] at hc5
      obtain ⟨hs5, h85⟩ := hc5
      refine bif_of (fun e => ?_) (fun e => ?_)
      · have e := of_decide_eq_true e
        subst e
        have hk1 : ix kinds 1 = ⟨64, 1⟩ := rfl
        rw [hk1] at hs5
        have hd1 : (d.length : Int) = 1 := by simpa using hs5
        have rd := hBd _ (ix_mem (x := d) (i := 0) (by omega) (by omega))
        rw [wrap64 (n := ix d 0) (by omega)]
        simp only [if_true] at hthrow hgo
        refine ⟨⟨by omega, by omega⟩, bif_of (fun e => ⟨hall6, three (hthrow 6 all ?_)⟩) (fun e => ⟨⟨by omega, by omega⟩, ⟨by trivial, by trivial⟩, ?_⟩)⟩
        · rw [if_pos (of_decide_eq_true e)]
        · have := hgo ⟨ix d 0, p, nx, md, pf, cm, rr⟩ (by rw [if_neg (of_decide_eq_false e)]) (by show cm.length ≤ _; omega) (.inl rfl)
          rw [← hra] at this; exact this
      have n1 := of_decide_eq_false e
      simp only [if_neg n1] at hthrow hgo
      refine bif_of (fun e => ?_) (fun e => ?_)
      · have e := of_decide_eq_true e
        simp only [if_pos e] at hthrow hgo
        refine ⟨⟨by show d.length ≤ 1099511627776; omega, fun c hc => hBd c hc⟩, bif_of (fun e => ⟨Nat.zero_le _, three (hthrow 11 [] ?_)⟩) (fun e => ⟨⟨by trivial, by trivial⟩, ?_⟩)⟩
        · have e : (S65 d).2 = false := by have e' : (!(S65 d).2) = true := e; simpa using e'
          rw [if_neg (by rw [e]; simp)]
        · have e : (S65 d).2 = true := by have e' : (!(S65 d).2) = false := e; simpa using e'
          have := hgo ⟨o, (S65 d).1, nx, md, pf, cm, rr⟩ (by rw [if_pos e]) (by show cm.length ≤ _; omega) (.inl rfl)
          rw [← hra] at this; exact this
      have n2 := of_decide_eq_false e
      simp only [if_neg n2] at hthrow hgo
      have four : t = 3 ∨ t = 4 ∨ t = 5 → (d.length : Int) = 4 := fun h => by
        have : (ix kinds t).fsize = 4 := by rcases h with rfl | rfl | rfl <;> rfl
        rw [this] at hs5
        simpa using hs5
      refine bif_of (fun e => ?_) (fun e => ?_)
      · have e := of_decide_eq_true e
        have hd4 := four (.inl e)
        obtain ⟨s1, s2, s3⟩ := S55_eq (p55 hd4).1 (p55 hd4).2
        simp only [if_pos e] at hthrow hgo
        rw [s1, show IntKind.u32.wrap (S66 d) = S66 d from by show S66 d % 4294967296 = _; omega]
        refine ⟨p55 hd4, bif_of (fun e => ⟨hall6, three (hthrow 8 all ?_)⟩) (fun e => ⟨⟨by trivial, by trivial⟩, ?_⟩)⟩
        · have e : S27 (S66 d) = false := by have e' : (!S27 (S66 d)) = true := e; simpa using e'
          rw [if_neg (by rw [e]; simp)]
        · have e : S27 (S66 d) = true := by have e' : (!S27 (S66 d)) = false := e; simpa using e'
          have := hgo ⟨o, p, S66 d, md, pf, cm, rr⟩ (by rw [if_pos e]) (by show cm.length ≤ _; omega) (.inl rfl)
          rw [← hra] at this; exact this
      have n3 := of_decide_eq_false e
      simp only [if_neg n3] at hthrow hgo
      refine bif_of (fun e => ?_) (fun e => ?_)
      · have e := of_decide_eq_true e
        have hd4 := four (.inr (.inl e))
        obtain ⟨s1, s2, s3⟩ := S55_eq (p55 hd4).1 (p55 hd4).2
        simp only [if_pos e] at hgo
        rw [s1]
        refine ⟨p55 hd4, ⟨by trivial, by trivial⟩, ?_⟩
        have := hgo ⟨o, p, nx, w64 (S66 d), pf, cm, rr⟩ rfl (by show cm.length ≤ _; omega) (.inl rfl)
        rw [← hra, show w64 (S66 d) = S66 d from w64_id (by omega)] at this; exact this
      have n4 := of_decide_eq_false e
      simp only [if_neg n4] at hthrow hgo
      refine bif_of (fun e => ?_) (fun e => ?_)
      · have e := of_decide_eq_true e
        have hd4 := four (.inr (.inr e))
        obtain ⟨s1, s2, s3⟩ := S55_eq (p55 hd4).1 (p55 hd4).2
        simp only [if_pos e] at hgo
        rw [s1]
        refine ⟨p55 hd4, ⟨by trivial, by trivial⟩, ?_⟩
        have := hgo ⟨o, p, nx, md, w64 (S66 d), cm, rr⟩ rfl (by show cm.length ≤ _; omega) (.inl rfl)
        rw [← hra, show w64 (S66 d) = S66 d from w64_id (by omega)] at this; exact this
      have n5 := of_decide_eq_false e
      simp only [if_neg n5] at hthrow hgo
      refine JP.of (fun bb => bb = decide (t = 6 ∨ t = 7)) (fun J hJ => bif_of (fun e => hJ _ ?_) (fun e => hJ _ ?_)) fun bb hbb => ?_
      · have e' := of_decide_eq_true e; simp [e']
      · have e' := of_decide_eq_false e; simp [e']
      subst hbb
      refine bif_of (fun e => ?_) (fun e => ?_)
      · have e := of_decide_eq_true e
        have n8 : ¬ t = 8 := by omega
        simp only [if_neg n8] at hgo
        refine ⟨⟨by trivial, hd6⟩, fun (y : List Int) hy => ?_⟩
        have hy : y = d := hy
        subst hy
        refine raw_loop (x := ⟨(ix kinds t).fflags, t, y⟩) (by omega) ⟨⟨by trivial, by trivial⟩, ?_⟩
        have := hgo ⟨o, p, nx, md, pf, cm, rr ++ [⟨(ix kinds t).fflags, t, y⟩]⟩ rfl (by show cm.length ≤ _; omega) (.inr ⟨_, rfl⟩)
        rw [← hins] at this; exact this
      have n67 := of_decide_eq_false e
      have t8 : t = 8 := by omega
      simp only [if_pos t8] at hthrow hgo
      refine bif_of (fun _ => ?_) (fun e => absurd t8 (of_decide_eq_false e))
      refine bif_of (fun e => ⟨hall6, three (hthrow 9 all ?_)⟩) (fun e => ⟨by trivial, ?_⟩)
      · rw [if_pos (of_decide_eq_true e)]
      have e128 := of_decide_eq_false e
      simp only [if_neg e128] at hgo
      have hcml : cm.length + b.length ≤ 549755813888 := hI.cm
      have hgo := hgo ⟨o, p, nx, md, pf, cm ++ words d.length d, rr⟩ rfl (by have := words_len d.length d; simp only [List.length_append]; omega) (.inl rfl)
      rw [← hra] at hgo
      have h4d : 4 * ((d.length : Int) / 4) = d.length := by
        simp only [t8, decide_true, Bool.true_and, Bool.or_eq_false_iff, Bool.not_eq_false', decide_eq_true_eq] at h85
        have := h85.2
        rw [Int.tmod_eq_emod_of_nonneg (by omega)] at this
        omega
      refine LOOP.of (fun h => ∃ c', h.2 = (o, p, nx, md, pf, c', ra) ∧ 0 ≤ h.1 ∧ h.1 ≤ (d.length : Int) ∧ 4 * (h.1 / 4) = h.1 ∧ c'.length ≤ cm.length + h.1.toNat ∧ c' ++ words (d.drop h.1.toNat).length (d.drop h.1.toNat) = cm ++ words d.length d) (fun h => (d.length - h.1).toNat) ⟨cm, rfl, by show (0 : Int) ≤ 0; omega, by show (0 : Int) ≤ _; omega, rfl, by show cm.length ≤ cm.length + 0; omega, rfl⟩ ?_
      rintro ⟨i, z⟩ ⟨c', hz, i0, i1, i4, i2, i3⟩ J1 hJ1
      dsimp only at hz i0 i1 i2 i3 i4 ⊢
      subst hz
      dsimp only
      refine bif_of (fun e => ?_) (fun e => ?_)
      · have e := of_decide_eq_true e
        have es : sub d i (d.length : Int) = d.drop i.toNat := sub_drop d rfl
        rw [es]
        have hdd : (d.drop i.toNat).length = d.length - i.toNat := List.length_drop ..
        have hQ : P55 (d.drop i.toNat) := ⟨by omega, By.take (By.drop hBd _) 4⟩
        obtain ⟨s1, s2, s3⟩ := S55_eq hQ.1 hQ.2
        rw [s1, show IntKind.u32.wrap (S66 (d.drop i.toNat)) = S66 (d.drop i.toNat) from by show S66 (d.drop i.toNat) % 4294967296 = _; omega, wrap64 (n := i + 4) (by omega)]
        refine ⟨⟨i0, i1, Int.le_refl _⟩, hQ, ⟨by trivial, by show (c'.length + 1) * 4 ≤ 140737488355328; omega⟩, fun (y : List Int) hy => ⟨by trivial, hJ1 _ ⟨y, rfl, by show 0 ≤ i + 4; omega, by show i + 4 ≤ _; omega, by show 4 * ((i + 4) / 4) = i + 4; omega, ?_, ?_⟩ (by show (d.length - (i + 4)).toNat < (d.length - i).toNat; omega)⟩⟩
        · show y.length ≤ cm.length + (i + 4).toNat
          rw [hy, List.length_append, List.length_singleton]; omega
        · show y ++ words (d.drop (i + 4).toNat).length (d.drop (i + 4).toNat) = _
          rw [← i3, hy]
          obtain ⟨m, hm⟩ : ∃ m, (d.drop i.toNat).length = m + 1 := ⟨(d.drop i.toNat).length - 1, by omega⟩
          have hne' : d.drop i.toNat ≠ [] := fun e => by rw [e] at hm; cases hm
          rw [hm, words, if_neg hne', List.append_assoc, List.singleton_append, List.drop_drop, show i.toNat + 4 = (i + 4).toNat by omega]
          rw [words_fuel m (d.drop (i + 4).toNat).length _ (by rw [List.length_drop]; omega) (Nat.le_refl _)]
      · have e := of_decide_eq_false e
        have hd0 : d.drop i.toNat = [] := List.drop_eq_nil_of_le (by omega)
        rw [hd0] at i3
        simp only [words, List.length_nil, List.append_nil] at i3
        refine ⟨⟨by trivial, by trivial⟩, ?_⟩
        rw [i3]
        exact hgo
    · have hnt : ¬ (1 ≤ t ∧ t ≤ 8) := by simpa using e
      obtain ⟨g1, g2⟩ := flag_ot r0
      simp only [attrA, if_neg hnt, otherA] at hthrow hgo
      refine bif_of (fun e => ⟨hall6, hthrow 2 all ?_⟩) (fun e => ?_)
      · rw [if_pos (of_decide_eq_true (g1 ▸ e))]
      have e2 := of_decide_eq_false (g1.symm.trans e)
      simp only [if_neg e2] at hthrow hgo
      refine bif_of (fun e => ?_) (fun e => ?_)
      · have e := of_decide_eq_true (g2.symm.trans e)
        simp only [if_pos e] at hgo
        refine ⟨⟨by trivial, by trivial⟩, ?_⟩
        have := hgo ⟨o, p, nx, md, pf, cm, rr⟩ rfl (by show cm.length ≤ _; omega) (.inl rfl)
        rw [← hra] at this; exact this
      have e := of_decide_eq_false (g2.symm.trans e)
      simp only [if_neg e] at hthrow hgo
      have hdz : (d.length : Int) = sizeL b := by omega
      refine bif_of (fun e => ⟨hall6, hthrow 9 all ?_⟩) (fun e => ?_)
      · have e := of_decide_eq_true e
        rw [if_pos (by omega)]
      have e := of_decide_eq_false e
      simp only [if_neg (show ¬ 255 < (d.length : Int) by omega)] at hgo
      refine bif_of (fun e => ?_) (fun e => ?_)
      · simp only [if_pos (of_decide_eq_true e)] at hgo
        refine ⟨⟨by trivial, hd6⟩, fun (y : List Int) hy => ?_⟩
        have hy : y = d := hy
        subst hy
        refine raw_loop (x := ⟨224, t, y⟩) (by omega) ⟨⟨by trivial, by trivial⟩, ?_⟩
        have := hgo ⟨o, p, nx, md, pf, cm, rr ++ [⟨224, t, y⟩]⟩ rfl (by show cm.length ≤ _; omega) (.inr ⟨_, rfl⟩)
        rw [← hins] at this; exact this
      · simp only [if_neg (of_decide_eq_false e)] at hgo
        refine ⟨⟨by trivial, by trivial⟩, ?_⟩
        have := hgo ⟨o, p, nx, md, pf, cm, rr⟩ rfl (by show cm.length ≤ _; omega) (.inl rfl)
        rw [← hra] at this; exact this
  · have hb0 : b = [] := List.eq_nil_of_length_eq_zero (by have := of_decide_eq_false h; omega)
    obtain ⟨f, hf, hd⟩ := hI.dec
    have hfin : finA ⟨o, p, nx, md, pf, cm, rr⟩ seen = v := by
      rw [← hd]; subst hb0
      cases f <;> simp [decA]
    refine LOOP.of (fun i => 1 ≤ i ∧ i ≤ 4 ∧ ∀ j : Int, 1 ≤ j → j < i → ix seen j = true) (fun i => (4 - i).toNat) ⟨by omega, by omega, fun j h1 h2 => by omega⟩ ?_
    rintro i ⟨i1, i2, i3⟩ J2 hJ2
    refine bif_of (fun e => ?_) (fun e => ?_)
    · have e : i ≤ 3 := of_decide_eq_true e
      refine ⟨⟨by omega, by show i < 256; omega⟩, by rw [hI.sn]; omega, bif_of (fun e2 => ⟨by show (1 : Nat) ≤ _; decide, ?_⟩) (fun e2 => ?_)⟩
      · rw [← hfin]
        simp only [Bool.not_eq_true'] at e2
        rcases (show i = 1 ∨ i = 2 ∨ i = 3 by omega) with rfl | rfl | rfl
        · have e2 : ix seen 1 = false := e2
          simp only [finA, e2]; rfl
        · have e2 : ix seen 2 = false := e2
          simp only [finA, e2, i3 1 (by omega) (by omega)]; rfl
        · have e2 : ix seen 3 = false := e2
          simp only [finA, e2, i3 1 (by omega) (by omega), i3 2 (by omega) (by omega)]; rfl
      · rw [wrap64 (by omega)]
        refine hJ2 _ ⟨by omega, by omega, fun j j1 j2 => ?_⟩ (by omega)
        by_cases hj : j < i
        · exact i3 j j1 hj
        · rw [show j = i by omega]; simpa using e2
    · have e : ¬ i ≤ 3 := of_decide_eq_false e
      have s1 := i3 1 (by omega) (by omega)
      have s2 := i3 2 (by omega) (by omega)
      have s3 := i3 3 (by omega) (by omega)
      rw [← hfin, hra]
      simp only [finA, s1, s2, s3]; rfl
theorem ok19 : Ok19 := con_ok (C := C19) (kok_cons ok30 (kok_cons ok55 (kok_cons ok37 (kk1 ok54)))) mx7 (by kernel_rfl) run19
end Go.Rx
namespace Go.Rx
open Go.Ab Go.L7
set_option maxRecDepth 100000
set_option maxHeartbeats 20000000
set_option linter.unusedVariables false
/-- interregnum/interregnumlaw07.AttrReads -/
noncomputable def C4 : Cfg S := { P := P7, inl := [], K := [(18, ctr P7 [27, 27] [4] (fun x0 x1 => (none, S18 x0 x1))), (13, ctr P7 [27] [4] (fun x0 => (none, S13 x0))), (17, ctr P7 [30] [27, 34] (fun x0 => (some (P17 x0), S17 x0))), (11, ctr P7 [] [4] (none, S11)), (20, ctr P7 [34, 34] [4] (fun x0 x1 => (none, S20 x0 x1))), (19, ctr P7 [30] [27, 34] (fun x0 => (some (P19 x0), S19 x0)))], ann := [] }
abbrev W4 : CT S [4] [30] := (fun x0 => (some (P4 x0), S4 x0))
abbrev Ok4 : Prop := ConOk P7 4 (ctr P7 [30] [4] W4) ∧ ConMon (ctr P7 [30] [4] W4)
theorem q4 (x0 : List Int) (v : HR S [4]) : (Xf C4 6 (emp 0) 4 (argsA C4 [⟨30, x0⟩]) (emp 0) (fun r _ => isR C4.P [4] v r) (fun _ _ => False)) = (bif decide
 ((5000 : Int) < (↑x0.length : Int)) then true = v else (x0.length ≤ nat_lit 549755813888 ∧ ∀ (c : Int), List.Mem c x0 → (0 : Int) ≤ c ∧ c ≤ (255 : Int)) ∧
 (x0.length ≤ nat_lit 549755813888 ∧ ∀ (c : Int), List.Mem c x0 → (0 : Int) ≤ c ∧ c ≤ (255 : Int)) ∧ bif S20 (S17 x0).snd (S19 x0).snd then bif S18 (S17
 x0).fst (S19 x0).fst then bif !decide ((S17 x0).snd.fCode = (0 : Int)) then true = v else S13 (S17 x0).fst = v else false = v else false = v) := by kernel_rfl
end Go.Rx
/-! AttrReads: what is read is good. -/
namespace Go.Rx
open Go.Ab Go.L7
set_option linter.unusedVariables false
set_option linter.unusedSimpArgs false
set_option maxRecDepth 100000
theorem rawsUp_of : ∀ {l : List api_Raw} {p : Option Int}, (∀ r ∈ l, S28 r = true) → l.Pairwise (fun a b => a.fType < b.fType) → (∀ t, p = some t → ∀ r ∈ l, t < r.fType) → rawsUp p l = true
  | [], p, _, _, _ => rfl
  | r :: l, p, h, hp, hb => by
    obtain ⟨h1, h2⟩ := List.pairwise_cons.1 hp
    simp only [rawsUp, Bool.and_eq_true]
    refine ⟨⟨h r (by simp), ?_⟩, rawsUp_of (fun x hx => h x (by simp [hx])) h2 fun t ht x hx => ?_⟩
    · cases p with
      | none => rfl
      | some t => exact decide_eq_true (hb t rfl r (by simp))
    · cases ht; exact h1 x hx
structure GI (a : api_Attrs) (seen : List Bool) : Prop where
  sn : seen.length = 256
  o : 0 ≤ a.fOrigin ∧ a.fOrigin ≤ 2
  p : S26 a.fPath = true
  n : ix seen 3 = true → S27 a.fNext = true
  m : -1 ≤ a.fMed ∧ a.fMed ≤ 4294967295
  q : -1 ≤ a.fPref ∧ a.fPref ≤ 4294967295
  c : a.fComms.length ≤ 32
  c0 : ix seen 8 = false → a.fComms = []
  r : ∀ r ∈ a.fRaws, S28 r = true ∧ ix seen r.fType = true
  nd : (a.fRaws.map (·.fType)).Nodup
theorem S65_good (d : List Int) (h : (S65 d).2 = true) : S26 (S65 d).1 = true := by
  unfold S65 at h ⊢
  generalize decP d.length d = x at h ⊢
  cases x with
  | none => cases h
  | some r =>
    unfold pathOut at h ⊢
    simp only at h ⊢
    split at h
    · rename_i hc; rw [if_pos hc]; exact hc
    · cases h
theorem S66_range {d : List Int} (h : 4 ≤ d.length) (hb : By d) : 0 ≤ S66 d ∧ S66 d ≤ 4294967295 := (S55_eq h (By.take hb 4)).2
theorem words_four : ∀ (f : Nat) (d : List Int), d.length = 4 * (d.length / 4) → (words f d).length ≤ d.length / 4
  | 0, d, _ => by simp [words]
  | f + 1, d, h => by
    simp only [words]
    split
    · simp
    · rename_i hn
      have : 0 < d.length := List.length_pos_iff.2 hn
      have := words_four f (d.drop 4) (by rw [List.length_drop]; omega)
      rw [List.length_drop] at this
      rw [List.length_cons]; omega
theorem GI.keep {a : api_Attrs} {seen : List Bool} (h : GI a seen) {t : Int} (ht : 0 ≤ t ∧ t ≤ 255) (h3 : t ≠ 3) (h8 : t ≠ 8) : GI a (seen.set t.toNat true) := by
  refine ⟨by rw [List.length_set]; exact h.sn, h.o, h.p, fun e => h.n ?_, h.m, h.q, h.c, fun e => h.c0 ?_, fun r hr => ⟨(h.r r hr).1, ?_⟩, h.nd⟩
  · rwa [ix_set_ne (by omega)] at e
  · rwa [ix_set_ne (by omega)] at e
  · have := (h.r r hr).2
    by_cases he : r.fType.toNat = t.toNat
    · rw [ix_set_eq he (by rw [h.sn]; omega)]
    · rw [ix_set_ne he]; exact this
theorem GI.raw {a : api_Attrs} {seen : List Bool} (h : GI a seen) {t fl : Int} {d : List Int} (ht : 0 ≤ t ∧ t ≤ 255) (hs : ix seen t = false) (hS : S28 ⟨fl, t, d⟩ = true) : GI { a with fRaws := a.fRaws ++ [⟨fl, t, d⟩] } (seen.set t.toNat true) := by
  have hc := S28_cases hS
  have h8 : t ≠ 8 ∧ t ≠ 3 := by
    rcases hc with ⟨h1, _⟩ | ⟨h1, _⟩ | ⟨h1, _⟩
    · have h1 : t = 6 := h1; omega
    · have h1 : t = 7 := h1; omega
    · have h1 : 8 < t := h1; omega
  have k := h.keep ht h8.2 h8.1
  refine ⟨k.sn, k.o, k.p, k.n, k.m, k.q, k.c, k.c0, fun r hr => ?_, ?_⟩
  · rcases List.mem_append.1 hr with hr | hr
    · exact k.r r hr
    · rw [List.mem_singleton] at hr; subst hr
      exact ⟨hS, ix_set_eq rfl (by rw [h.sn]; omega)⟩
  · rw [List.map_append, List.nodup_append]
    refine ⟨h.nd, by simp, fun x hx y hy e => ?_⟩
    obtain ⟨r, hr, rfl⟩ := List.mem_map.1 hx
    have : y = t := by simpa using hy
    have h3 := (h.r r hr).2
    rw [e, this, hs] at h3
    cases h3
theorem GI.step {a a' : api_Attrs} {seen : List Bool} (h : GI a seen) {f t : Int} {all d : List Int} (ht : 0 ≤ t ∧ t ≤ 255) (hb : By d) (hs : ix seen t = false) (he : attrA f t all d a = .inr a') : GI a' (seen.set t.toNat true) := by
  by_cases hk : 1 ≤ t ∧ t ≤ 8
  · unfold attrA at he
    rw [if_pos hk] at he
    unfold knownA at he
    generalize (if (ix kinds t).fflags = 192 then (192 : Int) else 224) = mk at he
    split at he
    · cases he
    split at he
    · cases he
    rename_i hc
    have hc : ((decide (0 ≤ (ix kinds t).fsize) && !decide ((d.length : Int) = (ix kinds t).fsize)) || (decide (t = 8) && (decide ((d.length : Int) = 0) || !decide ((d.length : Int).tmod 4 = 0)))) = false := by simpa only [Bool.not_eq_true] using hc
    simp only [Bool.or_eq_false_iff] at hc
    obtain ⟨hs5, h85⟩ := hc
    have sz : ∀ n : Int, (ix kinds t).fsize = n → 0 ≤ n → (d.length : Int) = n := fun n e h0 => by
      rw [e, decide_eq_true h0] at hs5; simpa using hs5
    split at he
    · rename_i e; subst e
      have hd := sz 1 rfl (by omega)
      have rd := hb _ (ix_mem (x := d) (i := 0) (by omega) (by omega))
      split at he
      · cases he
      · cases he
        have k := h.keep (t := 1) (by omega) (by omega) (by omega)
        exact ⟨k.sn, ⟨rd.1, by show ix d 0 ≤ 2; omega⟩, k.p, k.n, k.m, k.q, k.c, k.c0, k.r, k.nd⟩
    split at he
    · rename_i e; subst e
      split at he
      · rename_i hg
        cases he
        have k := h.keep (t := 2) (by omega) (by omega) (by omega)
        exact ⟨k.sn, k.o, S65_good d hg, k.n, k.m, k.q, k.c, k.c0, k.r, k.nd⟩
      · cases he
    split at he
    · rename_i e; subst e
      split at he
      · rename_i hg
        cases he
        refine ⟨by rw [List.length_set]; exact h.sn, h.o, h.p, fun _ => hg, h.m, h.q, h.c, fun e => h.c0 ?_, fun r hr => ⟨(h.r r hr).1, ?_⟩, h.nd⟩
        · rwa [ix_set_ne (by decide)] at e
        · have := (h.r r hr).2
          by_cases he : r.fType.toNat = (3 : Int).toNat
          · rw [ix_set_eq he (by rw [h.sn]; decide)]
          · rw [ix_set_ne he]; exact this
      · cases he
    split at he
    · rename_i e; subst e
      cases he
      have hd := sz 4 rfl (by omega)
      have hr := S66_range (d := d) (by omega) hb
      have k := h.keep (t := 4) (by omega) (by omega) (by omega)
      have e : w64 (S66 d) = S66 d := w64_id (by omega)
      exact ⟨k.sn, k.o, k.p, k.n, by show -1 ≤ w64 (S66 d) ∧ w64 (S66 d) ≤ _; omega, k.q, k.c, k.c0, k.r, k.nd⟩
    split at he
    · rename_i e; subst e
      cases he
      have hd := sz 4 rfl (by omega)
      have hr := S66_range (d := d) (by omega) hb
      have k := h.keep (t := 5) (by omega) (by omega) (by omega)
      have e : w64 (S66 d) = S66 d := w64_id (by omega)
      exact ⟨k.sn, k.o, k.p, k.n, k.m, by show -1 ≤ w64 (S66 d) ∧ w64 (S66 d) ≤ _; omega, k.c, k.c0, k.r, k.nd⟩
    split at he
    · rename_i e; subst e
      split at he
      · cases he
      · rename_i h128
        cases he
        have hc0 := h.c0 hs
        have h4 : d.length = 4 * (d.length / 4) := by
          simp only [decide_true, Bool.true_and, Bool.or_eq_false_iff, Bool.not_eq_false', decide_eq_true_eq] at h85
          have := h85.2
          rw [Int.tmod_eq_emod_of_nonneg (by omega)] at this
          omega
        have hw := words_four d.length d h4
        refine ⟨by rw [List.length_set]; exact h.sn, h.o, h.p, fun e => h.n ?_, h.m, h.q, ?_, fun e => ?_, fun r hr => ⟨(h.r r hr).1, ?_⟩, h.nd⟩
        · rwa [ix_set_ne (by decide)] at e
        · show (a.fComms ++ words d.length d).length ≤ 32
          rw [hc0, List.nil_append]; omega
        · rw [ix_set_eq rfl (by rw [h.sn]; decide)] at e; cases e
        · have := (h.r r hr).2
          by_cases he : r.fType.toNat = (8 : Int).toNat
          · rw [ix_set_eq he (by rw [h.sn]; decide)]
          · rw [ix_set_ne he]; exact this
    · rename_i n1 n2 n3 n4 n5 n8
      cases he
      have e67 : t = 6 ∨ t = 7 := by omega
      refine h.raw ht hs ?_
      rcases e67 with rfl | rfl
      · have hd := sz 0 rfl (by omega)
        have : d = [] := List.eq_nil_of_length_eq_zero (by omega)
        subst this; rfl
      · have hd := sz 8 rfl (by omega)
        unfold S28
        simp only
        rw [if_neg (by decide), if_pos trivial, hd]; rfl
  · unfold attrA at he
    rw [if_neg hk] at he
    unfold otherA at he
    split at he
    · cases he
    split at he
    · cases he; exact h.keep ht (by omega) (by omega)
    split at he
    · cases he
    rename_i h255
    split at he
    · rename_i h8
      cases he
      refine h.raw ht hs ?_
      unfold S28
      simp only
      rw [if_neg (by omega), if_neg (by omega), decide_eq_true h8, decide_eq_true ht.2, decide_eq_true (show True from trivial), decide_eq_true (show (d.length : Int) ≤ 255 by omega)]
      rfl
    · cases he; exact h.keep ht (by omega) (by omega)
theorem decA_good : ∀ (f : Nat) (b : List Int) (a : api_Attrs) (seen : List Bool), By b → GI a seen → (decA f b a seen).2.fCode = 0 → S13 (decA f b a seen).1 = true := by
  have fin : ∀ (a : api_Attrs) (seen : List Bool), GI a seen → (finA a seen).2.fCode = 0 → S13 (finA a seen).1 = true := by
    intro a seen h hc
    unfold finA at hc ⊢
    split at hc
    · cases hc
    split at hc
    · cases hc
    split at hc
    · cases hc
    rename_i e1 e2 e3
    rw [if_neg e1, if_neg e2, if_neg e3]
    have e3 : ix seen 3 = true := by simpa using e3
    have hr : rawsUp none (sortR a.fRaws) = true := rawsUp_of (fun r hr => (h.r r ((sortR_perm _).mem_iff.1 hr)).1) (sortR_pair h.nd) fun t ht => by cases ht
    have ho := h.o
    have hm := h.m
    have hq := h.q
    have hcm := h.c
    unfold S13
    simp only
    rw [h.p, h.n e3, hr, decide_eq_false (show ¬ a.fOrigin < 0 by omega), decide_eq_false (show ¬ 2 < a.fOrigin by omega), decide_eq_false (show ¬ 32 < (a.fComms.length : Int) by omega), decide_eq_true hm.1, decide_eq_true hm.2, decide_eq_true hq.1, decide_eq_true hq.2]
    rfl
  intro f
  induction f with
  | zero => intro b a seen _ h; exact fin a seen h
  | succ f ih =>
    intro b a seen hb h
    unfold decA
    split
    · exact fin a seen h
    split
    · intro hc; cases hc
    split
    · intro hc; cases hc
    split
    · intro hc; cases hc
    rename_i hne hl hsz hs
    have hh : headL b = 3 ∨ headL b = 4 := by unfold headL; split <;> simp
    have r1 := hb _ (ix_mem (x := b) (i := 1) (by omega) (by omega))
    split
    · intro hc; cases hc
    · rename_i a' he
      exact ih _ _ _ (By.drop hb _) (h.step r1 (By.drop (By.take hb _) _) (by simpa using hs) he)
theorem GI0 : GI a0 (List.replicate 256 false) := by
  have hz : ∀ t : Int, ix (List.replicate 256 false) t = false := fun t => by unfold ix; rw [List.getD_eq_getElem?_getD, List.getElem?_replicate]; split <;> rfl
  exact ⟨by simp, by decide, by decide, fun e => (by rw [hz] at e; cases e), by decide, by decide, by decide, fun _ => rfl, fun r hr => (by cases hr), by decide⟩
theorem S17_good {b : List Int} (hb : By b) (h : (S17 b).2.fCode = 0) : S13 (S17 b).1 = true := decA_good _ _ _ _ hb GI0 h
theorem run4 : RunC C4 6 4 [4] [30] W4 [] := by
  intro (x : List Int) hx hp
  have hb : By x := hp _ rfl
  refine of_eq (q4 x true) (bif_of (fun _ => rfl) fun h => ?_)
  have hl := of_decide_eq_false h
  have hP : P17 x := ⟨by omega, hb⟩
  refine ⟨hP, hP, ?_⟩
  show bif S20 (S17 x).2 (S17 x).2 then (bif S18 (S17 x).1 (S17 x).1 then (bif !decide ((S17 x).2.fCode = 0) then true = true else S13 (S17 x).1 = true) else false = true) else false = true
  rw [show S20 (S17 x).2 (S17 x).2 = true from decide_eq_true rfl, show S18 (S17 x).1 (S17 x).1 = true from decide_eq_true rfl]
  refine bif_of (fun _ => bif_of (fun _ => bif_of (fun _ => rfl) fun e => ?_) fun e => Bool.noConfusion e) fun e => Bool.noConfusion e
  exact S17_good hb (by simpa using e)
theorem ok4 (h52 : ConOk P7 52 (.srt (A := S.A) 45 53 Q52 R52)) : Ok4 := con_ok (C := C4) (kok_cons ok18 (kok_cons ok13 (kok_cons (ok17 h52) (kok_cons (ok11 h52) (kok_cons ok20 (kk1 ok19)))))) mx7 (by kernel_rfl) run4
end Go.Rx
/-! What the law AttrReads hands back. -/
namespace Go.Rx
open Go.Ab Go.L7
set_option maxRecDepth 100000
theorem con4 : ∀ (args : List (AV S.A)) (k : AV S.A → Prop), appC (S := S) P7 [4] [30] W4 args k → PFk (S := S) P7 4 (args.map stripA) k := (ok4 h52).1
theorem pf4 (x0 : List Int) (h : P4 x0) : PFk (S := S) P7 4 ([argA (S := S) P7 30 x0].map stripA) (fun q => q = .sc (.bool true)) := by
  refine con4 [argA (S := S) P7 30 x0] _ ?_
  show withP (some (P4 x0)) _
  exact ⟨h, rfl⟩
theorem strip4 (x0 : List Int) : [argA (S := S) P7 30 x0].map stripA = [.sem (SL (eI .u8) x0)] := by kernel_rfl
end Go.Rx
namespace Go.Proofs.YtkmmnfcjbalboaaDoor
open Go.Ab Go.Rx Go.L7
theorem AttrReads_ok (x0 : List Int) (o0 : okL (okI .u8) x0) : PFg S P7 4 [.sem (SL (eI .u8) x0)] (.sc (.bool true)) := by
  have h := pf_of_pfk (pf4 x0 (By.of_ok o0))
  rw [strip4] at h
  exact h
end Go.Proofs.YtkmmnfcjbalboaaDoor
