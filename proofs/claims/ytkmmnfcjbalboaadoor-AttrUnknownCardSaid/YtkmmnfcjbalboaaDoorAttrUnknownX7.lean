import Derived.Test.YtkmmnfcjbalboaaDoorB6
set_option linter.unusedVariables false
set_option linter.unusedSimpArgs false
namespace Go.Rx
open Go.Ab Go.L7
set_option maxRecDepth 100000
set_option maxHeartbeats 20000000
set_option linter.unusedVariables false
/-- interregnum/interregnumlaw07.AttrMissing -/
noncomputable def C7 : Cfg S := { P := P7, inl := [], K := [(15, ctr P7 [30, 30] [4] (fun x0 x1 => (none, S15 x0 x1))), (10, ctr P7 [27] [4] (fun x0 => (none, S10 x0))), (17, ctr P7 [30] [27, 34] (fun x0 => (some (P17 x0), S17 x0))), (11, ctr P7 [] [4] (none, S11)), (14, ctr P7 [27] [4] (fun x0 => (none, S14 x0))), (16, ctr P7 [27] [30] (fun x0 => (some (P16 x0), S16 x0)))], ann := [(7, [(11, .join [(.sl 9, .int .i64)]), (16, .join [(.sl 6, .own 5), (.sl 7, .int .i64)]), (7, .loop [(.sl 6, .own 5), (.sl 7, .int .i64), (.sl 8, .int .i64)])])] }
abbrev W7 : CT S [4] [27, 5] := (fun x0 x1 => (some (PM x0 x1), S7 x0 x1))
abbrev Ok7 : Prop := ConOk P7 7 (ctr P7 [27, 5] [4] W7) ∧ ConMon (ctr P7 [27, 5] [4] W7)
theorem q7 (x0 : api_Attrs) (x1 : Int) (v : HR S [4]) : (Xf C7 6 (emp 0) 7 (argsA C7 [⟨27, x0⟩, ⟨5, x1⟩]) (emp 0) (fun r _ => isR C7.P [4] v r) (fun _ _ =>
 False)) = (bif !S10 x0 then true = v else bif !S14 x0 then true = v else (x0.fPath.length ≤ nat_lit 1099511627776 ∧ x0.fRaws.length ≤ nat_lit 1073741824) ∧
 LOOP (fun (h : List Int × Int × Int) (J : List Int × Int × Int → Prop) => bif decide (h.snd.snd < (↑(S16 x0).length : Int)) then ((0 : Int) ≤ IntKind.i64.wrap
 (h.snd.snd + (2 : Int)) ∧ IntKind.i64.wrap (h.snd.snd + (2 : Int)) < (↑(S16 x0).length : Int)) ∧ JP (fun (h_1 : Int) => ((0 : Int) ≤ IntKind.i64.wrap
 (h.snd.snd + (1 : Int)) ∧ IntKind.i64.wrap (h.snd.snd + (1 : Int)) < (↑(S16 x0).length : Int)) ∧ h.fst.length = h.fst.length ∧ JP (fun (h_2 : List Int × Int)
 => h_2.fst.length = h_2.fst.length ∧ J (h_2.fst, h_2.snd, IntKind.i64.wrap (h.snd.snd + h_1))) fun (J : List Int × Int → Prop) => (decide (IntKind.i64.wrap
 (ix (S16 x0) (IntKind.i64.wrap (h.snd.snd + (1 : Int)))) ≤ (3 : Int)) = true → (0 : Int) ≤ IntKind.u64.wrap (IntKind.i64.wrap (ix (S16 x0) (IntKind.i64.wrap
 (h.snd.snd + (1 : Int)))))) ∧ bif decide (IntKind.i64.wrap (ix (S16 x0) (IntKind.i64.wrap (h.snd.snd + (1 : Int)))) ≤ (3 : Int)) && decide ((x1.fdiv ((2 :
 Int) ^ min (IntKind.u64.wrap (IntKind.i64.wrap (ix (S16 x0) (IntKind.i64.wrap (h.snd.snd + (1 : Int)))))).toNat (nat_lit 8))).tmod (2 : Int) = (1 : Int)) then
 bif decide (h.snd.fst = (0 : Int)) then h.fst.length = h.fst.length ∧ J (h.fst, IntKind.i64.wrap (ix (S16 x0) (IntKind.i64.wrap (h.snd.snd + (1 : Int)))))
 else h.fst.length = h.fst.length ∧ J (h.fst, h.snd.fst) else ((0 : Int) ≤ h.snd.snd ∧ h.snd.snd ≤ IntKind.i64.wrap (h.snd.snd + h_1) ∧ IntKind.i64.wrap
 (h.snd.snd + h_1) ≤ (↑(S16 x0).length : Int)) ∧ (h.fst.length = h.fst.length ∧ (h.fst.length + (sub (S16 x0) h.snd.snd (IntKind.i64.wrap (h.snd.snd +
 h_1))).length) * nat_lit 1 ≤ nat_lit 140737488355328) ∧ ∀ (y : List (Int)), y = h.fst ++ sub (S16 x0) h.snd.snd (IntKind.i64.wrap (h.snd.snd + h_1)) →
 y.length = y.length ∧ J (y, h.snd.fst)) fun (J : Int → Prop) => ((0 : Int) ≤ h.snd.snd ∧ h.snd.snd < (↑(S16 x0).length : Int)) ∧ bif decide ((IntKind.u8.wrap
 ((ix (S16 x0) h.snd.snd).tdiv (16 : Int))).tmod (2 : Int) = (1 : Int)) then ((0 : Int) ≤ IntKind.i64.wrap (h.snd.snd + (2 : Int)) ∧ IntKind.i64.wrap
 (h.snd.snd + (2 : Int)) < (↑(S16 x0).length : Int)) ∧ ((0 : Int) ≤ IntKind.i64.wrap (h.snd.snd + (3 : Int)) ∧ IntKind.i64.wrap (h.snd.snd + (3 : Int)) <
 (↑(S16 x0).length : Int)) ∧ J (IntKind.i64.wrap (IntKind.i64.wrap ((4 : Int) + IntKind.i64.wrap ((256 : Int) * IntKind.i64.wrap (ix (S16 x0) (IntKind.i64.wrap
 (h.snd.snd + (2 : Int)))))) + IntKind.i64.wrap (ix (S16 x0) (IntKind.i64.wrap (h.snd.snd + (3 : Int)))))) else J (IntKind.i64.wrap ((3 : Int) +
 IntKind.i64.wrap (ix (S16 x0) (IntKind.i64.wrap (h.snd.snd + (2 : Int)))))) else (h.fst.length ≤ nat_lit 549755813888 ∧ ∀ (c : Int), List.Mem c h.fst → (0 :
 Int) ≤ c ∧ c ≤ (255 : Int)) ∧ bif decide (h.snd.fst = (0 : Int)) then decide ((S17 h.fst).snd.fCode = (0 : Int)) = v else bif decide ((S17 h.fst).snd.fCode =
 (3 : Int)) && decide ((S17 h.fst).snd.fSub = (3 : Int)) then S15 (S17 h.fst).snd.fData [IntKind.u8.wrap h.snd.fst] = v else false = v) ([], (0 : Int), (0 :
 Int))) := by kernel_rfl
end Go.Rx
/-! AttrMissing: attributes cut out of bytes. -/
namespace Go.Rx
open Go.Ab Go.L7
set_option linter.unusedVariables false
set_option linter.unusedSimpArgs false
set_option maxRecDepth 100000
theorem flagLong : ∀ f : Fin 256, decide ((IntKind.u8.wrap (((f.val : Nat) : Int).tdiv 16)).tmod 2 = 1) = !decide (iand .u8 ((f.val : Nat) : Int) 16 = 0) := by decide +kernel
theorem flag_long {f : Int} (h : 0 ≤ f ∧ f ≤ 255) : decide ((IntKind.u8.wrap (f.tdiv 16)).tmod 2 = 1) = !decide (iand .u8 f 16 = 0) := by
  have := flagLong ⟨f.toNat, by omega⟩
  simp only [show ((f.toNat : Nat) : Int) = f by omega] at this
  exact this
/-- An item of a list of bytes. -/
structure AtI (b : List Int) (n : Nat) (i : It) : Prop where
  ok : i.ok
  le : n + (itB i).length ≤ b.length
  sm : b.length ≤ 400000000
  eq : (b.drop n).take (itB i).length = itB i
theorem AtI.ix {b : List Int} {n : Nat} {i : It} (h : AtI b n i) {k : Nat} (hk : k < (itB i).length) : Go.Ab.ix b ((n : Int) + k) = Go.Ab.ix (itB i) k := by
  unfold Go.Ab.ix
  rw [List.getD_eq_getElem?_getD, List.getD_eq_getElem?_getD, show ((n : Int) + k).toNat = n + k by omega, Int.toNat_natCast, ← h.eq, List.getElem?_take_of_lt hk, List.getElem?_drop]
theorem AtI.sub {b : List Int} {n : Nat} {i : It} (h : AtI b n i) : Go.Ab.sub b n ((n : Int) + (itB i).length) = itB i := by
  unfold Go.Ab.sub
  rw [show ((n : Int) + (itB i).length).toNat = n + (itB i).length by omega, Int.toNat_natCast, List.drop_take, show n + (itB i).length - n = (itB i).length by omega, h.eq]
theorem AtI.f {b : List Int} {n : Nat} {i : It} (h : AtI b n i) : Go.Ab.ix b n = i.f := by
  have := h.ix (k := 0) (by have := (itB_len i).1; omega)
  rw [show (n : Int) + (0 : Nat) = n by omega] at this
  rw [this]; unfold itB; split <;> rfl
theorem AtI.t {b : List Int} {n : Nat} {i : It} (h : AtI b n i) : Go.Ab.ix b ((n : Int) + 1) = i.t := by
  have := h.ix (k := 1) (by have := (itB_len i).1; omega)
  rw [show ((1 : Nat) : Int) = 1 from rfl] at this
  rw [this]; unfold itB; split <;> rfl
theorem w64_nat {n : Int} (h : 0 ≤ n ∧ n ≤ 500000000) : IntKind.i64.wrap n = n := w64_id (by omega)
/-- How many bytes an attribute has. -/
theorem cut_jp {b : List Int} {n : Nat} {i : It} (h : AtI b n i) {at_ : Int} (ha : at_ = n) {R : Int → Prop} (hR : R (itB i).length) :
    JP R fun (J : Int → Prop) => ((0 : Int) ≤ at_ ∧ at_ < (b.length : Int)) ∧ bif decide ((IntKind.u8.wrap ((Go.Ab.ix b at_).tdiv 16)).tmod 2 = 1) then
        ((0 : Int) ≤ IntKind.i64.wrap (at_ + 2) ∧ IntKind.i64.wrap (at_ + 2) < (b.length : Int)) ∧ ((0 : Int) ≤ IntKind.i64.wrap (at_ + 3) ∧ IntKind.i64.wrap (at_ + 3) < (b.length : Int)) ∧
          J (IntKind.i64.wrap (IntKind.i64.wrap (4 + IntKind.i64.wrap (256 * IntKind.i64.wrap (Go.Ab.ix b (IntKind.i64.wrap (at_ + 2))))) + IntKind.i64.wrap (Go.Ab.ix b (IntKind.i64.wrap (at_ + 3)))))
      else J (IntKind.i64.wrap (3 + IntKind.i64.wrap (Go.Ab.ix b (IntKind.i64.wrap (at_ + 2))))) := by
  subst ha
  have hle := h.le
  have hsm := h.sm
  have hl3 := (itB_len i).1
  have hd := h.ok.hl
  refine JP.of (fun m => m = (itB i).length) (fun J hJ => ⟨⟨by omega, by omega⟩, ?_⟩) fun m hm => by rw [hm]; exact hR
  rw [h.f, flag_long h.ok.hf, w64_nat (n := (n : Int) + 2) (by omega)]
  by_cases hz : iand .u8 i.f 16 = 0
  · rw [hz]
    refine bif_of (fun e => absurd e (by simp)) fun _ => hJ _ ?_
    have e2 : Go.Ab.ix b ((n : Int) + 2) = i.d.length := by
      have := h.ix (k := 2) (by omega)
      rw [show ((2 : Nat) : Int) = 2 from rfl] at this
      rw [this]; unfold itB; rw [if_pos hz]; rfl
    have hl : (itB i).length = 3 + i.d.length := by unfold itB; rw [if_pos hz]; simp; omega
    rw [e2, w64_nat (n := (i.d.length : Int)) (by omega), w64_nat (n := 3 + (i.d.length : Int)) (by omega), hl]; omega
  · rw [decide_eq_false hz]
    have hl : (itB i).length = 4 + i.d.length := by unfold itB; rw [if_neg hz]; simp; omega
    refine bif_of (fun _ => ?_) fun e => absurd e (by simp)
    have e2 : Go.Ab.ix b ((n : Int) + 2) = (i.d.length : Int) / 256 := by
      have := h.ix (k := 2) (by omega)
      rw [show ((2 : Nat) : Int) = 2 from rfl] at this
      rw [this]; unfold itB; rw [if_neg hz]; rfl
    have e3 : Go.Ab.ix b ((n : Int) + 3) = (i.d.length : Int) % 256 := by
      have := h.ix (k := 3) (by omega)
      rw [show ((3 : Nat) : Int) = 3 from rfl] at this
      rw [this]; unfold itB; rw [if_neg hz]; rfl
    rw [w64_nat (n := (n : Int) + 3) (by omega)]
    refine ⟨⟨by omega, by omega⟩, ⟨by omega, by omega⟩, hJ _ ?_⟩
    rw [e2, e3, w64_nat (n := (i.d.length : Int) / 256) (by omega), w64_nat (n := 256 * ((i.d.length : Int) / 256)) (by omega), w64_nat (n := 4 + 256 * ((i.d.length : Int) / 256)) (by omega), w64_nat (n := (i.d.length : Int) % 256) (by omega), w64_nat (by omega), hl]
    omega
theorem at_of {L done todo : List It} {i : It} (hL : L = done ++ i :: todo) (hok : ∀ j ∈ L, j.ok) (hs : (L.flatMap itB).length ≤ 400000000) : AtI (L.flatMap itB) (done.flatMap itB).length i := by
  have e : L.flatMap itB = done.flatMap itB ++ (itB i ++ todo.flatMap itB) := by rw [hL, List.flatMap_append, List.flatMap_cons]
  refine ⟨hok i (by rw [hL]; simp), ?_, hs, ?_⟩
  · rw [e]; simp only [List.length_append]; omega
  · rw [e, List.drop_left, List.take_left]
/-! ### What lacks -/
def dropT (k t : Int) : Bool := decide (t ≤ 3) && decide ((k.fdiv (2 ^ min t.toNat 8)).tmod 2 = 1)
def keepL (k : Int) (l : List It) : List It := l.filter fun i => !dropT k i.t
def leastL (k : Int) (l : List It) : Int := match l.filter fun i => dropT k i.t with
  | [] => 0
  | i :: _ => i.t
theorem leastL_snoc {k : Int} {l : List It} {i : It} (h : ∀ j ∈ l, 1 ≤ j.t) : leastL k (l ++ [i]) = if dropT k i.t then (if leastL k l = 0 then i.t else leastL k l) else leastL k l := by
  unfold leastL
  rw [List.filter_append]
  have hp : ∀ j ∈ l.filter (fun i => dropT k i.t), 1 ≤ j.t := fun j hj => h j (List.mem_filter.1 hj).1
  generalize l.filter (fun i => dropT k i.t) = m at hp
  cases m with
  | nil =>
    rw [List.nil_append]
    cases hd : dropT k i.t with
    | true => rw [List.filter_cons_of_pos (by exact hd)]; rfl
    | false => rw [List.filter_cons_of_neg (by simp [hd])]; rfl
  | cons x m =>
    have := hp x (by simp)
    rw [List.cons_append]
    show x.t = if dropT k i.t = true then if x.t = 0 then i.t else x.t else x.t
    rw [if_neg (show ¬ x.t = 0 by omega)]
    split <;> rfl
theorem its_1 {a : api_Attrs} (h : Gd7 a) : ∀ i ∈ its a, 1 ≤ i.t := by
  intro i hi
  have hp := its_pair h
  unfold its at hi hp
  rw [List.cons_append, List.cons_append] at hi hp
  rcases List.mem_cons.1 hi with rfl | hi
  · exact (by decide : (1 : Int) ≤ 1)
  · have := (List.pairwise_cons.1 hp).1 i hi
    have e : (pit 64 1 [a.fOrigin]).t = 1 := rfl
    omega
theorem keep_any {a : api_Attrs} {k : Int} {t : Int} (h1 : (its a).any (fun i => decide (i.t = t)) = true) : (keepL k (its a)).any (fun i => decide (i.t = t)) = !dropT k t := by
  rw [Bool.eq_iff_iff]
  unfold keepL
  constructor
  · intro h
    obtain ⟨i, hi, he⟩ := List.any_eq_true.1 h
    have he := of_decide_eq_true he
    have := (List.mem_filter.1 hi).2
    rwa [he] at this
  · intro h
    obtain ⟨i, hi, he⟩ := List.any_eq_true.1 h1
    have he' := of_decide_eq_true he
    exact List.any_eq_true.2 ⟨i, List.mem_filter.2 ⟨hi, by rw [he']; exact h⟩, he⟩
theorem leastL_its {a : api_Attrs} (h : Gd7 a) (k : Int) : leastL k (its a) = if dropT k 1 then 1 else if dropT k 2 then 2 else if dropT k 3 then 3 else 0 := by
  have hp := its_pair h
  have e : ∃ r, its a = pit 64 1 [a.fOrigin] :: pit 64 2 (S23 a.fPath) :: pit 64 3 (put4 a.fNext) :: r := ⟨_, by unfold its; rfl⟩
  obtain ⟨r, hr⟩ := e
  rw [hr] at hp ⊢
  have h3 : ∀ i ∈ r, 3 < i.t := fun i hi => (List.pairwise_cons.1 (List.pairwise_cons.1 (List.pairwise_cons.1 hp).2).2).1 i hi
  have hr0 : r.filter (fun i => dropT k i.t) = [] := List.filter_eq_nil_iff.2 fun i hi => by
    have := h3 i hi
    unfold dropT
    rw [decide_eq_false (by omega)]; simp
  unfold leastL
  cases d1 : dropT k 1 with
  | true => rw [List.filter_cons_of_pos (by exact d1)]; rfl
  | false =>
    rw [List.filter_cons_of_neg (by simp [pit, d1])]
    cases d2 : dropT k 2 with
    | true => rw [List.filter_cons_of_pos (by exact d2)]; rfl
    | false =>
      rw [List.filter_cons_of_neg (by simp [pit, d2])]
      cases d3 : dropT k 3 with
      | true => rw [List.filter_cons_of_pos (by exact d3)]; rfl
      | false => rw [List.filter_cons_of_neg (by simp [pit, d3]), hr0]; rfl
theorem sub_flat {α : Type} {f : α → List Int} {l m : List α} (h : l.Sublist m) : (l.flatMap f).length ≤ (m.flatMap f).length := by
  induction h with
  | slnil => simp
  | cons x _ ih => rw [List.flatMap_cons, List.length_append]; omega
  | cons_cons x _ ih => rw [List.flatMap_cons, List.flatMap_cons, List.length_append, List.length_append]; omega
/-- What is left is read: the least that lacks is told. -/
theorem read_keep {a : api_Attrs} (h : Gd7 a) (k : Int) : if leastL k (its a) = 0 then S17 ((keepL k (its a)).flatMap itB) = (a, ⟨0, 0, []⟩) else S17 ((keepL k (its a)).flatMap itB) = throwN 3 [leastL k (its a)] ∧ 1 ≤ leastL k (its a) ∧ leastL k (its a) ≤ 3 := by
  rw [leastL_its h]
  have hz : ∀ t : Int, ix (List.replicate 256 false) t = false := fun t => by unfold ix; rw [List.getD_eq_getElem?_getD, List.getElem?_replicate]; split <;> rfl
  have hg : ∀ i ∈ keepL k (its a), Acc i := fun i hi => its_acc h i (List.mem_filter.1 hi).1
  have hok : ∀ i ∈ keepL k (its a), i.ok := fun i hi => (hg i hi).ok
  have hn : ((keepL k (its a)).map It.t).Nodup := (its_nodup h).sublist (List.filter_sublist.map _)
  have hf := foldI_acc (keepL k (its a)) [] a0 (List.replicate 256 false) (by simp) hg hn fun i _ => hz _
  rw [List.append_nil] at hf
  have hs : ∀ u : Int, 0 ≤ u ∧ u ≤ 255 → ix (seenL (keepL k (its a)) (List.replicate 256 false)) u = (keepL k (its a)).any fun i => decide (i.t = u) := fun u hu => by
    rw [seenL_ix _ _ u (by simp) hok hu, hz]; simp
  have hall : S17 ((keepL k (its a)).flatMap itB) = finA (updL (keepL k (its a)) a0) (seenL (keepL k (its a)) (List.replicate 256 false)) := by rw [S17_items hok, hf]; rfl
  have t1 := keep_any (k := k) its_has.1 (a := a)
  have t2 := keep_any (k := k) its_has.2.1 (a := a)
  have t3 := keep_any (k := k) its_has.2.2 (a := a)
  have f1 := hs 1 (by omega)
  have f2 := hs 2 (by omega)
  have f3 := hs 3 (by omega)
  rw [t1] at f1
  rw [t2] at f2
  rw [t3] at f3
  cases d1 : dropT k 1 with
  | true =>
    rw [if_pos rfl, if_neg (by decide)]
    refine ⟨?_, by decide, by decide⟩
    rw [hall]; unfold finA; rw [f1, d1]; rfl
  | false =>
    simp only [Bool.false_eq_true, if_false]
    cases d2 : dropT k 2 with
    | true =>
      rw [if_pos rfl, if_neg (by decide)]
      refine ⟨?_, by decide, by decide⟩
      rw [hall]; unfold finA; rw [f1, d1, f2, d2]; rfl
    | false =>
      simp only [Bool.false_eq_true, if_false]
      cases d3 : dropT k 3 with
      | true =>
        rw [if_pos rfl, if_neg (by decide)]
        refine ⟨?_, by decide, by decide⟩
        rw [hall]; unfold finA; rw [f1, d1, f2, d2, f3, d3]; rfl
      | false =>
        simp only [Bool.false_eq_true, if_false, if_true]
        have : keepL k (its a) = its a := by
          refine List.filter_eq_self.2 fun i hi => ?_
          by_cases ht : i.t ≤ 3
          · have h1 := its_1 h i hi
            have : i.t = 1 ∨ i.t = 2 ∨ i.t = 3 := by omega
            rcases this with e | e | e <;> rw [e] <;> simp [d1, d2, d3]
          · unfold dropT; rw [decide_eq_false ht]; rfl
        rw [this]
        exact read_perm h (.refl _)
theorem u64_id {n : Int} (h : 0 ≤ n ∧ n ≤ 255) : (IntKind.u64.wrap (IntKind.i64.wrap n)).toNat = n.toNat ∧ 0 ≤ IntKind.u64.wrap (IntKind.i64.wrap n) := by
  rw [show IntKind.i64.wrap n = n from w64_id (by omega)]
  have : IntKind.u64.wrap n = n := by show n % 18446744073709551616 = n; omega
  rw [this]
  exact ⟨rfl, h.1⟩
theorem run7 : RunC C7 6 7 [4] [27, 5] W7 [] := by
  intro (x : api_Attrs) hx (k : Int) hk hp
  obtain ⟨hok, hk0, hk1⟩ : PM x k := hp _ rfl
  refine of_eq (q7 x k true) (bif_of (fun _ => rfl) fun h => ?_)
  have hs : S10 x = true := by simpa using h
  have hl := small_len hok hs
  have hb := S12_len hok hs
  have hP : P12 x := ⟨by omega, by omega⟩
  refine bif_of (fun _ => rfl) fun h => ⟨hP, ?_⟩
  have h : S13 x = true := by have h' : S14 x = true := (by simpa using h); exact h'
  have g := gd_of hok hs h
  have e16 : S16 x = (its x).flatMap itB := its_bytes g h
  have hsm : ((its x).flatMap itB).length ≤ 400000000 := by rw [← its_bytes g h]; exact hb.1
  rw [e16]
  refine LOOP.of (fun y => ∃ done todo, its x = done ++ todo ∧ y.2.2 = ((done.flatMap itB).length : Int) ∧ y.1 = (keepL k done).flatMap itB ∧ y.2.1 = leastL k done) (fun y => (((its x).flatMap itB).length - y.2.2).toNat) ⟨[], its x, rfl, rfl, rfl, rfl⟩ ?_
  rintro ⟨s, l, at_⟩ ⟨done, todo, hd, h1, h2, h3⟩ J hJ
  simp only at h1 h2 h3
  refine bif_of (fun hlt => ?_) (fun hlt => ?_)
  · have hlt : at_ < (((its x).flatMap itB).length : Int) := of_decide_eq_true hlt
    cases todo with
    | nil => rw [List.append_nil] at hd; rw [h1, ← hd] at hlt; omega
    | cons i todo =>
    have hA := at_of hd (its_ok g) hsm
    have hle := hA.le
    have hi3 := (itB_len i).1
    have ht := hA.ok.ht
    have hd' : its x = (done ++ [i]) ++ todo := by rw [hd]; simp
    have hfl : ((done ++ [i]).flatMap itB).length = (done.flatMap itB).length + (itB i).length := by rw [List.flatMap_append, List.length_append]; simp
    have hdn : ∀ j ∈ done, 1 ≤ j.t := fun j hj => its_1 g j (by rw [hd]; simp [hj])
    have hsl : s.length ≤ 400000000 := by
      rw [h2]
      have : (keepL k done).Sublist (its x) := List.filter_sublist.trans (by rw [hd]; exact List.sublist_append_left _ _)
      exact Nat.le_trans (sub_flat this) hsm
    have w1 : IntKind.i64.wrap (at_ + 1) = at_ + 1 := w64_nat (by omega)
    have w2 : IntKind.i64.wrap (at_ + 2) = at_ + 2 := w64_nat (by omega)
    have wn : IntKind.i64.wrap (at_ + (itB i).length) = at_ + (itB i).length := w64_nat (by omega)
    have et : Go.Ab.ix ((its x).flatMap itB) (IntKind.i64.wrap (at_ + 1)) = i.t := by rw [w1, h1]; exact hA.t
    refine ⟨⟨by show 0 ≤ IntKind.i64.wrap (at_ + 2); omega, by show IntKind.i64.wrap (at_ + 2) < _; omega⟩, cut_jp hA h1 ⟨⟨by show 0 ≤ IntKind.i64.wrap (at_ + 1); omega, by show IntKind.i64.wrap (at_ + 1) < _; omega⟩, by trivial, ?_⟩⟩
    refine JP.of (fun z => z.1 = (keepL k (done ++ [i])).flatMap itB ∧ z.2 = leastL k (done ++ [i])) (fun J' hJ' => ⟨fun _ => ?_, ?_⟩) fun z hz => ⟨by trivial, hJ _ ⟨done ++ [i], todo, hd', ?_, hz.1, hz.2⟩ ?_⟩
    · show 0 ≤ IntKind.u64.wrap (IntKind.i64.wrap (Go.Ab.ix _ (IntKind.i64.wrap (at_ + 1))))
      rw [et]; exact (u64_id ht).2
    · have hc : (decide (IntKind.i64.wrap (Go.Ab.ix ((its x).flatMap itB) (IntKind.i64.wrap (at_ + 1))) ≤ 3) && decide ((k.fdiv (2 ^ min (IntKind.u64.wrap (IntKind.i64.wrap (Go.Ab.ix ((its x).flatMap itB) (IntKind.i64.wrap (at_ + 1))))).toNat 8)).tmod 2 = 1)) = dropT k i.t := by
        rw [et, (u64_id ht).1, show IntKind.i64.wrap i.t = i.t from w64_id (by omega)]; rfl
      have hsn := leastL_snoc (k := k) (i := i) hdn
      have hkp : keepL k (done ++ [i]) = keepL k done ++ (if dropT k i.t then [] else [i]) := by
        unfold keepL
        rw [List.filter_append]
        cases hq : dropT k i.t with
        | true => rw [List.filter_cons_of_neg (by simp [hq])]; rfl
        | false => rw [List.filter_cons_of_pos (by simp [hq])]; rfl
      refine bif_of (fun e => ?_) (fun e => ?_)
      · have e : dropT k i.t = true := hc ▸ e
        rw [e] at hsn hkp
        rw [if_pos rfl] at hsn hkp
        rw [List.append_nil] at hkp
        refine bif_of (fun e0 => ⟨by trivial, hJ' _ ⟨?_, ?_⟩⟩) (fun e0 => ⟨by trivial, hJ' _ ⟨?_, ?_⟩⟩)
        · show s = _; rw [hkp]; exact h2
        · have e0 : l = 0 := of_decide_eq_true e0
          show IntKind.i64.wrap (Go.Ab.ix _ (IntKind.i64.wrap (at_ + 1))) = _
          rw [et, hsn, ← h3, if_pos e0]; exact w64_id (by omega)
        · show s = _; rw [hkp]; exact h2
        · have e0 : ¬ l = 0 := of_decide_eq_false e0
          show l = _
          rw [hsn, ← h3, if_neg e0]
      · have e : dropT k i.t = false := hc ▸ e
        rw [e] at hsn hkp
        rw [if_neg (by simp)] at hsn hkp
        have esub : Go.Ab.sub ((its x).flatMap itB) at_ (IntKind.i64.wrap (at_ + (itB i).length)) = itB i := by rw [wn, h1]; exact hA.sub
        refine ⟨⟨by show 0 ≤ at_; omega, by show at_ ≤ IntKind.i64.wrap (at_ + (itB i).length); omega, by show IntKind.i64.wrap (at_ + (itB i).length) ≤ _; omega⟩, ⟨by trivial, ?_⟩, fun y hy => ⟨by trivial, hJ' _ ⟨?_, ?_⟩⟩⟩
        · show (s.length + (Go.Ab.sub _ at_ (IntKind.i64.wrap (at_ + (itB i).length))).length) * 1 ≤ 140737488355328
          rw [esub]; omega
        · show y = _
          have hy' : y = s ++ Go.Ab.sub ((its x).flatMap itB) at_ (IntKind.i64.wrap (at_ + (itB i).length)) := hy
          rw [hy', esub, hkp, List.flatMap_append, h2]; simp
        · show l = _
          rw [hsn, h3]
    · show IntKind.i64.wrap (at_ + (itB i).length) = _
      rw [wn, hfl, h1]; omega
    · show (((its x).flatMap itB).length - IntKind.i64.wrap (at_ + (itB i).length)).toNat < (((its x).flatMap itB).length - at_).toNat
      rw [wn]; omega
  · have hlt : ¬ at_ < (((its x).flatMap itB).length : Int) := of_decide_eq_false hlt
    have ht0 : todo = [] := by
      cases todo with
      | nil => rfl
      | cons i todo =>
        have hA := at_of hd (its_ok g) hsm
        have hle := hA.le
        have hi3 := (itB_len i).1
        omega
    rw [ht0, List.append_nil] at hd
    subst hd
    have hr := read_keep g k
    have hsub : (keepL k (its x)).Sublist (its x) := List.filter_sublist
    have hQ : P17 s := ⟨by rw [h2]; exact Nat.le_trans (sub_flat hsub) (Nat.le_trans hsm (by decide)), by rw [h2]; exact items_by fun i hi => its_ok g i (hsub.subset hi)⟩
    refine ⟨hQ, bif_of (fun e => ?_) (fun e => ?_)⟩
    · have e : l = 0 := of_decide_eq_true e
      rw [← h3, if_pos e, ← h2] at hr
      show decide ((S17 s).2.fCode = 0) = true
      rw [hr]; rfl
    · have e : ¬ l = 0 := of_decide_eq_false e
      rw [← h3, if_neg e, ← h2] at hr
      show bif decide ((S17 s).2.fCode = 3) && decide ((S17 s).2.fSub = 3) then S15 (S17 s).2.fData [IntKind.u8.wrap l] = true else false = true
      rw [hr.1]
      have : IntKind.u8.wrap l = l := by show l % 256 = l; omega
      rw [this]
      show S15 [l] [l] = true
      exact decide_eq_true rfl
theorem ok7 (h52 : ConOk P7 52 (.srt (A := S.A) 45 53 Q52 R52)) : Ok7 := con_ok (C := C7) (kok_cons ok15 (kok_cons ok10 (kok_cons (ok17 h52) (kok_cons (ok11 h52) (kok_cons ok14 (kk1 ok16)))))) mx7 (by kernel_rfl) run7
end Go.Rx
namespace Go.Rx
open Go.Ab Go.L7
set_option maxRecDepth 100000
set_option maxHeartbeats 20000000
set_option linter.unusedVariables false
/-- interregnum/interregnumlaw07.AttrOrder -/
noncomputable def C6 : Cfg S := { P := P7, inl := [], K := [(18, ctr P7 [27, 27] [4] (fun x0 x1 => (none, S18 x0 x1))), (10, ctr P7 [27] [4] (fun x0 => (none, S10 x0))), (17, ctr P7 [30] [27, 34] (fun x0 => (some (P17 x0), S17 x0))), (11, ctr P7 [] [4] (none, S11)), (14, ctr P7 [27] [4] (fun x0 => (none, S14 x0))), (16, ctr P7 [27] [30] (fun x0 => (some (P16 x0), S16 x0)))], ann := [(6, [(15, .loop [(.sl 10, .own 5), (.sl 11, .int .i64)]), (10, .join [(.sl 8, .int .i64)]), (6, .loop [(.sl 6, .own 30), (.sl 7, .int .i64)])])] }
abbrev W6 : CT S [4] [27, 5] := (fun x0 x1 => (some (P6 x0 x1), S6 x0 x1))
abbrev Ok6 : Prop := ConOk P7 6 (ctr P7 [27, 5] [4] W6) ∧ ConMon (ctr P7 [27, 5] [4] W6)
theorem q6 (x0 : api_Attrs) (x1 : Int) (v : HR S [4]) : (Xf C6 6 (emp 0) 6 (argsA C6 [⟨27, x0⟩, ⟨5, x1⟩]) (emp 0) (fun r _ => isR C6.P [4] v r) (fun _ _ =>
 False)) = (bif !S10 x0 then true = v else bif !S14 x0 then true = v else (x0.fPath.length ≤ nat_lit 1099511627776 ∧ x0.fRaws.length ≤ nat_lit 1073741824) ∧
 LOOP (fun (h : List (List Int) × Int) (J : List (List Int) × Int → Prop) => bif decide (h.snd < (↑(S16 x0).length : Int)) then ((0 : Int) ≤ IntKind.i64.wrap
 (h.snd + (2 : Int)) ∧ IntKind.i64.wrap (h.snd + (2 : Int)) < (↑(S16 x0).length : Int)) ∧ JP (fun (h_1 : Int) => ((0 : Int) ≤ h.snd ∧ h.snd ≤ IntKind.i64.wrap
 (h.snd + h_1) ∧ IntKind.i64.wrap (h.snd + h_1) ≤ (↑(S16 x0).length : Int)) ∧ (h.fst.length = h.fst.length ∧ (h.fst.length + [sub (S16 x0) h.snd
 (IntKind.i64.wrap (h.snd + h_1))].length) * nat_lit 24 ≤ nat_lit 140737488355328) ∧ ∀ (y : List (List Int)), y = h.fst ++ [sub (S16 x0) h.snd
 (IntKind.i64.wrap (h.snd + h_1))] → y.length = y.length ∧ J (y, IntKind.i64.wrap (h.snd + h_1))) fun (J : Int → Prop) => ((0 : Int) ≤ h.snd ∧ h.snd < (↑(S16
 x0).length : Int)) ∧ bif decide ((IntKind.u8.wrap ((ix (S16 x0) h.snd).tdiv (16 : Int))).tmod (2 : Int) = (1 : Int)) then ((0 : Int) ≤ IntKind.i64.wrap (h.snd
 + (2 : Int)) ∧ IntKind.i64.wrap (h.snd + (2 : Int)) < (↑(S16 x0).length : Int)) ∧ ((0 : Int) ≤ IntKind.i64.wrap (h.snd + (3 : Int)) ∧ IntKind.i64.wrap (h.snd
 + (3 : Int)) < (↑(S16 x0).length : Int)) ∧ J (IntKind.i64.wrap (IntKind.i64.wrap ((4 : Int) + IntKind.i64.wrap ((256 : Int) * IntKind.i64.wrap (ix (S16 x0)
 (IntKind.i64.wrap (h.snd + (2 : Int)))))) + IntKind.i64.wrap (ix (S16 x0) (IntKind.i64.wrap (h.snd + (3 : Int)))))) else J (IntKind.i64.wrap ((3 : Int) +
 IntKind.i64.wrap (ix (S16 x0) (IntKind.i64.wrap (h.snd + (2 : Int)))))) else ((↑h.fst.length : Int) = (0 : Int) → False) ∧ LOOP (fun (h_1 : List Int × Int) (J
 : List Int × Int → Prop) => bif decide (h_1.snd < (↑h.fst.length : Int)) then ((↑h.fst.length : Int) = (0 : Int) → False) ∧ ((0 : Int) ≤ (IntKind.i64.wrap
 (h_1.snd + (IntKind.i64.wrap x1).tmod (↑h.fst.length : Int))).tmod (↑h.fst.length : Int) ∧ (IntKind.i64.wrap (h_1.snd + (IntKind.i64.wrap x1).tmod
 (↑h.fst.length : Int))).tmod (↑h.fst.length : Int) < (↑h.fst.length : Int)) ∧ (h_1.fst.length = h_1.fst.length ∧ (h_1.fst.length + (ix h.fst
 ((IntKind.i64.wrap (h_1.snd + (IntKind.i64.wrap x1).tmod (↑h.fst.length : Int))).tmod (↑h.fst.length : Int))).length) * nat_lit 1 ≤ nat_lit 140737488355328) ∧
 ∀ (y : List (Int)), y = h_1.fst ++ ix h.fst ((IntKind.i64.wrap (h_1.snd + (IntKind.i64.wrap x1).tmod (↑h.fst.length : Int))).tmod (↑h.fst.length : Int)) →
 y.length = y.length ∧ J (y, IntKind.i64.wrap (h_1.snd + (1 : Int))) else (h_1.fst.length ≤ nat_lit 549755813888 ∧ ∀ (c : Int), List.Mem c h_1.fst → (0 : Int)
 ≤ c ∧ c ≤ (255 : Int)) ∧ ((0 : Int) ≤ (IntKind.i64.wrap x1).tmod (↑h.fst.length : Int) ∧ (IntKind.i64.wrap x1).tmod (↑h.fst.length : Int) < (↑h.fst.length :
 Int)) ∧ (nat_lit 0 = nat_lit 0 ∧ (nat_lit 0 + h_1.fst.length) * nat_lit 1 ≤ nat_lit 140737488355328) ∧ ∀ (y : List (Int)), y = [] ++ h_1.fst → (y.length =
 y.length ∧ (y.length + (ix h.fst ((IntKind.i64.wrap x1).tmod (↑h.fst.length : Int))).length) * nat_lit 1 ≤ nat_lit 140737488355328) ∧ ∀ (y_1 : List (Int)),
 y_1 = y ++ ix h.fst ((IntKind.i64.wrap x1).tmod (↑h.fst.length : Int)) → (y_1.length ≤ nat_lit 549755813888 ∧ ∀ (c : Int), List.Mem c y_1 → (0 : Int) ≤ c ∧ c
 ≤ (255 : Int)) ∧ bif decide ((S17 h_1.fst).snd.fCode = (0 : Int)) then (S18 x0 (S17 h_1.fst).fst && decide ((S17 y_1).snd.fCode = (3 : Int)) && decide ((S17
 y_1).snd.fSub = (1 : Int)) && decide ((↑(S17 y_1).snd.fData.length : Int) = (0 : Int))) = v else false = v) ([], (0 : Int))) ([], (0 : Int))) := by kernel_rfl
end Go.Rx
/-! AttrOrder: the attributes turned about. -/
namespace Go.Rx
open Go.Ab Go.L7
set_option linter.unusedVariables false
set_option linter.unusedSimpArgs false
set_option maxRecDepth 100000
theorem rot_get {α : Type} {L : List α} {k i : Nat} (hk : k < L.length) (hi : i < L.length) : (L.drop k ++ L.take k)[i]? = L[(i + k) % L.length]? := by
  by_cases h : i < L.length - k
  · rw [List.getElem?_append_left (by rw [List.length_drop]; exact h), List.getElem?_drop, Nat.mod_eq_of_lt (by omega), Nat.add_comm]
  · rw [List.getElem?_append_right (by rw [List.length_drop]; omega), List.length_drop, List.getElem?_take_of_lt (by omega)]
    have : (i + k) % L.length = i - (L.length - k) := by
      rw [Nat.mod_eq_sub_mod (by omega), Nat.mod_eq_of_lt (by omega)]; omega
    rw [this]
theorem rot_perm {α : Type} (L : List α) (k : Nat) : (L.drop k ++ L.take k).Perm L := by
  have h : (L.drop k ++ L.take k).Perm (L.take k ++ L.drop k) := List.perm_append_comm
  rwa [List.take_append_drop] at h
theorem read_twice {a : api_Attrs} (h : Gd7 a) {l : List It} (hp : l.Perm (its a)) {i : It} (hi : i ∈ its a) : S17 ((l ++ [i]).flatMap itB) = throwN 1 [] := by
  have hz : ∀ t : Int, ix (List.replicate 256 false) t = false := fun t => by unfold ix; rw [List.getD_eq_getElem?_getD, List.getElem?_replicate]; split <;> rfl
  have hg : ∀ j ∈ l, Acc j := fun j hj => its_acc h j (hp.mem_iff.1 hj)
  have hn : (l.map It.t).Nodup := ((hp.map It.t).nodup_iff).2 (its_nodup h)
  have hok := its_ok h
  rw [S17_items fun j hj => by
    rcases List.mem_append.1 hj with hj | hj
    · exact (hg j hj).ok
    · rw [List.mem_singleton] at hj; subst hj; exact hok _ hi]
  rw [foldI_acc l [i] a0 _ (by simp) hg hn fun j _ => hz _]
  rw [foldI, seenL_ix _ _ _ (by simp) (fun j hj => (hg j hj).ok) (hok i hi).ht, hz]
  rw [if_pos]
  rw [Bool.false_or]
  exact List.any_eq_true.2 ⟨i, hp.mem_iff.2 hi, decide_eq_true rfl⟩
theorem its_ne {a : api_Attrs} : 0 < (its a).length := by unfold its; simp
theorem run6 : RunC C6 6 6 [4] [27, 5] W6 [] := by
  intro (x : api_Attrs) hx (k : Int) hk hp
  obtain ⟨hok, hk0, hk1⟩ : P6 x k := hp _ rfl
  refine of_eq (q6 x k true) (bif_of (fun _ => rfl) fun h => ?_)
  have hs : S10 x = true := by simpa using h
  have hl := small_len hok hs
  have hb := S12_len hok hs
  have hP : P12 x := ⟨by omega, by omega⟩
  refine bif_of (fun _ => rfl) fun h => ⟨hP, ?_⟩
  have h : S13 x = true := by have h' : S14 x = true := (by simpa using h); exact h'
  have g := gd_of hok hs h
  have e16 : S16 x = (its x).flatMap itB := its_bytes g h
  have hsm : ((its x).flatMap itB).length ≤ 400000000 := by rw [← its_bytes g h]; exact hb.1
  have hil : (its x).length ≤ 6006 := Nat.le_trans its_len (by omega)
  rw [e16]
  refine LOOP.of (fun y => ∃ done todo, its x = done ++ todo ∧ y.2 = ((done.flatMap itB).length : Int) ∧ y.1 = done.map itB) (fun y => (((its x).flatMap itB).length - y.2).toNat) ⟨[], its x, rfl, rfl, rfl⟩ ?_
  rintro ⟨s, at_⟩ ⟨done, todo, hd, h1, h2⟩ J hJ
  simp only at h1 h2
  refine bif_of (fun hlt => ?_) (fun hlt => ?_)
  · have hlt : at_ < (((its x).flatMap itB).length : Int) := of_decide_eq_true hlt
    cases todo with
    | nil => rw [List.append_nil] at hd; rw [h1, ← hd] at hlt; omega
    | cons i todo =>
    have hA := at_of hd (its_ok g) hsm
    have hle := hA.le
    have hi3 := (itB_len i).1
    have hd' : its x = (done ++ [i]) ++ todo := by rw [hd]; simp
    have hfl : ((done ++ [i]).flatMap itB).length = (done.flatMap itB).length + (itB i).length := by rw [List.flatMap_append, List.length_append]; simp
    have hsl : s.length ≤ 6006 := by
      have := congrArg List.length hd
      rw [List.length_append] at this
      rw [h2, List.length_map]; omega
    have w2 : IntKind.i64.wrap (at_ + 2) = at_ + 2 := w64_nat (by omega)
    have wn : IntKind.i64.wrap (at_ + (itB i).length) = at_ + (itB i).length := w64_nat (by omega)
    have esub : Go.Ab.sub ((its x).flatMap itB) at_ (IntKind.i64.wrap (at_ + (itB i).length)) = itB i := by rw [wn, h1]; exact hA.sub
    refine ⟨⟨by show 0 ≤ IntKind.i64.wrap (at_ + 2); omega, by show IntKind.i64.wrap (at_ + 2) < _; omega⟩, cut_jp hA h1 ⟨⟨by show 0 ≤ at_; omega, by show at_ ≤ IntKind.i64.wrap (at_ + (itB i).length); omega, by show IntKind.i64.wrap (at_ + (itB i).length) ≤ _; omega⟩, ⟨by trivial, by show (s.length + 1) * 24 ≤ 140737488355328; omega⟩, fun y hy => ⟨by trivial, hJ _ ⟨done ++ [i], todo, hd', ?_, ?_⟩ ?_⟩⟩⟩
    · show IntKind.i64.wrap (at_ + (itB i).length) = _
      rw [wn, hfl, h1]; omega
    · show y = _
      have hy' : y = s ++ [Go.Ab.sub ((its x).flatMap itB) at_ (IntKind.i64.wrap (at_ + (itB i).length))] := hy
      rw [hy', esub, h2, List.map_append]; rfl
    · show (((its x).flatMap itB).length - IntKind.i64.wrap (at_ + (itB i).length)).toNat < (((its x).flatMap itB).length - at_).toNat
      rw [wn]; omega
  · have hlt : ¬ at_ < (((its x).flatMap itB).length : Int) := of_decide_eq_false hlt
    have ht0 : todo = [] := by
      cases todo with
      | nil => rfl
      | cons i todo =>
        have hA := at_of hd (its_ok g) hsm
        have hle := hA.le
        have hi3 := (itB_len i).1
        omega
    rw [ht0, List.append_nil] at hd
    subst hd
    have hn0 := its_ne (a := x)
    have hsn : s.length = (its x).length := by rw [h2, List.length_map]
    have hz : ((s.length : Nat) : Int) = 0 → False := by omega
    have wk : IntKind.i64.wrap k = k := w64_id (by omega)
    have ekk : (IntKind.i64.wrap k).tmod (s.length : Int) = ((k.toNat % s.length : Nat) : Int) := by
      rw [wk, Int.tmod_eq_emod_of_nonneg (by omega), Int.natCast_emod]; congr 1; omega
    have hkl : k.toNat % s.length < s.length := Nat.mod_lt _ (by omega)
    generalize hq : k.toNat % s.length = q at ekk hkl
    have getS : ∀ {j : Nat} {i : It}, (its x)[j]? = some i → Go.Ab.ix s (j : Int) = itB i := by
      intro j i e
      unfold Go.Ab.ix
      rw [List.getD_eq_getElem?_getD, Int.toNat_natCast, h2, List.getElem?_map, e]; rfl
    refine ⟨hz, ?_⟩
    show LOOP (fun (h_1 : List Int × Int) (J : List Int × Int → Prop) => bif decide (h_1.2 < (s.length : Int)) then _ else _) _
    rw [ekk]
    refine listLoop (l := s) (by omega) (fun (o : List Int) i => (o, i)) (fun y => y.2) (fun _ _ => rfl) (fun i r o => o = (((its x).drop q ++ (its x).take q).take i.toNat).flatMap itB) (s0 := []) rfl ?_ ?_
    · rintro o i c r J' k1 k2 k3 k4 k5 k6 hJ'
      have hiN : i.toNat < (its x).length := by omega
      have hw : IntKind.i64.wrap (i + (q : Int)) = i + q := w64_nat (by omega)
      have hmod : (IntKind.i64.wrap (i + (q : Int))).tmod (s.length : Int) = (((i.toNat + q) % (its x).length : Nat) : Int) := by
        rw [hw, Int.tmod_eq_emod_of_nonneg (by omega), hsn, Int.natCast_emod]; congr 1; omega
      have hml : (i.toNat + q) % (its x).length < (its x).length := Nat.mod_lt _ (by omega)
      have hrg := rot_get (L := its x) (k := q) (i := i.toNat) (by omega) hiN
      have hge : ∃ it, (its x)[(i.toNat + q) % (its x).length]? = some it := ⟨_, List.getElem?_eq_getElem hml⟩
      obtain ⟨it, hit⟩ := hge
      have hmem : it ∈ its x := List.mem_of_getElem? hit
      have hix := getS hit
      have hitl : (itB it).length ≤ 65539 := by have := (itB_len it).2; have := (its_ok g it hmem).hl; omega
      have hol : o.length ≤ 400000000 := by
        rw [k6]
        refine Nat.le_trans (flat_items_len _ fun j hj => its_ok g j ((rot_perm (its x) q).mem_iff.1 (List.mem_of_mem_take hj))) ?_
        have : ((((its x).drop q ++ (its x).take q)).take i.toNat).length ≤ 6006 := by
          rw [List.length_take, List.length_append, List.length_drop, List.length_take]; omega
        omega
      refine bif_of (fun _ => ⟨hz, ⟨?_, ?_⟩, ⟨by trivial, ?_⟩, fun y hy => ⟨by trivial, hJ' y ?_⟩⟩) (fun h => absurd k2 (of_decide_eq_false h))
      · show 0 ≤ (IntKind.i64.wrap (i + (q : Int))).tmod (s.length : Int)
        rw [hmod]; omega
      · show (IntKind.i64.wrap (i + (q : Int))).tmod (s.length : Int) < (s.length : Int)
        rw [hmod]; omega
      · show (o.length + (Go.Ab.ix s ((IntKind.i64.wrap (i + (q : Int))).tmod (s.length : Int))).length) * 1 ≤ 140737488355328
        rw [hmod, hix]; omega
      · have hy' : y = o ++ Go.Ab.ix s ((IntKind.i64.wrap (i + (q : Int))).tmod (s.length : Int)) := hy
        rw [hy', hmod, hix, k6, show (i + 1).toNat = i.toNat + 1 by omega, List.take_add_one, hrg, hit]
        simp
    · rintro o i J' rfl k6
      have ho : o = ((its x).drop q ++ (its x).take q).flatMap itB := by
        rw [k6, List.take_of_length_le]
        rw [(rot_perm (its x) q).length_eq]; omega
      have hge : ∃ it, (its x)[q]? = some it := ⟨_, List.getElem?_eq_getElem (by omega)⟩
      obtain ⟨it, hit⟩ := hge
      have hmem : it ∈ its x := List.mem_of_getElem? hit
      have hix := getS hit
      have hitl : (itB it).length ≤ 65539 := by have := (itB_len it).2; have := (its_ok g it hmem).hl; omega
      have hrok : ∀ j ∈ (its x).drop q ++ (its x).take q, j.ok := fun j hj => its_ok g j ((rot_perm (its x) q).mem_iff.1 hj)
      have hol : o.length ≤ 400000000 := by
        rw [ho]
        refine Nat.le_trans (flat_items_len _ hrok) ?_
        rw [(rot_perm (its x) q).length_eq]; omega
      have hby : By o := by rw [ho]; exact items_by hrok
      have hQ : P17 o := ⟨by omega, hby⟩
      refine bif_of (fun h => absurd (of_decide_eq_true h) (by simp)) (fun _ => ⟨hQ, ⟨by show (0 : Int) ≤ (q : Int); omega, by show (q : Int) < (s.length : Int); omega⟩, ⟨by trivial, ?_⟩, fun y hy => ?_⟩)
      · show (0 + o.length) * 1 ≤ 140737488355328
        omega
      have hy : y = o := hy
      refine ⟨⟨by trivial, ?_⟩, fun y1 hy1 => ?_⟩
      · show (y.length + (Go.Ab.ix s (q : Int)).length) * 1 ≤ 140737488355328
        rw [hix, hy]; omega
      have hy1 : y1 = o ++ itB it := by
        have e : y1 = y ++ Go.Ab.ix s (q : Int) := hy1
        rw [e, hix, hy]
      have hy2 : y1 = ((its x).drop q ++ (its x).take q ++ [it]).flatMap itB := by
        rw [hy1, ho, List.flatMap_append (ys := [it])]; simp
      have hQ1 : P17 y1 := ⟨by rw [hy1, List.length_append]; omega, by rw [hy1]; exact .append hby (its_ok g it hmem).by_⟩
      refine ⟨hQ1, ?_⟩
      have r1 := read_perm g (rot_perm (its x) q)
      have r2 := read_twice g (rot_perm (its x) q) hmem
      rw [← ho] at r1
      rw [← hy2] at r2
      show bif decide ((S17 o).2.fCode = 0) then (S18 x (S17 o).1 && decide ((S17 y1).2.fCode = 3) && decide ((S17 y1).2.fSub = 1) && decide (((S17 y1).2.fData.length : Int) = 0)) = true else false = true
      rw [r1, r2]
      show (S18 x x && _ && _ && _) = true
      rw [show S18 x x = true from decide_eq_true rfl]; rfl
theorem ok6 (h52 : ConOk P7 52 (.srt (A := S.A) 45 53 Q52 R52)) : Ok6 := con_ok (C := C6) (kok_cons ok18 (kok_cons ok10 (kok_cons (ok17 h52) (kok_cons (ok11 h52) (kok_cons ok14 (kk1 ok16)))))) mx7 (by kernel_rfl) run6
end Go.Rx
namespace Go.Rx
open Go.Ab Go.L7
set_option maxRecDepth 100000
set_option maxHeartbeats 20000000
set_option linter.unusedVariables false
/-- interregnum/interregnumlaw07.AttrUnknown -/
noncomputable def C9 : Cfg S := { P := P7, inl := [], K := [(15, ctr P7 [30, 30] [4] (fun x0 x1 => (none, S15 x0 x1))), (18, ctr P7 [27, 27] [4] (fun x0 x1 => (none, S18 x0 x1))), (10, ctr P7 [27] [4] (fun x0 => (none, S10 x0))), (17, ctr P7 [30] [27, 34] (fun x0 => (some (P17 x0), S17 x0))), (11, ctr P7 [] [4] (none, S11)), (14, ctr P7 [27] [4] (fun x0 => (none, S14 x0))), (16, ctr P7 [27] [30] (fun x0 => (some (P16 x0), S16 x0)))], ann := [(9, [(10, .join [(.bx 4, .bx 27)])])] }
abbrev W9 : CT S [4] [27, 5, 5, 30] := (fun x0 x1 x2 x3 => (some (P9 x0 x1 x2 x3), S9 x0 x1 x2 x3))
abbrev Ok9 : Prop := ConOk P7 9 (ctr P7 [27, 5, 5, 30] [4] W9) ∧ ConMon (ctr P7 [27, 5, 5, 30] [4] W9)
theorem q9 (x0 : api_Attrs) (x1 : Int) (x2 : Int) (x3 : List Int) (v : HR S [4]) : (Xf C9 6 (emp 0) 9 (argsA C9 [⟨27, x0⟩, ⟨5, x1⟩, ⟨5, x2⟩, ⟨30, x3⟩]) (emp 0)
 (fun r _ => isR C9.P [4] v r) (fun _ _ => False)) = (bif !S10 x0 then true = v else bif !S14 x0 || decide (x1 < (9 : Int)) || decide ((200 : Int) <
 (↑x3.length : Int)) || decide ((0 : Int) < (↑x0.fRaws.length : Int)) then true = v else ([iandNot IntKind.u8 x2 (16 : Int), x1, IntKind.u8.wrap (↑x3.length :
 Int)].length = [iandNot IntKind.u8 x2 (16 : Int), x1, IntKind.u8.wrap (↑x3.length : Int)].length ∧ ([iandNot IntKind.u8 x2 (16 : Int), x1, IntKind.u8.wrap
 (↑x3.length : Int)].length + x3.length) * nat_lit 1 ≤ nat_lit 140737488355328) ∧ ∀ (y : List (Int)), y = [iandNot IntKind.u8 x2 (16 : Int), x1,
 IntKind.u8.wrap (↑x3.length : Int)] ++ x3 → (nat_lit 0 = nat_lit 0 ∧ (nat_lit 0 + y.length) * nat_lit 1 ≤ nat_lit 140737488355328) ∧ ∀ (y_1 : List (Int)), y_1
 = [] ++ y → (x0.fPath.length ≤ nat_lit 1099511627776 ∧ x0.fRaws.length ≤ nat_lit 1073741824) ∧ (y_1.length = y_1.length ∧ (y_1.length + (S16 x0).length) *
 nat_lit 1 ≤ nat_lit 140737488355328) ∧ ∀ (y_2 : List (Int)), y_2 = y_1 ++ S16 x0 → (y_2.length ≤ nat_lit 549755813888 ∧ ∀ (c : Int), List.Mem c y_2 → (0 :
 Int) ≤ c ∧ c ≤ (255 : Int)) ∧ bif decide (iandNot IntKind.u8 x2 (16 : Int) < (128 : Int)) then bif decide ((S17 y_2).snd.fCode = (3 : Int)) && decide ((S17
 y_2).snd.fSub = (2 : Int)) then S15 (S17 y_2).snd.fData y = v else false = v else JP (fun (h : api_Attrs) => bif decide ((S17 y_2).snd.fCode = (0 : Int)) then
 S18 h (S17 y_2).fst = v else false = v) fun (J : api_Attrs → Prop) => bif decide ((IntKind.u8.wrap ((iandNot IntKind.u8 x2 (16 : Int)).tdiv (64 : Int))).tmod
 (2 : Int) = (1 : Int)) then J (api_Attrs.mk x0.fOrigin x0.fPath x0.fNext x0.fMed x0.fPref x0.fComms [api_Raw.mk (224 : Int) (IntKind.i64.wrap x1) x3]) else J
 x0) := by kernel_rfl
end Go.Rx
/-! AttrUnknown. -/
namespace Go.Rx
open Go.Ab Go.L7
set_option linter.unusedVariables false
set_option linter.unusedSimpArgs false
set_option maxRecDepth 100000
theorem flagUn : ∀ f : Fin 256, (decide (0 ≤ iandNot .u8 ((f.val : Nat) : Int) 16) && decide (iandNot .u8 ((f.val : Nat) : Int) 16 ≤ 255) && decide (iand .u8 (iandNot .u8 ((f.val : Nat) : Int) 16) 16 = 0)
    && (decide (iandNot .u8 ((f.val : Nat) : Int) 16 < 128) == decide (iand .i64 (iandNot .u8 ((f.val : Nat) : Int) 16) 128 = 0))
    && (decide ((IntKind.u8.wrap ((iandNot .u8 ((f.val : Nat) : Int) 16).tdiv 64)).tmod 2 = 1) == !decide (iand .i64 (iandNot .u8 ((f.val : Nat) : Int) 16) 64 = 0))) = true := by decide +kernel
theorem run9 : RunC C9 6 9 [4] [27, 5, 5, 30] W9 [] := by
  intro (x : api_Attrs) hx (t : Int) ht (f : Int) hf (d : List Int) hd hp
  obtain ⟨hok, ht0, ht1, hf0, hf1, hby⟩ : P9 x t f d := hp _ rfl
  refine of_eq (q9 x t f d true) (bif_of (fun _ => rfl) fun h => ?_)
  have hs : S10 x = true := by simpa using h
  have hl := small_len hok hs
  have hb := S12_len hok hs
  have hP : P12 x := ⟨by omega, by omega⟩
  refine bif_of (fun _ => rfl) fun h => ?_
  simp only [Bool.or_eq_false_iff, decide_eq_false_iff_not] at h
  obtain ⟨⟨⟨h14, ht9⟩, hd200⟩, hr0⟩ := h
  have h : S13 x = true := by have h' : S14 x = true := (by simpa using h14); exact h'
  have g := gd_of hok hs h
  have hraw : x.fRaws = [] := List.eq_nil_of_length_eq_zero (by omega)
  have hF := flagUn ⟨f.toNat, by omega⟩
  simp only [show ((f.toNat : Nat) : Int) = f by omega] at hF
  simp only [Bool.and_eq_true, decide_eq_true_eq, beq_iff_eq] at hF
  obtain ⟨⟨⟨⟨g0, g1⟩, gz⟩, g128⟩, g64⟩ := hF
  generalize iandNot .u8 f 16 = fl at *
  have e8 : IntKind.u8.wrap (d.length : Int) = d.length := by show (d.length : Int) % 256 = _; omega
  have hxi : (⟨fl, t, d⟩ : It).ok := ⟨⟨g0, g1⟩, ⟨ht0, ht1⟩, hby, by show d.length ≤ 65535; omega, fun _ => by show d.length ≤ 255; omega⟩
  have hxb : ([fl, t, IntKind.u8.wrap (d.length : Int)] : List Int) ++ d = itB ⟨fl, t, d⟩ := by unfold itB; rw [if_pos gz, e8]
  refine ⟨⟨by trivial, by show (3 + d.length) * 1 ≤ 140737488355328; omega⟩, fun (y : List Int) hy => ?_⟩
  have hy : y = itB ⟨fl, t, d⟩ := hy.trans hxb
  have hyl : y.length ≤ 300 := by rw [hy]; have := (itB_len ⟨fl, t, d⟩).2; simp only at this; omega
  refine ⟨⟨by trivial, by show (0 + y.length) * 1 ≤ 140737488355328; omega⟩, fun (y1 : List Int) hy1 => ⟨hP, ?_⟩⟩
  have hy1 : y1 = y := hy1
  refine ⟨⟨by trivial, by show (y1.length + (S12 x).length) * 1 ≤ 140737488355328; rw [hy1]; omega⟩, fun (y2 : List Int) hy2 => ?_⟩
  have hy2 : y2 = ((⟨fl, t, d⟩ : It) :: its x).flatMap itB := by
    have e : y2 = y1 ++ S12 x := hy2
    rw [e, hy1, hy, its_bytes g h]; rfl
  have hok' : ∀ i ∈ (⟨fl, t, d⟩ : It) :: its x, i.ok := fun i hi => by
    rcases List.mem_cons.1 hi with rfl | hi
    · exact hxi
    · exact its_ok g i hi
  have hQ : P17 y2 := ⟨by rw [hy2]; exact Nat.le_trans (flat_items_len _ hok') (by have := its_len (a := x); rw [List.length_cons]; omega), by rw [hy2]; exact items_by hok'⟩
  refine ⟨hQ, bif_of (fun e => ?_) (fun e => ?_)⟩
  · -- refused
    have e1 : iand .i64 fl 128 = 0 := by rw [e] at g128; exact of_decide_eq_true g128.symm
    have hr : S17 y2 = throwN 2 y := by
      rw [hy2, S17_items hok', foldI]
      have hz : ix (List.replicate 256 false) t = false := by unfold ix; rw [List.getD_eq_getElem?_getD, List.getElem?_replicate]; split <;> rfl
      rw [if_neg (by rw [hz]; simp)]
      have : attrA fl t (itB ⟨fl, t, d⟩) d a0 = .inl (2, itB ⟨fl, t, d⟩) := by
        unfold attrA otherA
        rw [if_neg (by omega), if_pos e1]
      show (match attrA fl t (itB ⟨fl, t, d⟩) d a0 with | .inl (s, x) => throwN s x | .inr a' => _) = _
      rw [this, hy]
    show bif decide ((S17 y2).2.fCode = 3) && decide ((S17 y2).2.fSub = 2) then S15 (S17 y2).2.fData y = true else false = true
    rw [hr]
    exact decide_eq_true rfl
  · have e1 : ¬ iand .i64 fl 128 = 0 := by rw [e] at g128; exact of_decide_eq_false g128.symm
    have hA : Acc ⟨fl, t, d⟩ := by
      refine ⟨hxi, fun a => ?_⟩
      show attrA fl t _ d a = _
      generalize itB _ = all
      unfold attrA otherA
      rw [if_neg (by omega), if_neg e1]
      have hn : t ≠ 1 ∧ t ≠ 2 ∧ t ≠ 3 ∧ t ≠ 4 ∧ t ≠ 5 ∧ t ≠ 6 ∧ t ≠ 7 ∧ t ≠ 8 := by omega
      have h9 : 9 ≤ t := by omega
      by_cases e2 : iand .i64 fl 64 = 0
      · rw [if_pos e2]
        simp [upd, rawOf, hn, e2]
      · rw [if_neg e2, if_neg (by omega), if_pos (by omega)]
        simp [upd, rawOf, hn, e2, h9]
    have hp := its_pair g
    have t8 : ∀ i ∈ its x, i.t ≤ 8 := by
      intro i hi
      unfold its at hi
      rw [hraw] at hi
      simp only [List.mem_append, List.mem_cons, List.not_mem_nil, or_false, List.filter_nil, List.map_nil] at hi
      rcases hi with (rfl | rfl | rfl) | hi | hi | hi | hi
      · exact (by decide : (1 : Int) ≤ 8)
      · exact (by decide : (2 : Int) ≤ 8)
      · exact (by decide : (3 : Int) ≤ 8)
      · split at hi
        · rw [List.mem_singleton] at hi; subst hi; exact (by decide : (4 : Int) ≤ 8)
        · cases hi
      · split at hi
        · rw [List.mem_singleton] at hi; subst hi; exact (by decide : (5 : Int) ≤ 8)
        · cases hi
      · cases hi
      · split at hi
        · cases hi
        · rw [List.mem_singleton] at hi; subst hi; exact (by decide : (8 : Int) ≤ 8)
    have hn : (((⟨fl, t, d⟩ : It) :: its x).map It.t).Nodup := by
      rw [List.map_cons, List.nodup_cons]
      refine ⟨fun hc => ?_, its_nodup g⟩
      obtain ⟨i, hi, he⟩ := List.mem_map.1 hc
      have := t8 i hi
      have he : i.t = t := he
      omega
    have hg : ∀ i ∈ (⟨fl, t, d⟩ : It) :: its x, Acc i := fun i hi => by
      rcases List.mem_cons.1 hi with rfl | hi
      · exact hA
      · exact its_acc g i hi
    have hperm : ((⟨fl, t, d⟩ : It) :: its x).Perm (its x ++ [⟨fl, t, d⟩]) := (List.perm_append_singleton _ _).symm
    have hE := Eqv.perm hperm hn (Eqv.refl a0)
    rw [updL_append, its_upd g] at hE
    have hany : ∀ q : It → Bool, (its x).any q = true → ((⟨fl, t, d⟩ : It) :: its x).any q = true := fun q hq => by rw [List.any_cons, hq]; simp
    have hup : updL [⟨fl, t, d⟩] x = { x with fRaws := rawOf ⟨fl, t, d⟩ } := by
      show upd _ x = _
      have hn : t ≠ 1 ∧ t ≠ 2 ∧ t ≠ 3 ∧ t ≠ 4 ∧ t ≠ 5 ∧ t ≠ 8 := by omega
      simp [upd, hn, hraw]
    rw [hup] at hE
    have hread : S17 y2 = ({ x with fRaws := rawOf ⟨fl, t, d⟩ }, ⟨0, 0, []⟩) := by
      rw [hy2]
      refine read_acc hg hn (hany _ its_has.1) (hany _ its_has.2.1) (hany _ its_has.2.2) hE ?_
      show (rawOf ⟨fl, t, d⟩).Pairwise _
      unfold rawOf
      split
      · simp
      · split
        · simp
        · split <;> simp
    have hro : rawOf ⟨fl, t, d⟩ = if iand .i64 fl 64 = 0 then [] else [⟨224, t, d⟩] := by
      unfold rawOf
      simp only
      rw [if_neg (by omega), if_neg (by omega)]
      by_cases e2 : iand .i64 fl 64 = 0
      · rw [if_neg (fun h => h.2 e2), if_pos e2]
      · rw [if_pos ⟨by omega, e2⟩, if_neg e2]
    rw [hro] at hread
    refine JP.of (fun z => z = { x with fRaws := if iand .i64 fl 64 = 0 then [] else [⟨224, t, d⟩] }) (fun J hJ => bif_of (fun e => hJ _ ?_) (fun e => hJ _ ?_)) fun z hz => ?_
    · have e2 : ¬ iand .i64 fl 64 = 0 := by rw [e] at g64; simpa using g64.symm
      rw [if_neg e2, show IntKind.i64.wrap t = t from w64_id (by omega)]
    · have e2 : iand .i64 fl 64 = 0 := by rw [e] at g64; simpa using g64.symm
      rw [if_pos e2]
      show x = { x with fRaws := [] }
      rw [← hraw]
    · subst hz
      show bif decide ((S17 y2).2.fCode = 0) then S18 _ (S17 y2).1 = true else false = true
      rw [hread]
      exact decide_eq_true rfl
theorem ok9 (h52 : ConOk P7 52 (.srt (A := S.A) 45 53 Q52 R52)) : Ok9 := con_ok (C := C9) (kok_cons ok15 (kok_cons ok18 (kok_cons ok10 (kok_cons (ok17 h52) (kok_cons (ok11 h52) (kok_cons ok14 (kk1 ok16))))))) mx7 (by kernel_rfl) run9
end Go.Rx
/-! What the law AttrUnknown hands back. -/
namespace Go.Rx
open Go.Ab Go.L7
set_option maxRecDepth 100000
theorem con9 : ∀ (args : List (AV S.A)) (k : AV S.A → Prop), appC (S := S) P7 [4] [27, 5, 5, 30] W9 args k → PFk (S := S) P7 9 (args.map stripA) k := (ok9 h52).1
theorem pf9 (x0 : api_Attrs) (x1 : Int) (x2 : Int) (x3 : List Int) (h : P9 x0 x1 x2 x3) : PFk (S := S) P7 9 ([argA (S := S) P7 27 x0, argA (S := S) P7 5 x1, argA (S := S) P7 5 x2, argA (S := S) P7 30 x3].map stripA) (fun q => q = .sc (.bool true)) := by
  refine con9 [argA (S := S) P7 27 x0, argA (S := S) P7 5 x1, argA (S := S) P7 5 x2, argA (S := S) P7 30 x3] _ ?_
  show withP (some (P9 x0 x1 x2 x3)) _
  exact ⟨h, rfl⟩
theorem strip9 (x0 : api_Attrs) (x1 : Int) (x2 : Int) (x3 : List Int) : [argA (S := S) P7 27 x0, argA (S := S) P7 5 x1, argA (S := S) P7 5 x2, argA (S := S) P7 30 x3].map stripA = [.agg (api_Attrs.cells x0), .sc (.int .u8 x1), .sc (.int .u8 x2), .sem (SL (eI .u8) x3)] := by kernel_rfl
end Go.Rx
namespace Go.Proofs.YtkmmnfcjbalboaaDoor
open Go.Ab Go.Rx Go.L7
theorem AttrUnknown_ok (x0 : api_Attrs) (x1 : Int) (x2 : Int) (x3 : List Int) (o0 : api_Attrs.ok x0) (o1 : okI .u8 x1) (o2 : okI .u8 x2) (o3 : okL (okI .u8) x3) : PFg S P7 9 [.agg (api_Attrs.cells x0), .sc (.int .u8 x1), .sc (.int .u8 x2), .sem (SL (eI .u8) x3)] (.sc (.bool true)) := by
  have h := pf_of_pfk (pf9 x0 x1 x2 x3 ⟨o0, (by have := okI8.1 o1; omega), (by have := okI8.1 o1; omega), (by have := okI8.1 o2; omega), (by have := okI8.1 o2; omega), By.of_ok o3⟩)
  rw [strip9] at h
  exact h
end Go.Proofs.YtkmmnfcjbalboaaDoor
