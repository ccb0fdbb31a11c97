import Derived.Test.YtepnimdjcnjlfaaGreatDoorAbPl
namespace Go.Ab
open Go.RowKit
set_option linter.unusedVariables false
set_option linter.unusedSimpArgs false

theorem andL {a b : Bool} (h : (a && b) = true) : a = true := by cases a <;> simp_all
theorem andR {a b : Bool} (h : (a && b) = true) : b = true := by cases a <;> simp_all
theorem orL {a b : Bool} (h : (a || b) = false) : a = false := by cases a <;> simp_all
theorem orR {a b : Bool} (h : (a || b) = false) : b = false := by cases a <;> simp_all

theorem nl1_same (s : Nat) (p : PV) : (p.kill1 s).nl1 s = true := by
  cases p with
  | loc s' off =>
    simp only [PV.kill1]
    cases h : Nat.beq s' s with
    | true => rfl
    | false => simp [PV.nl1, h]
  | clo f ls =>
    simp only [PV.kill1]
    cases h : ls.any (capB s) with
    | true => rfl
    | false => simp only [cond_false, PV.nl1, h]; rfl
  | arr s' o n c =>
    simp only [PV.kill1]
    cases h : Nat.beq s' s with
    | true => rfl
    | false => simp [PV.nl1, h]
  | _ => rfl
theorem nl1_keep (s s' : Nat) {p : PV} (h : p.nl1 s = true) : (p.kill1 s').nl1 s = true := by
  cases p with
  | loc s2 off =>
    simp only [PV.kill1]
    cases Nat.beq s2 s' with
    | true => rfl
    | false => exact h
  | clo f ls =>
    simp only [PV.kill1]
    cases ls.any (capB s') with
    | true => rfl
    | false => exact h
  | arr s2 o n c =>
    simp only [PV.kill1]
    cases Nat.beq s2 s' with
    | true => rfl
    | false => exact h
  | _ => exact h
theorem nlL_same (s : Nat) (ps : List PV) : (ps.map (PV.kill1 s)).all (PV.nl1 s) = true := by
  rw [List.all_eq_true]
  intro x hx
  obtain ⟨y, _, rfl⟩ := List.mem_map.1 hx
  exact nl1_same s y
theorem nlL_keep (s s' : Nat) {ps : List PV} (h : ps.all (PV.nl1 s) = true) : (ps.map (PV.kill1 s')).all (PV.nl1 s) = true := by
  rw [List.all_eq_true] at h ⊢
  intro x hx
  obtain ⟨y, hy, rfl⟩ := List.mem_map.1 hx
  exact nl1_keep s s' (h y hy)
theorem nl2_same (s : Nat) (p : PV) : (p.kill2 s).nl2 s = true := by
  cases p with
  | agg cs => exact nlL_same s cs
  | loc s' off =>
    have := nl1_same s (.loc s' off)
    show ((PV.loc s' off).kill1 s).nl2 s = true
    simp only [PV.kill1] at this ⊢
    cases h : Nat.beq s' s with
    | true => rfl
    | false => rw [h] at this; exact this
  | arr s' o n c =>
    have := nl1_same s (.arr s' o n c)
    show ((PV.arr s' o n c).kill1 s).nl2 s = true
    simp only [PV.kill1] at this ⊢
    cases h : Nat.beq s' s with
    | true => rfl
    | false => rw [h] at this; exact this
  | clo f ls =>
    have := nl1_same s (.clo f ls)
    show ((PV.clo f ls).kill1 s).nl2 s = true
    simp only [PV.kill1] at this ⊢
    cases h : ls.any (capB s) with
    | true => rfl
    | false => rw [h] at this; exact this
  | _ => rfl
theorem nl2_keep (s s' : Nat) {p : PV} (h : p.nl2 s = true) : (p.kill2 s').nl2 s = true := by
  cases p with
  | agg cs => exact nlL_keep s s' h
  | loc s2 off =>
    show ((PV.loc s2 off).kill1 s').nl2 s = true
    simp only [PV.kill1]
    cases Nat.beq s2 s' with
    | true => rfl
    | false => exact h
  | arr s2 o n c =>
    show ((PV.arr s2 o n c).kill1 s').nl2 s = true
    simp only [PV.kill1]
    cases Nat.beq s2 s' with
    | true => rfl
    | false => exact h
  | clo f ls =>
    show ((PV.clo f ls).kill1 s').nl2 s = true
    simp only [PV.kill1]
    cases ls.any (capB s') with
    | true => rfl
    | false => exact h
  | _ => exact h
theorem nl_same (s : Nat) (p : PV) : (p.kill s).nl s = true := by
  cases p with
  | tup vs =>
    show (vs.map (PV.kill2 s)).all (PV.nl2 s) = true
    rw [List.all_eq_true]
    intro x hx
    obtain ⟨y, _, rfl⟩ := List.mem_map.1 hx
    exact nl2_same s y
  | agg cs => exact nl2_same s (.agg cs)
  | loc s' off =>
    have := nl2_same s (.loc s' off)
    show ((PV.loc s' off).kill1 s).nl s = true
    have h2 : ((PV.loc s' off).kill1 s).nl2 s = true := this
    simp only [PV.kill1] at h2 ⊢
    cases h : Nat.beq s' s with
    | true => rfl
    | false => rw [h] at h2; exact h2
  | arr s' o n c =>
    have := nl2_same s (.arr s' o n c)
    show ((PV.arr s' o n c).kill1 s).nl s = true
    have h2 : ((PV.arr s' o n c).kill1 s).nl2 s = true := this
    simp only [PV.kill1] at h2 ⊢
    cases h : Nat.beq s' s with
    | true => rfl
    | false => rw [h] at h2; exact h2
  | clo f ls =>
    have := nl2_same s (.clo f ls)
    show ((PV.clo f ls).kill1 s).nl s = true
    have h2 : ((PV.clo f ls).kill1 s).nl2 s = true := this
    simp only [PV.kill1] at h2 ⊢
    cases h : ls.any (capB s) with
    | true => rfl
    | false => rw [h] at h2; exact h2
  | _ => rfl
theorem nl_keep (s s' : Nat) {p : PV} (h : p.nl s = true) : (p.kill s').nl s = true := by
  cases p with
  | tup vs =>
    show (vs.map (PV.kill2 s')).all (PV.nl2 s) = true
    have h : vs.all (PV.nl2 s) = true := h
    rw [List.all_eq_true] at h ⊢
    intro x hx
    obtain ⟨y, hy, rfl⟩ := List.mem_map.1 hx
    exact nl2_keep s s' (h y hy)
  | agg cs => exact nl2_keep s s' (p := .agg cs) h
  | loc s2 off =>
    show ((PV.loc s2 off).kill1 s').nl s = true
    simp only [PV.kill1]
    cases Nat.beq s2 s' with
    | true => rfl
    | false => exact h
  | arr s2 o n c =>
    show ((PV.arr s2 o n c).kill1 s').nl s = true
    simp only [PV.kill1]
    cases Nat.beq s2 s' with
    | true => rfl
    | false => exact h
  | clo f ls =>
    show ((PV.clo f ls).kill1 s').nl s = true
    simp only [PV.kill1]
    cases ls.any (capB s') with
    | true => rfl
    | false => exact h
  | _ => exact h

/-- Nothing in the state leads to box s. -/
structure St.Nl (σ : St) (s : Nat) : Prop where
  env : ∀ k, (σ.env k).nl s = true
  L : ∀ s' qs, σ.L s' = some qs → qs.all (PV.nl1 s) = true
theorem St.fresh_L {σ : St} {s s' : Nat} {ps' : List PV} (h : (σ.fresh s).L s' = some ps') : s' ≠ s ∧ ∃ ps'', σ.L s' = some ps'' ∧ ps' = ps''.map (PV.kill1 s) := by
  simp only [St.fresh, St.setL, St.kill] at h
  cases hq : Nat.beq s' s with
  | true => rw [hq] at h; cases h
  | false =>
    rw [hq] at h
    refine ⟨fun e => by subst e; simp at hq, ?_⟩
    cases hl : σ.L s' with
    | none => rw [hl] at h; simp at h
    | some x => rw [hl] at h; exact ⟨x, rfl, by simpa using h.symm⟩
theorem St.Nl.same (σ : St) (s : Nat) : (σ.fresh s).Nl s :=
  ⟨fun k => nl_same s _, fun s' qs h => by obtain ⟨_, ps, _, rfl⟩ := St.fresh_L h; exact nlL_same s ps⟩
theorem St.Nl.keep {σ : St} {s : Nat} (h : σ.Nl s) (s' : Nat) : (σ.fresh s').Nl s :=
  ⟨fun k => nl_keep s s' (h.env k), fun s2 qs hq => by obtain ⟨_, ps, h1, rfl⟩ := St.fresh_L hq; exact nlL_keep s s' (h.L s2 ps h1)⟩
theorem foldl_nl {s : Nat} : ∀ (l : List (Nat × Nat × List PV)) (σ : St), (σ.Nl s ∨ ∃ x ∈ l, x.2.1 = s) → (l.foldl (fun σ x => σ.fresh x.2.1) σ).Nl s
  | [], σ, h => h.elim id (fun ⟨x, hx, _⟩ => by cases hx)
  | x :: l, σ, h => by
    refine foldl_nl l _ ?_
    rcases h with h | ⟨y, hy, hys⟩
    · exact .inl (h.keep _)
    · rcases List.mem_cons.1 hy with rfl | hy
      · exact .inl (hys ▸ St.Nl.same σ y.2.1)
      · exact .inr ⟨y, hy, hys⟩
theorem foldl_none {s : Nat} : ∀ (l : List (Nat × Nat × List PV)) (σ : St), (σ.L s = none ∨ ∃ x ∈ l, x.2.1 = s) → (l.foldl (fun σ x => σ.fresh x.2.1) σ).L s = none
  | [], σ, h => h.elim id (fun ⟨x, hx, _⟩ => by cases hx)
  | x :: l, σ, h => by
    refine foldl_none l _ ?_
    rcases h with h | ⟨y, hy, hys⟩
    · refine .inl ?_
      simp only [St.fresh, St.setL, St.kill, h]
      cases Nat.beq s x.2.1 <;> rfl
    · rcases List.mem_cons.1 hy with rfl | hy
      · exact .inl (by simp [St.fresh, St.setL, hys])
      · exact .inr ⟨y, hy, hys⟩
theorem alF_mem : ∀ {l : List (Nat × Nat × List PV)} {s i : Nat} {ps : List PV}, alF l s = some (i, ps) → (i, s, ps) ∈ l
  | [], s, i, ps, h => by cases h
  | (i', s', ps') :: r, s, i, ps, h => by
    simp only [alF] at h
    cases hq : Nat.beq s' s with
    | true =>
      rw [hq] at h
      simp at h
      obtain ⟨rfl, rfl⟩ := h
      rw [Nat.eq_of_beq_eq_true hq]
      simp
    | false => rw [hq] at h; exact List.mem_cons_of_mem _ (alF_mem h)
theorem stF_mem : ∀ {l : List (Nat × Nat × Nat × List PV)} {s i off : Nat} {ps : List PV}, stF l s = some (i, off, ps) → (i, s, off, ps) ∈ l
  | [], s, i, off, ps, h => by cases h
  | (i', s', off', ps') :: r, s, i, off, ps, h => by
    simp only [stF] at h
    cases hq : Nat.beq s' s with
    | true =>
      rw [hq] at h
      simp at h
      obtain ⟨rfl, rfl, rfl⟩ := h
      rw [Nat.eq_of_beq_eq_true hq]
      simp
    | false => rw [hq] at h; exact List.mem_cons_of_mem _ (stF_mem h)

def AllOps (P : Program) (B : Base) (ops : Array Oper) (S : (Nat → Bool) → St) : List Oper → Nat → Prop
  | [], _ => True
  | o :: l, i => (∀ b, ClosedB ops b → b i = false → (∀ k ∈ depsOf o, b k = true) → GStep P B ops o (S b) (S (up b i))) ∧ AllOps P B ops S l (i + 1)
theorem allOps_get {P : Program} {B : Base} {ops : Array Oper} {S : (Nat → Bool) → St} : ∀ {l : List Oper} {n : Nat}, AllOps P B ops S l n → ∀ i o, l[i]? = some o → ∀ b, ClosedB ops b → b (n + i) = false → (∀ k ∈ depsOf o, b k = true) → GStep P B ops o (S b) (S (up b (n + i)))
  | [], n, _, i, o, h => by simp at h
  | o' :: l, n, h, 0, o, ho => by
    obtain rfl : o' = o := by simpa using ho
    exact h.1
  | o' :: l, n, h, i + 1, o, ho => by
    have := allOps_get h.2 i o (by simpa using ho)
    rw [show n + 1 + i = n + (i + 1) by omega] at this
    exact this

section
variable {P : Program} {B : Base} {Φ : Exit → St → Prop} {σ : St} {l : List Oper}
/-- **A region of open order, by its plan.** -/
theorem aw_plan {id : Nat} (π : Plan) (hm : P.follows .mixedOrders = true) (hback : backB l.toArray = true) (hn : π.ds.length = l.length) (hi : (π.al.map (·.1) ++ π.st.map (·.1)).all (Nat.blt · l.length) = true)
    (hs : AllOps P B l.toArray (π.S (π.base σ)) l 0) (hend : ∀ b, (∀ i, b i = true) → Φ .normal (π.S (π.base σ) b)) : AW P B (.region id l.toArray true) Φ σ :=
  aw_region_any (π.S (π.base σ)) hm hback (Plan.start (by simpa using hn) (by simpa using hi) (fun s i ps h => foldl_none _ _ (.inr ⟨_, alF_mem h, rfl⟩)))
    (fun i o ho b => by
      have := allOps_get hs i o (by simpa using ho) b
      simpa using this) hend

theorem stSplit {l : List (Nat × Nat × Nat × List PV)} {k : Nat} {x : Nat × Nat × Nat × List PV} (h : l[k]? = some x) : l = l.take k ++ x :: l.drop (k + 1) := by
  obtain ⟨h1, h2⟩ := List.getElem?_eq_some_iff.1 h
  rw [← h2, List.getElem_cons_drop, List.take_append_drop]
/-- Which stores come behind operation i. -/
def lateB (ops : Array Oper) (i s : Nat) (l : List (Nat × Nat × Nat × List PV)) : Bool := l.all fun x => !(Nat.beq x.2.1 s) || (match ops[x.1]? with | some o => (depsOf o).contains i | none => false)
theorem lateB_spec {ops : Array Oper} {b : Nat → Bool} {i s : Nat} {l : List (Nat × Nat × Nat × List PV)} (h : lateB ops i s l = true) (hcl : ClosedB ops b) (hb : b i = false) : ∀ x ∈ l, x.2.1 = s → b x.1 = false := by
  intro x hx e
  have := List.all_eq_true.1 h x hx
  rw [e, Nat.beq_refl, Bool.not_true, Bool.false_or] at this
  cases hj : ops[x.1]? with
  | none => rw [hj] at this; cases this
  | some oj =>
    rw [hj] at this
    cases hbj : b x.1 with
    | false => rfl
    | true =>
      have := hcl x.1 oj hj hbj i (by simpa using this)
      rw [hb] at this
      cases this
theorem pl_store {ops : Array Oper} {o : Oper} {π : Plan} {b : Nat → Bool} {i s off n : Nat} {t : TypeId} {x y : Operand} {ag : Bool} {ps0 ps qs : List PV} {p : PV} (k : Nat) (hcl : ClosedB ops b) (hd' : ∀ k ∈ depsOf o, b k = true) (hg : o.guard = none) (hd : o.dst = none) (ho : o.op = .store t x y) (ht : Ty P t ag n) (hx : (π.S σ b).ev x = .loc s off) (hy : (π.S σ b).ev y = p)
    (hL0 : π.L0 σ b s = some ps0) (hearly : (π.st.take k).all (fun x => !(Nat.beq x.2.1 s) || (depsOf o).contains x.1) = true) (hcalc : stL (fun _ => true) s (π.st.take k) (some ps0) = some ps)
    (hk : p.okCells = true) (hc : p.cellsP.length = n) (hn : Nat.ble (off + n) ps.length = true) (hs : π.st[k]? = some (i, s, off, qs)) (hpq : p.cellsP = qs) (hb : b i = false) (hds : π.ds[i]? = some none) (hal : (π.al.map (·.1)).contains i = false)
    (hone : (π.st.take k ++ π.st.drop (k + 1)).all (fun x => !(Nat.beq x.1 i)) = true) (hlate : lateB ops i s (π.st.drop (k + 1)) = true) : GStep P B ops o (π.S σ b) (π.S σ (up b i)) := by
  subst hpq
  have late := lateB_spec hlate hcl hb
  have hsp := stSplit hs
  have hL : (π.S σ b).L s = some ps := by
    show stL b s π.st (π.L0 σ b s) = some ps
    rw [hsp, stL_app, hL0]
    have e1 : stL b s (π.st.take k) (some ps0) = some ps := by
      rw [← hcalc]
      refine stL_congr _ _ fun x hx e => ?_
      have := List.all_eq_true.1 hearly x hx
      rw [e, Nat.beq_refl, Bool.not_true, Bool.false_or] at this
      exact hd' _ (by simpa using this)
    rw [e1]
    simp only [stL, Nat.beq_refl, cond_true, hb, cond_false, Option.map_some]
    exact stL_off _ _ late
  rw [← Plan.store hsp hL hb rfl hds hal (fun x hx e => by
    have := List.all_eq_true.1 hone x hx
    subst e
    simp at this) late]
  exact gs_plain hg (g_store hd ho ht hx hy hL hk hc hn rfl)
theorem planL0_new {π : Plan} {σ : St} {b : Nat → Bool} {s k : Nat} {ps : List PV} (ha : alF π.al s = some (k, ps)) (hk : b k = true) : π.L0 σ b s = some ps := by
  simp [Plan.L0, ha, hk]
theorem planL0_old {π : Plan} {σ : St} {b : Nat → Bool} {s : Nat} {ps : List PV} (ha : alF π.al s = none) (hL : σ.L s = some ps) : π.L0 σ b s = some ps := by
  simp [Plan.L0, ha, hL]

theorem pl_alloc {ops : Array Oper} {o : Oper} {π : Plan} {σ0 : St} {b : Nat → Bool} {i d s : Nat} {t : TypeId} {z : Value} {ps : List PV} (hback : backB ops = true) (hcl : ClosedB ops b) (hb : b i = false) (hg : o.guard = none) (hd : o.dst = some d) (hN : Nat.blt d σ0.N = true) (ho : o.op = .alloc t) (hp : B.pin s = none)
    (hz : (P.info? t).map (·.zero) = some (some z)) (h1 : z.cells.toList.all (·.oneCell') = true) (hq : (z.cells.toList.map PV.sc).map (PV.kill1 s) = ps)
    (hNb : (π.base σ0).N = σ0.N) (ha : alF π.al s = some (i, ps)) (hwd : wrF π.ds d 0 = some i) (hpi : π.p i = .loc s 0) (hone : π.al.all (fun x => !(Nat.beq x.1 i) || Nat.beq x.2.1 s) = true) (hst : (π.st.map (·.1)).contains i = false)
    (hal : π.al.all (fun x => x.2.2.all (PV.nl1 s)) = true) (hstq : π.st.all (fun x => x.2.2.2.all (PV.nl1 s)) = true)
    (hsn : lateB ops i s π.st = true)
    (hmen : (List.range ops.size).all (fun j => (π.p j).nl s || Nat.beq j i || match ops[j]? with | some o => (depsOf o).any fun k => !(π.p k).nl s | none => false) = true) (hn : Nat.beq π.ds.length ops.size = true) : GStep P B ops o (π.S (π.base σ0) b) (π.S (π.base σ0) (up b i)) := by
  have hN1 : Nat.blt d (π.S (π.base σ0) b).N = true := by
    show Nat.blt d (π.base σ0).N = true
    rw [hNb]; exact hN
  have nl : (π.base σ0).Nl s := foldl_nl _ _ (.inr ⟨_, alF_mem ha, rfl⟩)
  have hps : ps.all (PV.nl1 s) = true := by rw [← hq]; exact nlL_same s _
  rw [← Plan.alloc hback hcl hb ha hwd hpi hps (fun s' ps' hne h => by
    have := List.all_eq_true.1 hone _ (alF_mem h)
    simp at this
    exact hne this) hst nl.env nl.L hal hstq (lateB_spec hsn hcl hb) hmen (Nat.eq_of_beq_eq_true hn)]
  exact gs_plain hg (g_alloc hd hN1 ho hp hz h1 hq)

theorem base_N (π : Plan) (σ : St) : (π.base σ).N = σ.N := by
  have : ∀ (l : List (Nat × Nat × List PV)) (σ : St), (l.foldl (fun σ x => σ.fresh x.2.1) σ).N = σ.N := by
    intro l
    induction l with
    | nil => exact fun _ => rfl
    | cons x l ih => exact fun σ => (ih _).trans rfl
  exact this _ _
end


theorem congrS1 {a0 b0 : PV} (h0 : a0 = b0) : [a0.strip] = [b0.strip] := by subst h0; rfl
theorem congrL1 {a0 b0 : PV} (h0 : a0 = b0) : [a0] = [b0] := by subst h0; rfl
theorem congr1 {i0 : Nat} {a0 b0 : PV} (h0 : a0 = b0) : [(i0, a0)] = [(i0, b0)] := by subst h0; rfl
theorem congrS2 {a0 a1 b0 b1 : PV} (h0 : a0 = b0) (h1 : a1 = b1) : [a0.strip, a1.strip] = [b0.strip, b1.strip] := by subst h0 h1; rfl
theorem congrL2 {a0 a1 b0 b1 : PV} (h0 : a0 = b0) (h1 : a1 = b1) : [a0, a1] = [b0, b1] := by subst h0 h1; rfl
theorem congr2 {i0 i1 : Nat} {a0 a1 b0 b1 : PV} (h0 : a0 = b0) (h1 : a1 = b1) : [(i0, a0), (i1, a1)] = [(i0, b0), (i1, b1)] := by subst h0 h1; rfl
theorem congrS3 {a0 a1 a2 b0 b1 b2 : PV} (h0 : a0 = b0) (h1 : a1 = b1) (h2 : a2 = b2) : [a0.strip, a1.strip, a2.strip] = [b0.strip, b1.strip, b2.strip] := by subst h0 h1 h2; rfl
theorem congrL3 {a0 a1 a2 b0 b1 b2 : PV} (h0 : a0 = b0) (h1 : a1 = b1) (h2 : a2 = b2) : [a0, a1, a2] = [b0, b1, b2] := by subst h0 h1 h2; rfl
theorem congr3 {i0 i1 i2 : Nat} {a0 a1 a2 b0 b1 b2 : PV} (h0 : a0 = b0) (h1 : a1 = b1) (h2 : a2 = b2) : [(i0, a0), (i1, a1), (i2, a2)] = [(i0, b0), (i1, b1), (i2, b2)] := by subst h0 h1 h2; rfl
theorem congrS4 {a0 a1 a2 a3 b0 b1 b2 b3 : PV} (h0 : a0 = b0) (h1 : a1 = b1) (h2 : a2 = b2) (h3 : a3 = b3) : [a0.strip, a1.strip, a2.strip, a3.strip] = [b0.strip, b1.strip, b2.strip, b3.strip] := by subst h0 h1 h2 h3; rfl
theorem congrL4 {a0 a1 a2 a3 b0 b1 b2 b3 : PV} (h0 : a0 = b0) (h1 : a1 = b1) (h2 : a2 = b2) (h3 : a3 = b3) : [a0, a1, a2, a3] = [b0, b1, b2, b3] := by subst h0 h1 h2 h3; rfl
theorem congr4 {i0 i1 i2 i3 : Nat} {a0 a1 a2 a3 b0 b1 b2 b3 : PV} (h0 : a0 = b0) (h1 : a1 = b1) (h2 : a2 = b2) (h3 : a3 = b3) : [(i0, a0), (i1, a1), (i2, a2), (i3, a3)] = [(i0, b0), (i1, b1), (i2, b2), (i3, b3)] := by subst h0 h1 h2 h3; rfl
theorem congrS5 {a0 a1 a2 a3 a4 b0 b1 b2 b3 b4 : PV} (h0 : a0 = b0) (h1 : a1 = b1) (h2 : a2 = b2) (h3 : a3 = b3) (h4 : a4 = b4) : [a0.strip, a1.strip, a2.strip, a3.strip, a4.strip] = [b0.strip, b1.strip, b2.strip, b3.strip, b4.strip] := by subst h0 h1 h2 h3 h4; rfl
theorem congrL5 {a0 a1 a2 a3 a4 b0 b1 b2 b3 b4 : PV} (h0 : a0 = b0) (h1 : a1 = b1) (h2 : a2 = b2) (h3 : a3 = b3) (h4 : a4 = b4) : [a0, a1, a2, a3, a4] = [b0, b1, b2, b3, b4] := by subst h0 h1 h2 h3 h4; rfl
theorem congr5 {i0 i1 i2 i3 i4 : Nat} {a0 a1 a2 a3 a4 b0 b1 b2 b3 b4 : PV} (h0 : a0 = b0) (h1 : a1 = b1) (h2 : a2 = b2) (h3 : a3 = b3) (h4 : a4 = b4) : [(i0, a0), (i1, a1), (i2, a2), (i3, a3), (i4, a4)] = [(i0, b0), (i1, b1), (i2, b2), (i3, b3), (i4, b4)] := by subst h0 h1 h2 h3 h4; rfl
theorem congrS6 {a0 a1 a2 a3 a4 a5 b0 b1 b2 b3 b4 b5 : PV} (h0 : a0 = b0) (h1 : a1 = b1) (h2 : a2 = b2) (h3 : a3 = b3) (h4 : a4 = b4) (h5 : a5 = b5) : [a0.strip, a1.strip, a2.strip, a3.strip, a4.strip, a5.strip] = [b0.strip, b1.strip, b2.strip, b3.strip, b4.strip, b5.strip] := by subst h0 h1 h2 h3 h4 h5; rfl
theorem congrL6 {a0 a1 a2 a3 a4 a5 b0 b1 b2 b3 b4 b5 : PV} (h0 : a0 = b0) (h1 : a1 = b1) (h2 : a2 = b2) (h3 : a3 = b3) (h4 : a4 = b4) (h5 : a5 = b5) : [a0, a1, a2, a3, a4, a5] = [b0, b1, b2, b3, b4, b5] := by subst h0 h1 h2 h3 h4 h5; rfl
theorem congr6 {i0 i1 i2 i3 i4 i5 : Nat} {a0 a1 a2 a3 a4 a5 b0 b1 b2 b3 b4 b5 : PV} (h0 : a0 = b0) (h1 : a1 = b1) (h2 : a2 = b2) (h3 : a3 = b3) (h4 : a4 = b4) (h5 : a5 = b5) : [(i0, a0), (i1, a1), (i2, a2), (i3, a3), (i4, a4), (i5, a5)] = [(i0, b0), (i1, b1), (i2, b2), (i3, b3), (i4, b4), (i5, b5)] := by subst h0 h1 h2 h3 h4 h5; rfl
theorem congrS7 {a0 a1 a2 a3 a4 a5 a6 b0 b1 b2 b3 b4 b5 b6 : PV} (h0 : a0 = b0) (h1 : a1 = b1) (h2 : a2 = b2) (h3 : a3 = b3) (h4 : a4 = b4) (h5 : a5 = b5) (h6 : a6 = b6) : [a0.strip, a1.strip, a2.strip, a3.strip, a4.strip, a5.strip, a6.strip] = [b0.strip, b1.strip, b2.strip, b3.strip, b4.strip, b5.strip, b6.strip] := by subst h0 h1 h2 h3 h4 h5 h6; rfl
theorem congrL7 {a0 a1 a2 a3 a4 a5 a6 b0 b1 b2 b3 b4 b5 b6 : PV} (h0 : a0 = b0) (h1 : a1 = b1) (h2 : a2 = b2) (h3 : a3 = b3) (h4 : a4 = b4) (h5 : a5 = b5) (h6 : a6 = b6) : [a0, a1, a2, a3, a4, a5, a6] = [b0, b1, b2, b3, b4, b5, b6] := by subst h0 h1 h2 h3 h4 h5 h6; rfl
theorem congr7 {i0 i1 i2 i3 i4 i5 i6 : Nat} {a0 a1 a2 a3 a4 a5 a6 b0 b1 b2 b3 b4 b5 b6 : PV} (h0 : a0 = b0) (h1 : a1 = b1) (h2 : a2 = b2) (h3 : a3 = b3) (h4 : a4 = b4) (h5 : a5 = b5) (h6 : a6 = b6) : [(i0, a0), (i1, a1), (i2, a2), (i3, a3), (i4, a4), (i5, a5), (i6, a6)] = [(i0, b0), (i1, b1), (i2, b2), (i3, b3), (i4, b4), (i5, b5), (i6, b6)] := by subst h0 h1 h2 h3 h4 h5 h6; rfl


inductive Places (P : Program) : List Field → List (Nat × Nat) → Prop
  | nil : Places P [] []
  | cons {f : Field} {fs : List Field} {off n : Nat} {ag : Bool} {l : List (Nat × Nat)} (h : f.offset = off) (ht : Ty P f.type ag n) (hs : Places P fs l) : Places P (f :: fs) ((off, n) :: l)
theorem run_places {P : Program} {fs : List Field} {l : List (Nat × Nat)} (h : Places P fs l) (w : World) : (fs.mapM (fun (f : Field) => (do pure (f.offset, ← sizeOf f.type) : Sem (Nat × Nat)))).run P w = .ok l w := by
  induction h with
  | nil => rfl
  | cons h ht _ ih =>
    rw [List.mapM_cons, run_bind, run_bind, run_sizeOf ht]
    simp only [run_pure]
    rw [run_bind, ih]
    simp only [run_pure, h]
theorem bld_mk {P : Program} {t : TypeId} {fs : List Field} {z : Value} {places : List (Nat × Nat)} (hu : P.underlying t = some (.struct fs.toArray)) (hz : (P.info? t).map (·.zero) = some (some z)) (hp : Places P fs places) : Bld P t places z.cells.toList := by
  intro parts w
  cases hi : P.info? t with
  | none => rw [hi] at hz; simp at hz
  | some i =>
    rw [hi] at hz
    simp only [Option.map_some, Option.some.injEq] at hz
    have e1 : (zeroValue t).run P w = .ok z w := by
      simp [zeroValue, typeInfo, program, hi, hz, bind, Sem.bind, pure, Sem.run]
    have e2 : (underlying t).run P w = .ok (.struct fs.toArray) w := by
      simp [underlying, program, hu, bind, Sem.bind, pure, Sem.run]
    unfold Instr.build bldK
    rw [run_bind, e1]
    simp only []
    rw [run_bind, e2]
    simp only []
    have e3 : (fs.toArray.mapM (fun (f : Field) => (do pure (f.offset, ← sizeOf f.type) : Sem (Nat × Nat)))).run P w = .ok places.toArray w := by
      rw [List.mapM_toArray]
      have e4 := run_bind (P := P) (fs.mapM (fun (f : Field) => (do pure (f.offset, ← sizeOf f.type) : Sem (Nat × Nat)))) (fun l => (pure l.toArray : Sem (Array (Nat × Nat)))) w
      rw [run_places hp] at e4
      exact e4
    rw [run_bind, e3]
    simp only [List.getElem?_toArray, Array.toArray_toList]
    cases Instr.fill (fun i => places[i]?) z.cells parts.toList <;> rfl

/-! ### Encodings -/
def eI (k : IntKind) : Enc Int := ⟨1, fun n => [.sc (.int k n)], fun _ => rfl⟩
def eB : Enc Bool := ⟨1, fun n => [.sc (.bool n)], fun _ => rfl⟩
def eS : Enc ByteArray := ⟨1, fun n => [.sc (.string n)], fun _ => rfl⟩
def eL {α : Type} (E : Enc α) : Enc (List α) := ⟨1, fun n => [.sem (SL E n)], fun _ => rfl⟩
end Go.Ab
