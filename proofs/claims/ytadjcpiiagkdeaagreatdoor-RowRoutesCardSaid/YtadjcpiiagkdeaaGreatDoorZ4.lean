import Derived.Test.YtadjcpiiagkdeaaGreatDoorZ3
set_option linter.unusedVariables false
set_option linter.unusedSimpArgs false
/-! Regions: guards that are split, one way at a time; and what the executor does instead. -/
namespace Go.Rx
open Go.Ab Go.RowKit
set_option linter.unusedVariables false
set_option linter.unusedSimpArgs false
section reg
variable {S : Sys} {C : Cfg S}
/-! ### What is read of a state -/
theorem getN_put {N : Nat} {s b : XS S.A} {d : Nat} {p : AV S.A} (k : Nat) : getN N ((s.put d p).over b) k = bif Nat.beq k d then (bif Nat.blt k N then p else .any) else getN N (s.over b) k := by
  unfold getN
  rw [over_put, get_put]
  cases Nat.beq k d <;> cases Nat.blt k N <;> rfl
theorem memN_mem {x : Nat} : ∀ {l : List Nat}, memN x l = true ↔ x ∈ l
  | [] => by simp [memN]
  | y :: r => by
    simp only [memN, Bool.or_eq_true, List.mem_cons]
    rw [memN_mem (l := r)]
    exact ⟨fun h => h.imp Nat.eq_of_beq_eq_true id, fun h => h.imp (fun e => by subst e; exact Nat.beq_refl x) id⟩
/-- A slot with a guard, and without. -/
def SlotOk (get : Nat → AV S.A) (m s : AV S.A) : Prop := match m with
  | .grd g w p => (∃ v, boolA (get g) = some v ∧ s = bif eqB v w then p else .und) ∨ (get g = .und ∧ s = .und)
  | m => s = m
def noG : AV S.A → Prop
  | .grd _ _ _ => False
  | _ => True
theorem noG_unG (p : AV S.A) : noG (unG p) := by cases p <;> trivial
theorem slot_eq {get : Nat → AV S.A} {p : AV S.A} (h : noG p) : SlotOk get p p := by cases p <;> first | rfl | exact h.elim
structure Mg (N : Nat) (b : XS S.A) (D : List Nat) (kn : Kn) (M s : XS S.A) : Prop where
  L : M.L = s.L
  T : M.T = s.T
  c : M.c = s.c
  slot : ∀ k, SlotOk (getN N (s.over b)) (getN N (M.over b) k) (getN N (s.over b) k)
  pay : ∀ k g w p, getN N (M.over b) k = .grd g w p → g ∈ D ∧ noG p
  kn : ∀ g v, kn g = some v → boolA (getN N (s.over b) g) = some v ∧ g ∈ D
variable {N : Nat} {b : XS S.A} {D : List Nat} {kn : Kn} {M s : XS S.A}
theorem Mg.overL (h : Mg N b D kn M s) : (M.over b).L = (s.over b).L := by show (fun k => orE (M.L k) (b.L k)) = _; rw [h.L]; rfl
theorem Mg.overT (h : Mg N b D kn M s) : (M.over b).T = (s.over b).T := by show (fun k => orE (M.T k) (b.T k)) = _; rw [h.T]; rfl
theorem Mg.mem (h : Mg N b D kn M s) : M.mem = s.mem := by unfold XS.mem; rw [h.L, h.T, h.c]
theorem Mg.noGs (h : Mg N b D kn M s) (k : Nat) : noG (getN N (s.over b) k) := by
  have h1 := h.slot k
  have h2 := h.pay k
  revert h1 h2
  generalize getN N (M.over b) k = m
  generalize getN N (s.over b) k = q
  intro h1 h2
  cases m with
  | grd g w p =>
    rcases h1 with ⟨v, _, e⟩ | ⟨_, e⟩
    · subst e
      cases eqB v w
      · trivial
      · exact (h2 g w p rfl).2
    · subst e; trivial
  | _ => obtain rfl := h1; trivial
/-- Both are written alike. -/
theorem Mg.put2 (h : Mg N b D kn M s) {M' s' : XS S.A} {d : Nat} {m q : AV S.A} (hd : d ∉ D) (eM : M'.env = (M.put d m).env) (es : s'.env = (s.put d q).env) (hL : M'.L = s'.L) (hT : M'.T = s'.T) (hc : M'.c = s'.c)
    (hq : SlotOk (getN N (s'.over b)) m q) (hp : ∀ g w p, m = .grd g w p → g ∈ D ∧ noG p) : Mg N b (d :: D) kn M' s' := by
  have gM : ∀ k, getN N (M'.over b) k = bif Nat.beq k d then (bif Nat.blt k N then m else .any) else getN N (M.over b) k := by
    intro k; rw [← getN_put]; unfold getN XS.get XS.over; simp only [eM]
  have gs : ∀ k, getN N (s'.over b) k = bif Nat.beq k d then (bif Nat.blt k N then q else .any) else getN N (s.over b) k := by
    intro k; rw [← getN_put]; unfold getN XS.get XS.over; simp only [es]
  have same : ∀ g, g ∈ D → getN N (s'.over b) g = getN N (s.over b) g := by
    intro g hg
    rw [gs, nbeq (fun e => by subst e; exact hd hg)]; rfl
  refine ⟨hL, hT, hc, fun k => ?_, fun k g w p e => ?_, fun g v e => ?_⟩
  · rw [gM k]
    rw [show getN N (s'.over b) k = bif Nat.beq k d then (bif Nat.blt k N then q else .any) else getN N (s.over b) k from gs k]
    cases hk : Nat.beq k d with
    | true =>
      simp only [cond_true]
      cases Nat.blt k N
      · exact rfl
      · exact hq
    | false =>
      simp only [cond_false]
      have h1 := h.slot k
      have h2 := h.pay k
      revert h1 h2
      generalize getN N (M.over b) k = m
      generalize getN N (s.over b) k = q
      intro h1 h2
      cases m with
      | grd g w p =>
        have hg := (h2 g w p rfl).1
        rcases h1 with ⟨v, e1, e2⟩ | ⟨e1, e2⟩
        · exact .inl ⟨v, by rw [same g hg]; exact e1, e2⟩
        · exact .inr ⟨by rw [same g hg]; exact e1, e2⟩
      | _ => exact h1
  · rw [gM k] at e
    cases hk : Nat.beq k d with
    | true =>
      rw [hk] at e
      simp only [cond_true] at e
      cases hN : Nat.blt k N with
      | true => rw [hN] at e; have := hp g w p e; exact ⟨List.mem_cons_of_mem _ this.1, this.2⟩
      | false => rw [hN] at e; cases e
    | false =>
      rw [hk] at e
      have := h.pay k g w p e
      exact ⟨List.mem_cons_of_mem _ this.1, this.2⟩
  · have := h.kn g v e
    exact ⟨by rw [same g this.2]; exact this.1, List.mem_cons_of_mem _ this.2⟩
theorem Mg.grow (h : Mg N b D kn M s) {D' : List Nat} (hD : ∀ d ∈ D, d ∈ D') : Mg N b D' kn M s :=
  { h with pay := fun k g w p e => ⟨hD _ (h.pay k g w p e).1, (h.pay k g w p e).2⟩, kn := fun g v e => ⟨(h.kn g v e).1, hD _ (h.kn g v e).2⟩ }
theorem Mg.mem2 (h : Mg N b D kn M s) {M' s' : XS S.A} (eM : M'.env = M.env) (es : s'.env = s.env) (hL : M'.L = s'.L) (hT : M'.T = s'.T) (hc : M'.c = s'.c) : Mg N b D kn M' s' := by
  have gM : ∀ k, getN N (M'.over b) k = getN N (M.over b) k := by intro k; unfold getN XS.get XS.over; simp only [eM]
  have gs : ∀ k, getN N (s'.over b) k = getN N (s.over b) k := by intro k; unfold getN XS.get XS.over; simp only [es]
  have gs' : getN N (s'.over b) = getN N (s.over b) := funext gs
  refine ⟨hL, hT, hc, fun k => ?_, fun k g w p e => h.pay k g w p (by rw [← gM]; exact e), fun g v e => ?_⟩
  · rw [gM, gs']; exact h.slot k
  · rw [gs]; exact h.kn g v e
/-! ### Guards -/
def Tr (get : Nat → AV S.A) (ch : List (Nat × Bool)) : Prop := ∀ x ∈ ch, boolA (get x.1) = some x.2
def ChOk (getM get : Nat → AV S.A) (D : List Nat) : List (Nat × Bool) → Prop
  | [] => True
  | (g, w) :: r => (∃ v, gval getM g = some v ∧ (Tr get r → get g = .sc (.bool v)) ∧ (¬ Tr get r → get g = .und)) ∧ g ∈ D ∧ ChOk getM get D r
theorem tr_cons {get : Nat → AV S.A} {g : Nat} {w : Bool} {r : List (Nat × Bool)} : Tr get ((g, w) :: r) ↔ boolA (get g) = some w ∧ Tr get r := by
  simp [Tr, List.forall_mem_cons]
theorem tr_nil {get : Nat → AV S.A} : Tr get [] := fun x hx => by cases hx
theorem eqB_eq {v w : Bool} : eqB v w = true ↔ v = w := by cases v <;> cases w <;> simp [eqB]
theorem eqB_ne {v w : Bool} : eqB v w = false ↔ v = !w := by cases v <;> cases w <;> simp [eqB]
def GcSpec (getM get : Nat → AV S.A) (D : List Nat) (g : Nat) (w : Bool) : GC → Prop
  | .on => boolA (get g) = some w
  | .off => get g = .und ∨ boolA (get g) = some (!w)
  | .cond ch => ChOk getM get D ch ∧ (Tr get ch → boolA (get g) = some w) ∧ (¬ Tr get ch → get g = .und ∨ boolA (get g) = some (!w)) ∧ ∃ r, ch = (g, w) :: r
  | .bad => True
theorem gcond_spec (h : Mg N b D kn M s) : ∀ (n : Nat) (g : Nat) (w : Bool), g ∈ D → GcSpec (getN N (M.over b)) (getN N (s.over b)) D g w (gcond (getN N (M.over b)) kn g w n)
  | 0, g, w, _ => trivial
  | n + 1, g, w, hg => by
    simp only [gcond]
    cases hk : kn g with
    | some v =>
      have h1 := (h.kn g v hk).1
      simp only []
      cases hv : eqB v w with
      | true => obtain rfl := eqB_eq.1 hv; exact h1
      | false => obtain rfl := eqB_ne.1 hv; exact .inr h1
    | none =>
      simp only []
      have h1 := h.slot g
      have h2 := h.pay g
      cases hm : getN N (M.over b) g with
      | und => rw [hm] at h1; exact .inl h1
      | sc u =>
        rw [hm] at h1
        cases u with
        | bool v =>
          have h1 : getN N (s.over b) g = .sc (.bool v) := h1
          refine ⟨⟨⟨v, by simp [gval, hm], fun _ => h1, fun hn => absurd (fun x hx => nomatch hx) hn⟩, hg, trivial⟩, fun ht => ht (g, w) (by simp), fun hn => ?_, [], rfl⟩
          right
          rw [h1]
          show some v = some (!w)
          cases hv : eqB v w with
          | true =>
            obtain rfl := eqB_eq.1 hv
            exact absurd (fun x hx => by obtain rfl := List.mem_singleton.1 hx; rw [h1]; rfl) hn
          | false => rw [eqB_ne.1 hv]
        | _ => trivial
      | grd g' w' p =>
        rw [hm] at h1
        obtain ⟨hg', hp⟩ := h2 g' w' p hm
        cases p with
        | sc u =>
          cases u with
          | bool v =>
            have ih := gcond_spec h n g' w' hg'
            simp only []
            revert ih
            generalize gcond (getN N (M.over b)) kn g' w' n = r
            intro ih
            have hon : boolA (getN N (s.over b) g') = some w' → getN N (s.over b) g = .sc (.bool v) := by
              intro e
              rcases h1 with ⟨v', e1, e2⟩ | ⟨e1, _⟩
              · rw [e] at e1
                cases e1
                rw [e2, eqB_eq.2 rfl]; rfl
              · rw [e1] at e; cases e
            have hoff : (getN N (s.over b) g' = .und ∨ boolA (getN N (s.over b) g') = some (!w')) → getN N (s.over b) g = .und := by
              intro e
              rcases h1 with ⟨v', e1, e2⟩ | ⟨_, e2⟩
              · rcases e with e | e
                · rw [e] at e1; cases e1
                · rw [e] at e1
                  cases e1
                  rw [e2, eqB_ne.2 rfl]; rfl
              · exact e2
            have fin : ∀ (ch : List (Nat × Bool)), ChOk (getN N (M.over b)) (getN N (s.over b)) D ch → (Tr (getN N (s.over b)) ch → getN N (s.over b) g = .sc (.bool v)) → (¬ Tr (getN N (s.over b)) ch → getN N (s.over b) g = .und) → GcSpec (getN N (M.over b)) (getN N (s.over b)) D g w (.cond ((g, w) :: ch)) := by
              intro ch c1 c2 c3
              refine ⟨⟨⟨v, by simp [gval, hm], c2, c3⟩, hg, c1⟩, fun ht => (tr_cons.1 ht).1, fun hn => ?_, ch, rfl⟩
              by_cases ht : Tr (getN N (s.over b)) ch
              · right
                rw [c2 ht]
                show some v = some (!w)
                cases hv : eqB v w with
                | true =>
                  obtain rfl := eqB_eq.1 hv
                  exact absurd (tr_cons.2 ⟨by rw [c2 ht]; rfl, ht⟩) hn
                | false => rw [eqB_ne.1 hv]
              · exact .inl (c3 ht)
            cases r with
            | on => exact fin [] trivial (fun _ => hon ih) (fun hn => absurd (fun x hx => nomatch hx) hn)
            | off => exact .inl (hoff ih)
            | cond ch => exact fin ch ih.1 (fun ht => hon (ih.2.1 ht)) (fun hn => hoff (ih.2.2.1 hn))
            | bad => trivial
          | _ => trivial
        | _ => trivial
      | _ => trivial
theorem when_sound {getM get : Nat → AV S.A} : ∀ {ch : List (Nat × Bool)} {h : Prop}, ChOk getM get D ch → whenC getM h ch → Tr get ch → h
  | [], h, _, hw, _ => hw
  | (g, w) :: r, h, ⟨⟨v, e1, e2, e3⟩, _, hr⟩, hw, ht => by
    obtain ⟨t1, t2⟩ := tr_cons.1 ht
    have e2 := e2 t2
    rw [e2] at t1
    have hvw : v = w := by cases t1; rfl
    simp only [whenC, e1] at hw
    cases w with
    | true => exact when_sound hr hw t2 hvw
    | false => exact when_sound hr hw t2 hvw
def KnOk (get : Nat → AV S.A) (D : List Nat) (kn : Kn) : Prop := ∀ g v, kn g = some v → boolA (get g) = some v ∧ g ∈ D
theorem knOk_set {get : Nat → AV S.A} {kn : Kn} {g : Nat} {v : Bool} (h : KnOk get D kn) (hv : boolA (get g) = some v) (hg : g ∈ D) : KnOk get D (knSet kn g v) := by
  intro g' v' e
  unfold knSet at e
  cases hq : Nat.beq g' g with
  | true => rw [hq] at e; cases e; obtain rfl := Nat.eq_of_beq_eq_true hq; exact ⟨hv, hg⟩
  | false => rw [hq] at e; exact h g' v' e
theorem split_sound {getM get : Nat → AV S.A} {koff : Kn → Prop} : ∀ {ch : List (Nat × Bool)} {kon : Kn → Prop} {kn : Kn}, ChOk getM get D ch → KnOk get D kn → splitG getM kon koff ch kn →
    (Tr get ch → ∃ kn', KnOk get D kn' ∧ kon kn') ∧ (¬ Tr get ch → ∃ kn', KnOk get D kn' ∧ koff kn')
  | [], kon, kn, _, hk, h => ⟨fun _ => ⟨kn, hk, h⟩, fun hn => absurd (fun x hx => nomatch hx) hn⟩
  | (g, w) :: r, kon, kn, ⟨⟨v, e1, e2, e3⟩, hg, hr⟩, hk, h => by
    have ih := split_sound hr hk h
    by_cases ht : Tr get r
    · obtain ⟨kn', k1, k2⟩ := ih.1 ht
      have e2 := e2 ht
      have hb : boolA (get g) = some v := by rw [e2]; rfl
      simp only [e1] at k2
      cases w with
      | true =>
        cases v with
        | true => exact ⟨fun _ => ⟨_, knOk_set k1 hb hg, k2⟩, fun hn => absurd (tr_cons.2 ⟨hb, ht⟩) hn⟩
        | false => exact ⟨fun t => absurd ((tr_cons.1 t).1.symm.trans hb) (by simp), fun _ => ⟨_, knOk_set k1 hb hg, k2⟩⟩
      | false =>
        cases v with
        | true => exact ⟨fun t => absurd ((tr_cons.1 t).1.symm.trans hb) (by simp), fun _ => ⟨_, knOk_set k1 hb hg, k2⟩⟩
        | false => exact ⟨fun _ => ⟨_, knOk_set k1 hb hg, k2⟩, fun hn => absurd (tr_cons.2 ⟨hb, ht⟩) hn⟩
    · exact ⟨fun t => absurd (tr_cons.1 t).2 ht, fun _ => ih.2 ht⟩
theorem memG_mem {g : Nat} {w : Bool} : ∀ {ch : List (Nat × Bool)}, memG g w ch = true → (g, w) ∈ ch
  | [], h => by cases h
  | (g', w') :: r, h => by
    simp only [memG, Bool.or_eq_true, Bool.and_eq_true] at h
    rcases h with ⟨h1, h2⟩ | h
    · obtain rfl := Nat.eq_of_beq_eq_true h1
      obtain rfl := eqB_eq.1 h2
      simp
    · exact List.mem_cons_of_mem _ (memG_mem h)
theorem strip_sound (h : Mg N b D kn M s) {ch : List (Nat × Bool)} (ht : Tr (getN N (s.over b)) ch) {k : Nat} (ho : okG kn ch (getN N (M.over b) k) = true) : stripG kn ch (getN N (M.over b) k) = getN N (s.over b) k := by
  have h1 := h.slot k
  revert h1 ho
  generalize getN N (M.over b) k = m
  generalize getN N (s.over b) k = q
  intro ho h1
  cases m with
  | grd g w p =>
    simp only [stripG, okG] at ho ⊢
    cases hk : kn g with
    | some v =>
      have := (h.kn g v hk).1
      rcases h1 with ⟨v', e1, e2⟩ | ⟨e1, _⟩
      · rw [this] at e1; cases e1; exact e2.symm
      · rw [e1] at this; cases this
    | none =>
      rw [hk] at ho
      have := ht _ (memG_mem ho)
      rcases h1 with ⟨v', e1, e2⟩ | ⟨e1, _⟩
      · have this : boolA (getN N (s.over b) g) = some w := this
        rw [this] at e1
        cases e1
        rw [e2, eqB_eq.2 rfl]; rfl
      · have this : boolA (getN N (s.over b) g) = some w := this
        rw [e1] at this; cases this
  | _ => exact h1.symm
/-! ### What an operation asks for hangs on its operands alone -/
theorem elems_congr {e : Nat} {g1 g2 : Nat → AV S.A} : ∀ {i : Nat} {parts : List (Nat × Operand)}, (∀ x ∈ parts, evA g1 x.2 = evA g2 x.2) → elemsA S e g1 i parts = elemsA S e g2 i parts
  | i, [], _ => rfl
  | i, (j, x) :: r, h => by
    simp only [elemsA]
    rw [h (j, x) (by simp), elems_congr (fun y hy => h y (by simp [hy]))]
theorem bound_congr {g1 g2 : Nat → AV S.A} {d : Int} {x : Option Operand} (h : ∀ y, x = some y → evA g1 y = evA g2 y) : boundA g1 d x = boundA g2 d x := by
  cases x with
  | none => rfl
  | some y => simp only [boundA]; rw [h y rfl]
theorem mapev_congr {g1 g2 : Nat → AV S.A} {xs : List Operand} (h : ∀ x ∈ xs, evA g1 x = evA g2 x) : xs.map (evA g1) = xs.map (evA g2) := List.map_congr_left h
theorem rq_congr {P : Program} {g1 g2 : Nat → AV S.A} {op : Op} (h : ∀ x ∈ op.operands.toList, evA g1 x = evA g2 x) : rq S P g1 op = rq S P g2 op := by
  cases op with
  | move x => simp only [rq]; rw [h x (by simp [Op.operands])]
  | assign x => simp only [rq]; rw [h x (by simp [Op.operands])]
  | box t x => simp only [rq]; rw [h x (by simp [Op.operands])]
  | load t a => simp only [rq]; rw [h a (by simp [Op.operands])]
  | store t a x => simp only [rq]; rw [h a (by simp [Op.operands]), h x (by simp [Op.operands])]
  | fieldAddr t x f => simp only [rq]; rw [h x (by simp [Op.operands])]
  | field t x f => simp only [rq]; rw [h x (by simp [Op.operands])]
  | extract x i => simp only [rq]; rw [h x (by simp [Op.operands])]
  | nilCheck x => simp only [rq]; rw [h x (by simp [Op.operands])]
  | panic x => simp only [rq]; rw [h x (by simp [Op.operands])]
  | binOp o t x y u => simp only [rq]; rw [h x (by simp [Op.operands]), h y (by simp [Op.operands])]
  | unOp o t x => simp only [rq]; rw [h x (by simp [Op.operands])]
  | convert u t x => simp only [rq]; rw [h x (by simp [Op.operands])]
  | indexAddr t x i => simp only [rq]; rw [h x (by simp [Op.operands]), h i (by simp [Op.operands])]
  | index t x i => simp only [rq]; rw [h x (by simp [Op.operands]), h i (by simp [Op.operands])]
  | slice t x lo hi mx =>
    simp only [rq]
    rw [h x (by simp [Op.operands]), bound_congr (x := lo) (fun y e => h y (by subst e; simp [Op.operands]))]
    have e2 : ∀ d, boundA g1 d hi = boundA g2 d hi := fun d => bound_congr (x := hi) (fun y e => h y (by subst e; simp [Op.operands]))
    have e3 : boundA g1 0 mx = boundA g2 0 mx := bound_congr (x := mx) (fun y e => h y (by subst e; simp [Op.operands]))
    simp only [e2, e3]
  | build t parts =>
    simp only [rq]
    rw [show (parts.toList.map fun x => (x.1, evA g1 x.2)) = parts.toList.map fun x => (x.1, evA g2 x.2) from List.map_congr_left fun x hx => by rw [h x.2 (by simp only [Op.operands, List.mem_map]; exact ⟨x, hx, rfl⟩)]]
  | buildSlice t n parts =>
    simp only [rq]
    have e : ∀ e, elemsA S e g1 0 parts.toList = elemsA S e g2 0 parts.toList := fun e => elems_congr fun x hx => h x.2 (by simp only [Op.operands, List.mem_map]; exact ⟨x, hx, rfl⟩)
    simp only [e]
  | makeFunc fn first caps =>
    cases fn with
    | func f =>
      simp only [rq]
      rw [mapev_congr (xs := caps.toList) fun x hx => h x (by simp [Op.operands]; right; simpa using hx)]
    | _ => rfl
  | call c =>
    obtain ⟨callee, args, ats⟩ := c
    have ha : ∀ x ∈ args.toList, evA g1 x = evA g2 x := fun x hx => h x (by simp [Op.operands, Call.operands]; right; simpa using hx)
    simp only [rq]
    cases callee with
    | builtin bi =>
      simp only []
      unfold rqBuiltin
      split
      · rename_i x t e1 e2
        rw [ha x (by rw [e1]; simp)]
      · rename_i x y t t' e1 e2
        have hm : ∀ e, rqMk S P g1 t' e x y = rqMk S P g2 t' e x y := fun e => by unfold rqMk; rw [ha x (by rw [e1]; simp), ha y (by rw [e1]; simp)]
        rw [ha x (by rw [e1]; simp), ha y (by rw [e1]; simp)]
        simp only [hm]
      · rename_i x y e1
        rw [ha x (by rw [e1]; simp), ha y (by rw [e1]; simp)]
      · rfl
    | value f =>
      simp only []
      rw [h f (by simp [Op.operands, Call.operands]), mapev_congr ha]
    | invoke r m => rfl
  | makeInterface ty x =>
    have hx : evA g1 x = evA g2 x := h x (by simp [Op.operands])
    simp only [rq, hx]
  | typeAssert x t1 t2 ok =>
    have hx : evA g1 x = evA g2 x := h x (by simp [Op.operands])
    cases ok <;> simp only [rq, hx]
  | _ => rfl
/-! ### From the executor's run to the split one -/
theorem evS (h : Mg N b D kn M s) {ch : List (Nat × Bool)} (ht : Tr (getN N (s.over b)) ch) {x : Operand} (ho : okX (getN N (M.over b)) kn ch x = true) : evA (fun k => stripG kn ch (getN N (M.over b) k)) x = evA (getN N (s.over b)) x := by
  cases x with
  | tmp t => exact strip_sound h ht ho
  | _ => rfl
/-- The executor's continuation, and the split one's. -/
def KRel (N : Nat) (b : XS S.A) (D D' : List Nat) (kn : Kn) (s : XS S.A) (kM kS : XS S.A → Prop) : Prop := ∀ M' s', Mg N b D' kn M' s' → (∀ g ∈ D, getN N (s'.over b) g = getN N (s.over b) g) → kM M' → kS s'
theorem Mg.putp (h : Mg N b D kn M s) {d : Nat} {p : AV S.A} (hd : d ∉ D) (hp : noG p) : Mg N b (d :: D) kn (M.put d p) (s.put d p) :=
  h.put2 (M' := M.put d p) (s' := s.put d p) (m := p) (q := p) hd rfl rfl h.L h.T h.c (slot_eq hp) (fun g w q e => by subst e; exact hp.elim)
theorem Mg.setL (h : Mg N b D kn M s) (i : Nat) (cs : Bx S.A) : Mg N b D kn (M.setL i cs) (s.setL i cs) :=
  h.mem2 (M' := M.setL i cs) (s' := s.setL i cs) rfl rfl (by show (fun k => bif Nat.beq k i then some cs else M.L k) = (fun k => bif Nat.beq k i then some cs else s.L k); rw [h.L]) h.T h.c
theorem Mg.setT (h : Mg N b D kn M s) (i sz m : Nat) : Mg N b D kn (M.setT i sz m) (s.setT i sz m) :=
  h.mem2 (M' := M.setT i sz m) (s' := s.setT i sz m) rfl rfl h.L (by show (fun k => bif Nat.beq k i then some ⟨sz, m, none⟩ else M.T k) = (fun k => bif Nat.beq k i then some ⟨sz, m, none⟩ else s.T k); rw [h.T]) h.c
theorem Mg.setP (h : Mg N b D kn M s) (i sz t : Nat) (l : List (S.A t)) : Mg N b D kn (M.setP i sz t l) (s.setP i sz t l) :=
  h.mem2 (M' := M.setP i sz t l) (s' := s.setP i sz t l) rfl rfl h.L (by show (fun k => bif Nat.beq k i then some ⟨sz, l.length, some ⟨t, l, 0⟩⟩ else M.T k) = (fun k => bif Nat.beq k i then some ⟨sz, l.length, some ⟨t, l, 0⟩⟩ else s.T k); rw [h.T]) h.c
theorem Mg.withM (h : Mg N b D kn M s) (m : XS S.A) : Mg N b D kn (M.withM m) (s.withM m) :=
  h.mem2 (M' := M.withM m) (s' := s.withM m) rfl rfl rfl rfl rfl
theorem agree_put {s' : XS S.A} {d : Nat} {p : AV S.A} (hd : d ∉ D) (he : s'.env = s.env) : ∀ g ∈ D, getN N ((s'.put d p).over b) g = getN N (s.over b) g := by
  intro g hg
  rw [getN_put, nbeq (fun e => by subst e; exact hd hg)]
  show getN N (s'.over b) g = _
  unfold getN XS.get XS.over
  simp only [he]
theorem bif_imp {b : Bool} {p q : Prop} (h : p → q) (e : bif b then p else False) : bif b then q else False := by
  cases b
  · exact e
  · exact h e
theorem exec_mg {call : CallT S} (hcm : ∀ f args m k k' kp kp', (∀ r m, k r m → k' r m) → (∀ r m, kp r m → kp' r m) → call f args m k kp → call f args m k' kp') (hkm : ∀ f W, Ab.look C.K f = some (.tr W) → ∀ args k k', (∀ r, k r → k' r) → W args k → W args k')
    (h : Mg N b D kn M s) {id : Nat} {d : Option Nat} {kM kS : XS S.A → Prop} {kpM kpS : AV S.A → XS S.A → Prop} {op : Op} {r : Rq S.A} (hd : ∀ e, d = some e → e ∉ D)
    (hk : KRel N b D (addD d D) kn s kM kS) (hkp : ∀ p M' s', M'.L = s'.L → M'.T = s'.T → M'.c = s'.c → kpM p M' → kpS p s') (e : exec C call b id d M kM kpM op r) : exec C call b id d s kS kpS op r := by
  have put : ∀ {M' s' : XS S.A} {x : Nat} {p : AV S.A}, Mg N b D kn M' s' → s'.env = s.env → d = some x → noG p → kM (M'.put x p) → kS (s'.put x p) := by
    intro M' s' x p h he' he hp h1
    subst he
    exact hk _ _ (h.putp (hd x rfl) hp) (agree_put (hd x rfl) he') h1
  cases r with
  | bad => exact e
  | v p =>
    simp only [exec] at e ⊢
    split at e
    · exact put h rfl rfl (noG_unG p) e
    · exact e
  | vc c p =>
    simp only [exec] at e ⊢
    split at e
    · exact ⟨e.1, put h rfl rfl (noG_unG p) e.2⟩
    · exact e
  | ld x off n ag =>
    simp only [exec] at e ⊢
    rw [h.overL] at e
    split at e
    · rename_i t y d' ps e1
      cases hb : (Nat.beq ((ps.cs.drop off).take n).length n && (ag || Nat.beq n 1)) with
      | false => rw [hb] at e; exact e.elim
      | true => rw [hb] at e; exact put h rfl rfl (noG_unG _) e
    · exact e.elim
  | box bx =>
    simp only [exec] at e ⊢
    split at e
    · cases hb : bx.cs.all isCell with
      | false => rw [hb] at e; exact e.elim
      | true => rw [hb] at e; exact put (h.setL id _) rfl rfl trivial e
    · cases hb : bx.cs.all isCell with
      | false => rw [hb] at e; exact e.elim
      | true => rw [hb] at e; exact put (h.setL id _) rfl rfl trivial e
    · exact e.elim
  | st x off n cs =>
    simp only [exec] at e ⊢
    rw [h.overL] at e
    split at e
    · rename_i t y z ps e1
      cases hb : (Nat.beq cs.length n && (Nat.ble (off + n) ps.cs.length && cs.all isCell)) with
      | false => rw [hb] at e; exact e.elim
      | true =>
        rw [hb] at e
        exact hk _ _ (h.setL x _) (fun g _ => rfl) e
    · exact e.elim
  | tip t l =>
    simp only [exec] at e ⊢
    split at e
    · exact put (h.setT id _ _) rfl rfl trivial e
    · exact e.elim
  | app q t bytes l ext =>
    simp only [exec] at e ⊢
    rw [h.overT] at e
    split at e
    · rename_i c d' sz m e1
      cases hb : Nat.beq sz (szOf S t) with
      | false => rw [hb] at e; exact e.elim
      | true =>
        rw [hb] at e
        simp only [Bool.not_true, cond_false] at e ⊢
        cases hm : (memN t C.mt && sameT c) with
        | true => rw [hm] at e; exact ⟨e.1, fun y hy => put (h.setP q _ _ _) rfl rfl trivial (e.2 y hy)⟩
        | false => rw [hm] at e; exact ⟨e.1, fun y hy => put (h.setT q _ _) rfl rfl trivial (e.2 y hy)⟩
    · exact e.elim
  | app0 t bytes ext =>
    simp only [exec] at e ⊢
    split at e
    · cases hm : memN t C.mt with
      | true => rw [hm] at e; exact ⟨e.1, fun y hy => put (h.setP id _ _ _) rfl rfl trivial (e.2 y hy)⟩
      | false => rw [hm] at e; exact ⟨e.1, fun y hy => put (h.setT id _ _) rfl rfl trivial (e.2 y hy)⟩
    · exact e.elim
  | papp q t bytes n ext =>
    simp only [exec] at e ⊢
    rw [h.overT] at e
    split at e
    · rename_i c d' sz m u l pad e1
      cases hb : Nat.beq sz (szOf S t) with
      | false => rw [hb] at e; exact e.elim
      | true =>
        rw [hb] at e
        simp only [Bool.not_true, cond_false] at e ⊢
        split at e
        · rename_i hu
          rw [dif_pos hu]
          exact ⟨e.1, fun y hy => put (h.setP q _ _ _) rfl rfl trivial (e.2 y hy)⟩
        · exact e.elim
    · exact e.elim
  | ch c =>
    simp only [exec] at e ⊢
    split at e
    · exact fun v hv => put h rfl rfl trivial (e v hv)
    · exact e
  | eld x off e' i ag =>
    simp only [exec] at e ⊢
    rw [h.overL] at e
    split at e
    · split at e
      · rename_i hu
        rw [dif_pos hu]
        exact bif_imp (fun e => ⟨e.1, put h rfl rfl (noG_unG _) e.2⟩) e
      · exact e.elim
    · exact e.elim
  | est x off e' i v =>
    simp only [exec] at e ⊢
    rw [h.overL] at e
    split at e
    · split at e
      · rename_i hu
        rw [dif_pos hu]
        exact bif_imp (fun e => ⟨e.1, hk _ _ (h.setL x _) (fun g _ => rfl) e.2⟩) e
      · exact e.elim
    · exact e.elim
  | tld q n e' i ag =>
    simp only [exec] at e ⊢
    rw [h.overT] at e
    split at e
    · split at e
      · rename_i hu
        rw [dif_pos hu]
        exact bif_imp (fun e => ⟨e.1, put h rfl rfl (noG_unG _) e.2⟩) e
      · exact e.elim
    · exact e.elim
  | tst q n e' i v =>
    simp only [exec] at e ⊢
    rw [h.overT] at e
    split at e
    · split at e
      · rename_i hu
        rw [dif_pos hu]
        exact bif_imp (fun e => ⟨e.1, hk _ _ (h.setP q _ _ _) (fun g _ => rfl) e.2⟩) e
      · exact e.elim
    · exact e.elim
  | call f args =>
    simp only [exec] at e ⊢
    split at e
    · rename_i c d'
      cases hb : (fnB C.P f && args.all flatA) with
      | false => rw [hb] at e; exact e.elim
      | true =>
        rw [hb] at e
        simp only [cond_true] at e ⊢
        split at e
        · rename_i W hW
          exact hkm f W hW args _ _ (fun r hr => put h rfl rfl (noG_unG r) hr) e
        · split at e
          · exact put h rfl rfl (noG_unG _) e
          · exact e
        · split at e
          · rw [h.overT] at e
            split at e
            · split at e
              · rename_i hu
                rw [dif_pos hu]
                exact bif_imp (fun e => ⟨e.1, fun y hy1 hy2 => put (h.setP _ _ _ _) rfl rfl trivial (e.2 y hy1 hy2)⟩) e
              · exact e.elim
            · exact e.elim
          · exact bif_imp (fun e => put h rfl rfl trivial e) e
          · exact e.elim
        · split at e
          · rename_i e1 _ _ _ _ _ _
            cases hm : memN e1 C.mt with
            | true => rw [hm] at e; exact ⟨e.1, fun y hy => put (h.setP _ _ _ _) rfl rfl trivial (e.2 y hy)⟩
            | false => rw [hm] at e; exact ⟨e.1, fun y hy => put (h.setT _ _ _) rfl rfl trivial (e.2 y hy)⟩
          · exact e.elim
        · split at e
          · rw [h.overL] at e
            split at e
            · split at e
              · split at e
                · exact withP_mono (fun e u hu => put (h.setL _ _) rfl rfl (noG_unG _) (e u hu)) e
                · exact e.elim
              · exact e.elim
            · exact e.elim
          · exact e.elim
        · rw [h.mem] at e
          refine hcm f args _ _ _ (fun p m => kpM p (M.withM m)) _ (fun r m hr => ?_) (fun p m hp => hkp p (M.withM m) (s.withM m) rfl rfl rfl hp) e
          exact put (h.withM m) rfl rfl (noG_unG r) hr
    · exact e.elim
  | panic p =>
    simp only [exec] at e ⊢
    split at e
    · cases hdr : C.dr with
      | true => rw [hdr] at e; exact e.elim
      | false => rw [hdr] at e; exact hkp p M s h.L h.T h.c e
    · exact e.elim
theorem sel_sc {v : Bool} {x y p : AV S.A} (h : selB v x y = some p) : ∃ a a', x = .sc (.bool a) ∧ y = .sc (.bool a') ∧ p = .sc (.bool (cond v a a')) := by
  unfold selB at h
  split at h
  · rename_i a a'; cases h; exact ⟨a, a', rfl, rfl, rfl⟩
  · cases h
theorem exec_rqP {call : CallT S} {id : Nat} {d : Option Nat} {s : XS S.A} {k : XS S.A → Prop} {kp : AV S.A → XS S.A → Prop} {op : Op} {pl : Bool} {r : Rq S.A} (h : exec C call b id d s k kp op (rqP pl r)) : exec C call b id d s k kp op r := by
  cases pl with
  | false => exact h
  | true => cases r <;> first | exact h | exact h.elim
/-- An operation that is carried out, where its guards hold. -/
theorem go_mg {call : CallT S} (hcm : ∀ f args m k k' kp kp', (∀ r m, k r m → k' r m) → (∀ r m, kp r m → kp' r m) → call f args m k kp → call f args m k' kp') (hkm : ∀ f W, Ab.look C.K f = some (.tr W) → ∀ args k k', (∀ r, k r → k' r) → W args k → W args k')
    (h : Mg N b D kn M s) {ch : List (Nat × Bool)} (ht : Tr (getN N (s.over b)) ch) {id : Nat} {d : Option Nat} {kM kS : XS S.A → Prop} {kpM kpS : AV S.A → XS S.A → Prop} {op : Op} {pl : Bool} (hd : ∀ e, d = some e → e ∉ D)
    (hk : KRel N b D (addD d D) kn s kM kS) (hkp : ∀ p M' s', M'.L = s'.L → M'.T = s'.T → M'.c = s'.c → kpM p M' → kpS p s') (e : exec C call b id d M kM kpM op (rqP pl (rqM C (getN N (M.over b)) kn ch op))) : goS C pl N call b id d s kS kpS op := by
  have other : (∀ c x y, op ≠ .pick c x y) → goS C pl N call b id d s kS kpS op := by
    intro hne
    have e1 : rqM C (getN N (M.over b)) kn ch op = bif op.operands.toList.all (okX (getN N (M.over b)) kn ch) then rq S C.P (fun k => stripG kn ch (getN N (M.over b) k)) op else .bad := by
      cases op <;> first | rfl | exact absurd rfl (hne _ _ _)
    have e2 : goS C pl N call b id d s kS kpS op = exec C call b id d s kS kpS op (rqP pl (rq S C.P (getN N (s.over b)) op)) := by
      cases op <;> first | rfl | exact absurd rfl (hne _ _ _)
    rw [e1] at e
    rw [e2]
    cases hb : op.operands.toList.all (okX (getN N (M.over b)) kn ch) with
    | false => rw [hb] at e; exact (exec_rqP e).elim
    | true =>
      rw [hb] at e
      rw [List.all_eq_true] at hb
      have := rq_congr (P := C.P) (op := op) (g1 := fun k => stripG kn ch (getN N (M.over b) k)) (g2 := getN N (s.over b)) (fun x hx => evS h ht (hb x hx))
      rw [cond_true, this] at e
      exact exec_mg hcm hkm h hd hk hkp e
  by_cases hp : ∃ c x y, op = .pick c x y
  · have e := exec_rqP e
    obtain ⟨c, x, y, rfl⟩ := hp
    cases c with
    | tmp g =>
      simp only [rqM] at e
      cases ho : okG kn ch (getN N (M.over b) g) with
      | false => rw [ho] at e; exact e.elim
      | true =>
        rw [ho] at e
        simp only [Bool.not_true, cond_false] at e
        have hg := strip_sound h ht ho
        rw [hg] at e
        have fin : ∀ {p : AV S.A}, exec C call b id d M kM kpM (.pick (.tmp g) x y) (.v p) → ∃ d', d = some d' ∧ kM (M.put d' (unG p)) := by
          intro p e
          simp only [exec] at e
          split at e
          · exact ⟨_, rfl, e⟩
          · exact e.elim
        have put : ∀ {d' : Nat} {p : AV S.A}, d = some d' → kM (M.put d' (unG p)) → kS (s.put d' (unG p)) := by
          intro d' p he h1
          subst he
          exact hk _ _ (h.putp (hd d' rfl) (noG_unG p)) (agree_put (hd d' rfl) rfl) h1
        split at e
        · rename_i v hv hkn
          have hkv := (h.kn g true hkn).1
          rw [hv] at hkv
          cases hkv
          cases hx : okX (getN N (M.over b)) kn ch x with
          | false => rw [hx] at e; exact e.elim
          | true =>
            rw [hx, cond_true] at e
            obtain ⟨d', rfl, e⟩ := fin e
            rw [evS h ht hx] at e
            simp only [goS]
            rw [show evA (getN N (s.over b)) (.tmp g) = _ from hv]
            exact ⟨fun _ => put rfl e, fun hf => by cases hf⟩
        · rename_i v hv hkn
          have hkv := (h.kn g false hkn).1
          rw [hv] at hkv
          cases hkv
          cases hx : okX (getN N (M.over b)) kn ch y with
          | false => rw [hx] at e; exact e.elim
          | true =>
            rw [hx, cond_true] at e
            obtain ⟨d', rfl, e⟩ := fin e
            rw [evS h ht hx] at e
            simp only [goS]
            rw [show evA (getN N (s.over b)) (.tmp g) = _ from hv]
            exact ⟨fun hf => (by cases hf), fun _ => put rfl e⟩
        · rename_i v hv hkn
          cases hx : (okX (getN N (M.over b)) kn ((g, true) :: ch) x && okX (getN N (M.over b)) kn ((g, false) :: ch) y) with
          | false => rw [hx] at e; exact e.elim
          | true =>
            rw [hx, cond_true] at e
            rw [Bool.and_eq_true] at hx
            split at e
            · rename_i p hsel
              obtain ⟨d', rfl, e⟩ := fin e
              obtain ⟨a1, a2, h1, h2, rfl⟩ := sel_sc hsel
              simp only [goS]
              rw [show evA (getN N (s.over b)) (.tmp g) = _ from hv]
              refine ⟨fun hvt => ?_, fun hvf => ?_⟩
              · have t1 : Tr (getN N (s.over b)) ((g, true) :: ch) := tr_cons.2 ⟨by rw [hv, hvt]; rfl, ht⟩
                rw [evS h t1 hx.1] at h1
                rw [h1]
                rw [hvt] at e
                exact put rfl e
              · have t1 : Tr (getN N (s.over b)) ((g, false) :: ch) := tr_cons.2 ⟨by rw [hv, hvf]; rfl, ht⟩
                rw [evS h t1 hx.2] at h2
                rw [h2]
                rw [hvf] at e
                exact put rfl e
            · exact e.elim
        · exact e.elim
    | _ => exact e.elim
  · exact other (fun c x y e => hp ⟨c, x, y, e⟩)
theorem Mg.regrd {M : XS S.A} {d g : Nat} {w : Bool} {q : AV S.A} {s' : XS S.A} (h : Mg N b D kn (M.put d q) s') (hq : noG q) (hg : g ∈ D) (hb : boolA (getN N (s'.over b) g) = some w) : Mg N b D kn (M.put d (.grd g w q)) s' where
  L := h.L
  T := h.T
  c := h.c
  kn := h.kn
  slot k := by
    have h1 := h.slot k
    rw [getN_put] at h1 ⊢
    cases hk : Nat.beq k d with
    | true =>
      rw [hk] at h1
      simp only [cond_true] at h1 ⊢
      cases hN : Nat.blt k N with
      | true =>
        rw [hN] at h1
        simp only [cond_true] at h1 ⊢
        refine .inl ⟨w, hb, ?_⟩
        rw [eqB_eq.2 rfl]
        show _ = q
        revert h1
        cases q <;> first | exact fun h => h | exact hq.elim
      | false => rw [hN] at h1; exact h1
    | false => rw [hk] at h1; exact h1
  pay k g' w' p e := by
    have h1 := h.pay k g' w' p
    rw [getN_put] at h1 e
    cases hk : Nat.beq k d with
    | true =>
      rw [hk] at e
      simp only [cond_true] at e
      cases hN : Nat.blt k N with
      | true => rw [hN] at e; cases e; exact ⟨hg, hq⟩
      | false => rw [hN] at e; cases e
    | false => rw [hk] at h1 e; exact h1 e
theorem Mg.putUnd {d g : Nat} {w : Bool} {q : AV S.A} (h : Mg N b D kn M s) (hd : d ∉ D) (hq : noG q) (hg : g ∈ D) (hu : getN N (s.over b) g = .und ∨ boolA (getN N (s.over b) g) = some (!w)) : Mg N b (d :: D) kn (M.put d (.grd g w q)) (s.put d .und) := by
  refine h.put2 (M' := M.put d (.grd g w q)) (s' := s.put d .und) (m := .grd g w q) (q := .und) hd rfl rfl h.L h.T h.c ?_ (fun g' w' p e => by cases e; exact ⟨hg, hq⟩)
  have e : getN N ((s.put d .und).over b) g = getN N (s.over b) g := agree_put hd rfl g hg
  rcases hu with hu | hu
  · exact .inr ⟨by rw [e]; exact hu, rfl⟩
  · exact .inl ⟨!w, by rw [e]; exact hu, by rw [eqB_ne.2 rfl]; rfl⟩
section run
variable {call : CallT S} {ops : List Oper} {idf : Nat → XS S.A → Nat} {nx : XS S.A → XS S.A} {kp : AV S.A → XS S.A → Prop}
/-- The executor's run of a region, and the run that splits every guard. -/
theorem run_mg (hcm : ∀ f args m k k' kp kp', (∀ r m, k r m → k' r m) → (∀ r m, kp r m → kp' r m) → call f args m k kp → call f args m k' kp') (hkm : ∀ f W, Ab.look C.K f = some (.tr W) → ∀ args k k', (∀ r, k r → k' r) → W args k → W args k')
    (hkp : ∀ p (M' s' : XS S.A), M'.L = s'.L → M'.T = s'.T → M'.c = s'.c → kp p M' → kp p s') (hidf : ∀ i M s, M.c = s.c → idf i M = idf i s) (hnx : ∀ D kn M s, Mg N b D kn M s → Mg N b D kn (nx M) (nx s))
    {kM kS : XS S.A → Prop} (hend : ∀ D kn M s, Mg N b D kn M s → kM M → kS s) : ∀ (l : List (Nat × Oper)) (D : List Nat) (kn : Kn) (M s : XS S.A), regOk ops D l = true → Mg N b D kn M s → runM C N call b ops idf nx kp l M kn kM → runS C N call b ops idf nx kp l s kS
  | [], D, kn, M, s, _, h, e => hend D kn M s h e
  | (i, o) :: r, D, kn, M, s, hreg, h, e => by
    simp only [regOk, Bool.and_eq_true] at hreg
    obtain ⟨⟨hreg1, hreg2⟩, hreg3⟩ := hreg
    have hd : ∀ d, o.dst = some d → d ∉ D := by
      intro d hd hm
      rw [hd] at hreg1
      simp only [Bool.not_eq_true', memN_mem.2 hm] at hreg1
      cases hreg1
    simp only [runM] at e
    simp only [runS, stepS]
    cases hN : dstB N o.dst with
    | false => rw [hN] at e; exact e.elim
    | true =>
    rw [hN] at e
    simp only [Bool.not_true, cond_false] at e
    refine ⟨rfl, ?_⟩
    have go : ∀ {kn : Kn}, Mg N b D kn M s → exec C call b (idf i M) o.dst M (fun s' => runM C N call b ops idf nx kp r (nx s') kn kM) kp o.op (rqP (ptLoad C.P ops o.op) (rqM C (getN N (M.over b)) kn [] o.op)) → goS C (ptLoad C.P ops o.op) N call b (idf i s) o.dst s (fun s' => runS C N call b ops idf nx kp r (nx s') kS) kp o.op := by
      intro kn h e
      rw [hidf i M s h.c] at e
      exact go_mg hcm hkm h tr_nil hd (fun M' s' h' _ e' => run_mg hcm hkm hkp hidf hnx hend r _ kn _ _ hreg3 (hnx _ _ _ _ h') e') hkp e
    cases hg : o.guard with
    | none => rw [hg] at e; exact go h e
    | some jw =>
      obtain ⟨j, w⟩ := jw
      rw [hg] at e hreg2
      simp only at e hreg2 ⊢
      cases hj : dstOf ops j with
      | none => rw [hj] at e; exact e.elim
      | some g =>
        cases hdd : o.dst with
        | none => rw [hj, hdd] at e; exact e.elim
        | some d =>
          rw [hj] at e hreg2
          rw [hdd] at e go hreg3
          have hgD : g ∈ D := memN_mem.1 hreg2
          have hdD := hd d hdd
          simp only at e ⊢
          have spec := gcond_spec h ops.length g w hgD
          have und : ∀ {kn : Kn}, Mg N b D kn M s → runM C N call b ops idf nx kp r (nx (M.putO (some d) .und)) kn kM → runS C N call b ops idf nx kp r (nx (s.put d .und)) kS :=
            fun h e => run_mg hcm hkm hkp hidf hnx hend r _ _ _ _ hreg3 (hnx _ _ _ _ (h.putp hdD trivial)) e
          have fin : ∀ {T : Prop}, (T → boolA (getN N (s.over b) g) = some w) → (¬ T → getN N (s.over b) g = .und ∨ boolA (getN N (s.over b) g) = some (!w)) → (T → goS C (ptLoad C.P ops o.op) N call b (idf i s) (some d) s (fun s' => runS C N call b ops idf nx kp r (nx s') kS) kp o.op) → (¬ T → runS C N call b ops idf nx kp r (nx (s.put d .und)) kS) →
              (getN N (s.over b) g = .und → runS C N call b ops idf nx kp r (nx (s.put d .und)) kS) ∧ (∀ v, boolA (getN N (s.over b) g) = some v → (v = w → goS C (ptLoad C.P ops o.op) N call b (idf i s) (some d) s (fun s' => runS C N call b ops idf nx kp r (nx s') kS) kp o.op) ∧ (v = (!w) → runS C N call b ops idf nx kp r (nx (s.put d .und)) kS)) ∧ (getN N (s.over b) g = .und ∨ ∃ v, boolA (getN N (s.over b) g) = some v) := by
            intro T h1 h2 h3 h4
            by_cases hT : T
            · have e1 := h1 hT
              exact ⟨fun hu => (by rw [hu] at e1; cases e1), fun v hv => ⟨fun _ => h3 hT, fun hw => (by rw [e1] at hv; cases hv; cases w <;> cases hw)⟩, .inr ⟨w, e1⟩⟩
            · rcases h2 hT with hu | hu
              · exact ⟨fun _ => h4 hT, fun v hv => (by rw [hu] at hv; cases hv), .inl hu⟩
              · exact ⟨fun _ => h4 hT, fun v hv => ⟨fun hw => (by rw [hu] at hv; cases hv; cases w <;> cases hw), fun _ => h4 hT⟩, .inr ⟨_, hu⟩⟩
          cases hc : gcond (getN N (M.over b)) kn g w ops.length with
          | on =>
            rw [hc] at e spec
            exact fin (T := True) (fun _ => spec) (fun h => (h trivial).elim) (fun _ => go h e) (fun h => (h trivial).elim)
          | off =>
            rw [hc] at e spec
            exact fin (T := False) (fun h => h.elim) (fun _ => spec) (fun h => h.elim) (fun _ => und h e)
          | bad => rw [hc] at e; exact e.elim
          | cond ch =>
            rw [hc] at e spec
            obtain ⟨hch, hon, hoff, _⟩ := spec
            simp only at e
            have quiet : ∀ {q : AV S.A}, noG q → runM C N call b ops idf nx kp r (nx (M.put d (.grd g w q))) kn kM → (∀ kM' : XS S.A → Prop, kM' (M.put d q) → Tr (getN N (s.over b)) ch → exec C call b (idf i s) (some d) M kM' kp o.op (rqP (ptLoad C.P ops o.op) (rqM C (getN N (M.over b)) kn ch o.op))) →
                (Tr (getN N (s.over b)) ch → goS C (ptLoad C.P ops o.op) N call b (idf i s) (some d) s (fun s' => runS C N call b ops idf nx kp r (nx s') kS) kp o.op) ∧ (¬ Tr (getN N (s.over b)) ch → runS C N call b ops idf nx kp r (nx (s.put d .und)) kS) := by
              intro q hq e1 e2
              refine ⟨fun ht => ?_, fun hn => ?_⟩
              · refine go_mg hcm hkm (kM := fun M' => M' = M.put d q) h ht (by rw [← hdd]; exact hd) (fun M' s' h' hag hM => ?_) hkp (e2 _ rfl ht)
                subst hM
                exact run_mg hcm hkm hkp hidf hnx hend r _ kn _ _ hreg3 (hnx _ _ _ _ (h'.regrd hq (List.mem_cons_of_mem _ hgD) (by rw [hag g hgD]; exact hon ht))) e1
              · exact run_mg hcm hkm hkp hidf hnx hend r _ kn _ _ hreg3 (hnx _ _ _ _ (h.putUnd hdD hq hgD (hoff hn))) e1
            have rest : splitG (getN N (M.over b)) (fun kn => exec C call b (idf i M) (some d) M (fun s' => runM C N call b ops idf nx kp r (nx s') kn kM) kp o.op (rqP (ptLoad C.P ops o.op) (rqM C (getN N (M.over b)) kn [] o.op)))
                (fun kn => runM C N call b ops idf nx kp r (nx (M.putO (some d) .und)) kn kM) ch kn → (Tr (getN N (s.over b)) ch → goS C (ptLoad C.P ops o.op) N call b (idf i s) (some d) s (fun s' => runS C N call b ops idf nx kp r (nx s') kS) kp o.op) ∧ (¬ Tr (getN N (s.over b)) ch → runS C N call b ops idf nx kp r (nx (s.put d .und)) kS) := by
              intro e
              have := split_sound hch h.kn e
              exact ⟨fun ht => by obtain ⟨kn', k1, k2⟩ := this.1 ht; exact go { h with kn := k1 } k2, fun hn => by obtain ⟨kn', k1, k2⟩ := this.2 hn; exact und { h with kn := k1 } k2⟩
            have both : (Tr (getN N (s.over b)) ch → goS C (ptLoad C.P ops o.op) N call b (idf i s) (some d) s (fun s' => runS C N call b ops idf nx kp r (nx s') kS) kp o.op) ∧ (¬ Tr (getN N (s.over b)) ch → runS C N call b ops idf nx kp r (nx (s.put d .und)) kS) := by
              cases hrq : rqP (ptLoad C.P ops o.op) (rqM C (getN N (M.over b)) kn ch o.op) with
              | v p =>
                rw [hrq] at e quiet
                exact quiet (noG_unG p) e (fun kM' h1 _ => h1)
              | vc c p =>
                rw [hrq] at e quiet
                exact quiet (noG_unG p) e.2 (fun kM' h1 ht => ⟨when_sound hch e.1 ht, h1⟩)
              | ld x off n ag =>
                rw [hrq] at e quiet
                simp only [exec] at e quiet
                split at e
                · rename_i t y ps ho hL
                  cases hb : (Nat.beq ((ps.cs.drop off).take n).length n && (ag || Nat.beq n 1)) with
                  | false => rw [hb] at e; exact e.elim
                  | true =>
                    rw [hb] at e
                    refine quiet (noG_unG _) e (fun kM' h1 _ => ?_)
                    rw [ho, hL]
                    simp only [hb, cond_true]
                    exact h1
                · exact e.elim
              | bad => rw [hrq] at e; exact rest e
              | box cs => rw [hrq] at e; exact rest e
              | st x off n cs => rw [hrq] at e; exact rest e
              | tip t l => rw [hrq] at e; exact rest e
              | app q t bytes l ext => rw [hrq] at e; exact rest e
              | app0 t bytes ext => rw [hrq] at e; exact rest e
              | call f args => rw [hrq] at e; exact rest e
              | panic p => rw [hrq] at e; exact rest e
              | ch c => rw [hrq] at e; exact rest e
              | eld x off e' i ag => rw [hrq] at e; exact rest e
              | est x off e' i v => rw [hrq] at e; exact rest e
              | tld q n e' i ag => rw [hrq] at e; exact rest e
              | tst q n e' i v => rw [hrq] at e; exact rest e
              | papp q t bytes n ext => rw [hrq] at e; exact rest e
            exact fin hon hoff both.1 both.2
end run
end reg
end Go.Rx
/-! One operation, guard and all; regions whose order is fixed. -/
namespace Go.Rx
open Go.Ab Go.RowKit
set_option linter.unusedVariables false
set_option linter.unusedSimpArgs false
section step
variable {S : Sys} {C : Cfg S} {call : CallT S} {b : XS S.A} {B : Base} {F : Fr S} {Q : Nat → Prop} {s : XS S.A} {o : Oper} {k : XS S.A → Prop} {kp : AV S.A → XS S.A → Prop} {ops : Array Oper} {id : Nat}
theorem boolA_sc {p : AV S.A} {v : Bool} (h : boolA p = some v) : p = .sc (.bool v) := by
  cases p with
  | sc u => cases u <;> first | (cases h; rfl) | cases h
  | _ => cases h
theorem getN_lt {N k : Nat} {s : XS S.A} (h : getN N s k ≠ .any) : Nat.blt k N = true := by
  unfold getN at h
  cases hq : Nat.blt k N with
  | true => rfl
  | false => rw [hq] at h; exact (h rfl).elim
theorem den_env {F : Fr S} {s : XS S.A} {k : Nat} (h : Nat.blt k F.N = true) : (den F s).env k = denV (getN F.N s k) := by
  show cond (Nat.blt k F.N) _ _ = denV (bif Nat.blt k F.N then _ else _)
  rw [h]; rfl
theorem dstOf_some {ops : Array Oper} {j g : Nat} (h : dstOf ops.toList j = some g) : ∃ og, ops[j]? = some og ∧ og.dst = some g := by
  unfold dstOf at h
  split at h
  · rename_i o ho; exact ⟨o, by simpa using ho, h⟩
  · cases h
/-- An operation that is carried out, choices split. -/
theorem go_sound (hcall : CallOk C.P b call) (hK : ∀ f W, Ab.look C.K f = some W → ConOk C.P f W) (hpin : POk S B) (hQ : ∀ n, Q n → n < s.c) (hid : ¬ Q id) (hw : WF Q F (s.over b)) (hd : dstB F.N o.dst = true)
    {pl : Bool} (h : goS C pl F.N call b id o.dst s k kp o.op) {g : Gh} {a : Act} {w : World} (hr : Rel B (den F (s.over b)) g a w)
    (K : Act → World → Prop) (R : Exit → Act → World → Prop) (hk : ∀ a w, Next B F b s.c (fun n => Q n ∨ n = id) k a w → K a w) (hkp : ∀ e a w, Ends B F b s.c Q kp e a w → R e a w) : o.wp C.P a w K R := by
  by_cases hp : ∃ c x y, o.op = .pick c x y
  · obtain ⟨c, x, y, ho⟩ := hp
    rw [ho] at h
    simp only [goS] at h
    split at h
    · rename_i d v hdd hv
      have hN : Nat.blt d F.N = true := by rw [hdd] at hd; exact hd
      have hc : (den F (s.over b)).ev c = .sc (.bool v) := by rw [ev_den, boolA_sc hv]; rfl
      have fin : ∀ z : Operand, (den F (s.over b)).ev z = (bif v then (den F (s.over b)).ev x else (den F (s.over b)).ev y) → k (s.put d (unG (evA (getN F.N (s.over b)) z))) → o.wp C.P a w K R := by
        intro z hz hkz
        refine (step_pick (σ := den F (s.over b)) hdd (blt hN) ho hc (p := (den F (s.over b)).ev z) (fun e => by rw [hz, e]; rfl) (fun e => by rw [hz, e]; rfl)) g a w hr K R fun g' a' w' hr' => hk _ _ ⟨_, g', hkz, Nat.le_refl _, ?_, ?_⟩
        · rw [over_put]; exact wf_or ((hw.put (inV_unG (hw.ev z))).mono fun _ => .inl)
        · rw [over_put, den_put hN, den_unG, ← ev_den]; exact hr'
      cases v with
      | true => exact fin x rfl (h.1 rfl)
      | false => exact fin y rfl (h.2 rfl)
    · exact h.elim
  · have e : goS C pl F.N call b id o.dst s k kp o.op = exec C call b id o.dst s k kp o.op (rqP pl (rq S C.P (getN F.N (s.over b)) o.op)) := by
      unfold goS
      split
      · rename_i c x y ho; exact absurd ⟨c, x, y, ho⟩ hp
      · rfl
    rw [e] at h
    exact exec_sound hcall hK hpin hQ hid hw hd (exec_rqP h) hr K R hk hkp
/-- An operation, guard and all. -/
theorem step_sound (hcall : CallOk C.P b call) (hK : ∀ f W, Ab.look C.K f = some W → ConOk C.P f W) (hpin : POk S B) (hQ : ∀ n, Q n → n < s.c) (hid : ¬ Q id) (hw : WF Q F (s.over b))
    (h : stepS C F.N call b ops.toList id o s k kp) {g : Gh} {a : Act} {w : World} (hr : Rel B (den F (s.over b)) g a w)
    (K : Act → World → Prop) (R : Exit → Act → World → Prop) (hk : ∀ a w, Next B F b s.c (fun n => Q n ∨ n = id) k a w → K a w) (hkp : ∀ e a w, Ends B F b s.c Q kp e a w → R e a w) :
    if Region.wanted o (yielded ops a.tmps) then o.wp C.P a w K R else K (a.put o.dst undef) w := by
  obtain ⟨hd, h⟩ := h
  cases hg : o.guard with
  | none =>
    rw [hg] at h
    rw [if_pos (by simp [Region.wanted, hg])]
    exact go_sound hcall hK hpin hQ hid hw hd h hr K R hk hkp
  | some jw =>
    obtain ⟨j, w0⟩ := jw
    rw [hg] at h
    simp only at h
    split at h
    · rename_i gs d hj hdd
      obtain ⟨og, hog, hogd⟩ := dstOf_some hj
      have hN : Nat.blt d F.N = true := by rw [hdd] at hd; exact hd
      obtain ⟨h1, h2, h3⟩ := h
      have off : k (s.put d .und) → K (a.put o.dst undef) w := by
        intro hk'
        rw [hdd]
        refine hk _ _ ⟨_, g, hk', Nat.le_refl _, ?_, ?_⟩
        · rw [over_put]; exact wf_or ((hw.put (by trivial)).mono fun _ => .inl)
        · rw [over_put, den_put hN]; exact hr.put (blt hN) rfl
      rcases h3 with hu | ⟨v, hv⟩
      · have hlt := getN_lt (N := F.N) (s := s.over b) (k := gs) (by rw [hu]; exact fun e => by cases e)
        have : ¬ Region.wanted o (yielded ops a.tmps) = true := by
          have hN2 : gs < a.tmps.size := by rw [hr.size]; exact blt hlt
          have h4 : Rep (den F (s.over b)).T g ((den F (s.over b)).env gs) _ := hr.tmp (blt hlt)
          rw [den_env hlt, hu] at h4
          have h4 : a.tmps.getD gs undef = undef := h4
          have h5 : a.tmps[gs]? = some undef := by
            rw [Array.getD_eq_getD_getElem?, Array.getElem?_eq_getElem hN2] at h4
            rw [Array.getElem?_eq_getElem hN2]
            simpa using h4
          simp [Region.wanted, hg, yielded, hog, hogd, h5, undef]
        rw [if_neg this]
        exact off (h1 hu)
      · have hsc := boolA_sc hv
        have hlt := getN_lt (N := F.N) (s := s.over b) (k := gs) (by rw [hsc]; exact fun e => by cases e)
        have hy : yielded ops a.tmps j = some v := yielded_of hr hog hogd (by rw [den_env hlt, hsc]; rfl) (blt hlt)
        cases hvw : eqB v w0 with
        | true =>
          obtain rfl := eqB_eq.1 hvw
          rw [if_pos (by simp [Region.wanted, hg, hy])]
          exact go_sound hcall hK hpin hQ hid hw hd ((h2 v hv).1 rfl) hr K R hk hkp
        | false =>
          have e := eqB_ne.1 hvw
          rw [if_neg (by simp [Region.wanted, hg, hy, e])]
          exact off ((h2 v hv).2 e)
    · exact h.elim
/-- What may be named: what K has, and what is new since l0. -/
def Bd (K : Nat → Prop) (l0 c : Nat) : Nat → Prop := fun n => K n ∨ (l0 ≤ n ∧ n < c)
theorem Bd.lt {K : Nat → Prop} {l0 c n : Nat} (h : Bd K l0 c n) (hK : ∀ n, K n → n < l0) (hc : l0 ≤ c) : n < c := by
  rcases h with h | h
  · have := hK n h; omega
  · exact h.2
theorem Bd.up {K : Nat → Prop} {l0 c c' n : Nat} (h : Bd K l0 c n) (hc : c ≤ c') : Bd K l0 c' n := h.imp (fun h => h) fun h => ⟨h.1, by omega⟩
/-- What a code's ends are. -/
def LΦ (K : Nat → Prop) (l0 : Nat) (F : Fr S) (b : XS S.A) (lo : Nat) (Φ : XE S.A → XS S.A → Prop) (e : Exit) (σ : St) : Prop :=
  ∃ s', lo ≤ s'.c ∧ WF (Bd K l0 s'.c) F (s'.over b) ∧ match e with
    | .normal => σ = den F (s'.over b) ∧ Φ .normal s'
    | .exit id => σ = den F (s'.over b) ∧ Φ (.exit id) s'
    | .ret => σ = den F (s'.over b) ∧ Φ .ret s'
    | .panic _ => ∃ p, σ = { den F (s'.over b) with pay := denV p } ∧ inV (Bd K l0 s'.c) p ∧ Φ (.panic p) s'
    | _ => False
end step
end Go.Rx
/-! Regions of open order: a quiet operation may as well come later. -/
namespace Go.Rx
open Go.Ab Go.RowKit
set_option linter.unusedVariables false
set_option linter.unusedSimpArgs false
/-- What a quiet operation does to a state. -/
inductive ME (A : Nat → Type) where
  | no
  | L (id : Nat) (cs : Bx A)
  | T (id sz m : Nat)
structure Eff (A : Nat → Type) where
  d : Nat
  p : AV A
  m : ME A
section
variable {S : Sys} {C : Cfg S} {N : Nat} {call : CallT S} {b : XS S.A} {ops : List Oper} {kp : AV S.A → XS S.A → Prop} {k : XS S.A → Prop} {s : XS S.A} {id : Nat} {o : Oper} {Q : Nat → Prop} {F : Fr S}
def ME.app (m : ME S.A) (s : XS S.A) : XS S.A := match m with
  | .no => s
  | .L i cs => s.setL i cs
  | .T i sz n => s.setT i sz n
def Eff.app (e : Eff S.A) (s : XS S.A) : XS S.A := (e.m.app s).put e.d e.p
def ME.at (id : Nat) : ME S.A → Prop
  | .no => True
  | .L i _ => i = id
  | .T i _ _ => i = id
theorem uses_mem {t : Nat} : ∀ {l : List Operand}, Operand.tmp t ∈ l → t ∈ usesO l
  | x :: r, h => by
    cases x with
    | tmp u =>
      rcases List.mem_cons.1 h with e | h
      · cases e; exact List.mem_cons_self
      · exact List.mem_cons_of_mem _ (uses_mem h)
    | const v => exact uses_mem (l := r) ((List.mem_cons.1 h).resolve_left fun e => by cases e)
    | func f => exact uses_mem (l := r) ((List.mem_cons.1 h).resolve_left fun e => by cases e)
    | global g => exact uses_mem (l := r) ((List.mem_cons.1 h).resolve_left fun e => by cases e)
theorem ev_agree {g1 g2 : Nat → AV S.A} {x : Operand} (h : ∀ t, x = .tmp t → g1 t = g2 t) : evA g1 x = evA g2 x := by
  cases x <;> first | exact h _ rfl | rfl
/-- Two states that an operation cannot tell apart. -/
structure Agr (C : Cfg S) (N : Nat) (b : XS S.A) (ops : List Oper) (o : Oper) (s s' : XS S.A) : Prop where
  get : ∀ x ∈ readsO ops o, getN N (s'.over b) x = getN N (s.over b) x
  L : (ldB o.op = true ∧ ptLoad C.P ops o.op = false) → ∀ x ps, (s.over b).L x = some ps → (s'.over b).L x = some ps
theorem Agr.ev {s s' : XS S.A} (h : Agr C N b ops o s s') : ∀ x ∈ o.op.operands.toList, evA (getN N (s'.over b)) x = evA (getN N (s.over b)) x :=
  fun x hx => ev_agree fun t e => by subst e; exact h.get t (List.mem_append_left _ (uses_mem hx))
theorem Agr.gd {s s' : XS S.A} (h : Agr C N b ops o s s') {j : Nat} {w : Bool} {g : Nat} (hg : o.guard = some (j, w)) (hj : dstOf ops j = some g) : getN N (s'.over b) g = getN N (s.over b) g :=
  h.get g (List.mem_append_right _ (by simp [hg, hj]))
/-- What a quiet operation does, and that it does so wherever it is. -/
def QEff (C : Cfg S) (N : Nat) (call : CallT S) (b : XS S.A) (ops : List Oper) (id : Nat) (o : Oper) (s : XS S.A) (e : Eff S.A) : Prop :=
  o.dst = some e.d ∧ e.m.at id ∧ ∀ s', Agr C N b ops o s s' → ∀ k kp, k (e.app s') → stepS C N call b ops id o s' k kp
theorem len_rq {P : Program} {get : Nat → AV S.A} {c : Call} (hq : quietOp (.call c) = true) : rq S P get (.call c) = .bad ∨ ∃ p, rq S P get (.call c) = .v p := by
  obtain ⟨callee, args, ats⟩ := c
  cases callee with
  | value f => cases hq
  | invoke r m => cases hq
  | builtin bi =>
    simp only [rq]
    unfold rqBuiltin
    split
    · split
      · split
        · exact .inr ⟨_, rfl⟩
        · split
          · exact .inr ⟨_, rfl⟩
          · exact .inl rfl
      · split
        · exact .inr ⟨_, rfl⟩
        · exact .inl rfl
      · exact .inl rfl
    · cases hq
    · split
      · rename_i k a k' b _ _
        cases kindB k k'
        · exact .inl rfl
        · exact .inr ⟨_, rfl⟩
      · exact .inl rfl
    · exact .inl rfl
theorem exec_quiet (hdr : C.dr = true) {op : Op} {d : Option Nat} (hq : quietOp op = true) {r : Rq S.A} (hr : r = rq S C.P (getN N (s.over b)) op) (h : exec C call b id d s k kp op r) (hin : ∀ x, inV Q (evA (getN N (s.over b)) x)) (hL : ∀ i ps, (s.over b).L i = some ps → ∀ p ∈ ps.cs, in1 Q p) :
    ∃ e : Eff S.A, d = some e.d ∧ e.m.at id ∧ k (e.app s) ∧ (inV (fun n => Q n ∨ n = id) e.p ∧ (∀ i cs, e.m = .L i cs → ∀ p ∈ cs.cs, in1 (fun n => Q n ∨ n = id) p) ∧ (allocB op = false → e.m = .no)) ∧
      ∀ s' : XS S.A, (((∃ x off n ag, r = .ld x off n ag) ∨ ∃ x off e i ag, r = .eld x off e i ag) → ∀ x ps, (s.over b).L x = some ps → (s'.over b).L x = some ps) → ∀ (k : XS S.A → Prop) (kp : AV S.A → XS S.A → Prop), k (e.app s') → exec C call b id d s' k kp op r := by
  have hQi : ∀ n, Q n → Q n ∨ n = id := fun _ => .inl
  cases r with
  | bad => exact h.elim
  | v p =>
    simp only [exec] at h
    split at h
    · rename_i d
      exact ⟨⟨d, unG p, .no⟩, rfl, trivial, h, ⟨inV_mono hQi (inV_unG (rq_in hin (rq_asks hr.symm))), (fun i cs e => by cases e), fun _ => rfl⟩, fun s' _ k kp hk => hk⟩
    · exact h.elim
  | vc c p =>
    simp only [exec] at h
    split at h
    · rename_i d
      exact ⟨⟨d, unG p, .no⟩, rfl, trivial, h.2, ⟨inV_mono hQi (inV_unG (rq_in hin (rq_asksC hr.symm))), (fun i cs e => by cases e), fun _ => rfl⟩, fun s' _ k kp hk => ⟨h.1, hk⟩⟩
    · exact h.elim
  | ld x off n ag =>
    simp only [exec] at h
    split at h
    · rename_i t y d ps hLx
      cases hb : (Nat.beq ((ps.cs.drop off).take n).length n && (ag || Nat.beq n 1)) with
      | false => rw [hb] at h; exact h.elim
      | true =>
        rw [hb] at h
        refine ⟨⟨d, unG (ofCells ag ((ps.cs.drop off).take n)), .no⟩, rfl, trivial, h, ⟨inV_mono hQi (inV_unG (inV_ofCells fun p hp => hL x ps hLx p (List.mem_of_mem_drop (List.mem_of_mem_take hp)))), (fun i cs e => by cases e), fun _ => rfl⟩, fun s' hs k kp hk => ?_⟩
        simp only [exec]
        rw [hs (.inl ⟨x, off, n, ag, rfl⟩) x ps hLx]
        simp only [hb, cond_true]
        exact hk
    · exact h.elim
  | box bx =>
    simp only [exec] at h
    split at h
    · rename_i t d
      cases hb : bx.cs.all isCell with
      | false => rw [hb] at h; exact h.elim
      | true =>
        rw [hb] at h
        have hc : ∀ p ∈ bx.cs, in1 Q p := by
          intro p hp
          simp only [rq] at hr
          split at hr
          · cases hr
            obtain ⟨v, _, rfl⟩ := List.mem_map.1 ((mkBx_spec hb).2.1 p hp)
            exact in1_lit v
          · cases hr
        refine ⟨⟨d, .loc id 0, .L id bx⟩, rfl, rfl, h, ⟨.inr rfl, (fun i cs' e p hp => by cases e; exact in1_mono hQi (hc p hp)), fun e => by cases e⟩, fun s' _ k kp hk => ?_⟩
        simp only [exec, hb, cond_true]
        exact hk
    · rename_i t x d
      cases hb : bx.cs.all isCell with
      | false => rw [hb] at h; exact h.elim
      | true =>
        rw [hb] at h
        have hc : ∀ p ∈ bx.cs, in1 Q p := by
          intro p hp
          simp only [rq] at hr
          cases hr
          exact in1_cells (hin x) p ((mkBx_spec hb).2.1 p hp)
        refine ⟨⟨d, .loc id 0, .L id bx⟩, rfl, rfl, h, ⟨.inr rfl, (fun i cs' e p hp => by cases e; exact in1_mono hQi (hc p hp)), fun e => by cases e⟩, fun s' _ k kp hk => ?_⟩
        simp only [exec, hb, cond_true]
        exact hk
    · exact h.elim
  | tip t l =>
    simp only [exec] at h
    split at h
    · rename_i u n parts d
      exact ⟨⟨d, .own id t l, .T id (szOf S t) l.length⟩, rfl, rfl, h, ⟨.inr rfl, (fun i cs e => by cases e), fun e => by cases e⟩, fun s' _ k kp hk => hk⟩
    · exact h.elim
  | st x off n cs =>
    simp only [exec] at h
    split at h
    · cases hq
    · exact h.elim
  | app q t bytes l ext =>
    simp only [exec] at h
    split at h
    · rcases len_rq (P := C.P) (get := getN N (s.over b)) hq with e | ⟨p, e⟩ <;> rw [e] at hr <;> cases hr
    · exact h.elim
  | app0 t bytes ext =>
    simp only [exec] at h
    split at h
    · rcases len_rq (P := C.P) (get := getN N (s.over b)) hq with e | ⟨p, e⟩ <;> rw [e] at hr <;> cases hr
    · exact h.elim
  | call f args =>
    simp only [exec] at h
    split at h
    · rcases len_rq (P := C.P) (get := getN N (s.over b)) hq with e | ⟨p, e⟩ <;> rw [e] at hr <;> cases hr
    · exact h.elim
  | papp q t bytes n ext =>
    simp only [exec] at h
    split at h
    · rcases len_rq (P := C.P) (get := getN N (s.over b)) hq with e | ⟨p, e⟩ <;> rw [e] at hr <;> cases hr
    · exact h.elim
  | ch c =>
    obtain ⟨bop, t, x, y, t', rfl, hk, -⟩ := ch_args hr.symm
    have hq : (!nilK y) = true := hq
    rw [hk] at hq
    cases hq
  | eld x off e' i ag =>
    simp only [exec] at h
    split at h
    · rename_i t y d cs u l pad hLx
      split at h
      · rename_i hu
        cases hb : Nat.beq cs.length off with
        | false => rw [hb] at h; exact h.elim
        | true =>
          rw [hb] at h
          refine ⟨⟨d, unG (ofCells ag (av S e' (@ix _ (S.inh e') (castT hu l) i))), .no⟩, rfl, trivial, h.2, ⟨inV_mono hQi (inV_unG (inV_ofCells fun p hp => in1_av _ _ p hp)), (fun i cs e => by cases e), fun _ => rfl⟩, fun s' hs k kp hk => ?_⟩
          simp only [exec]
          rw [hs (.inr ⟨x, off, e', i, ag, rfl⟩) x _ hLx]
          simp only [hb, cond_true]
          rw [dif_pos hu]
          exact ⟨h.1, hk⟩
      · exact h.elim
    · exact h.elim
  | est x off e' i v =>
    simp only [exec] at h
    split at h
    · cases hq
    · exact h.elim
  | tld q n e' i ag =>
    simp only [exec] at h
    rw [hdr] at h
    exact h.elim
  | tst q n e' i v =>
    simp only [exec] at h
    split at h
    · cases hq
    · exact h.elim
  | panic p =>
    simp only [exec] at h
    split at h
    · cases hq
    · exact h.elim
theorem go_quiet (hdr : C.dr = true) (hq : quietOp o.op = true) (h : goS C (ptLoad C.P ops o.op) N call b id o.dst s k kp o.op) (hin : ∀ x, inV Q (evA (getN N (s.over b)) x)) (hL : ∀ i ps, (s.over b).L i = some ps → ∀ p ∈ ps.cs, in1 Q p) :
    ∃ e : Eff S.A, o.dst = some e.d ∧ e.m.at id ∧ k (e.app s) ∧ (inV (fun n => Q n ∨ n = id) e.p ∧ (∀ i cs, e.m = .L i cs → ∀ p ∈ cs.cs, in1 (fun n => Q n ∨ n = id) p) ∧ (allocB o.op = false → e.m = .no)) ∧
      ∀ s' : XS S.A, Agr C N b ops o s s' → ∀ (k : XS S.A → Prop) (kp : AV S.A → XS S.A → Prop), k (e.app s') → goS C (ptLoad C.P ops o.op) N call b id o.dst s' k kp o.op := by
  by_cases hp : ∃ c x y, o.op = .pick c x y
  · obtain ⟨c, x, y, ho⟩ := hp
    rw [ho] at h
    simp only [goS] at h
    split at h
    · rename_i d v hdd hv
      have fin : ∀ z, (z = (bif v then x else y)) → k (s.put d (unG (evA (getN N (s.over b)) z))) → ∃ e : Eff S.A, o.dst = some e.d ∧ e.m.at id ∧ k (e.app s) ∧ (inV (fun n => Q n ∨ n = id) e.p ∧ (∀ i cs, e.m = .L i cs → ∀ p ∈ cs.cs, in1 (fun n => Q n ∨ n = id) p) ∧ (allocB o.op = false → e.m = .no)) ∧
          ∀ s' : XS S.A, Agr C N b ops o s s' → ∀ (k : XS S.A → Prop) (kp : AV S.A → XS S.A → Prop), k (e.app s') → goS C (ptLoad C.P ops o.op) N call b id o.dst s' k kp o.op := by
        intro z hz hk
        refine ⟨⟨d, unG (evA (getN N (s.over b)) z), .no⟩, hdd, trivial, hk, ⟨inV_mono (fun _ => .inl) (inV_unG (hin z)), (fun i cs e => by cases e), fun _ => rfl⟩, fun s' ha k kp hk => ?_⟩
        have hev := ha.ev
        rw [ho] at hev ⊢
        simp only [goS]
        rw [hdd, hev c (by simp [Op.operands]), hev x (by simp [Op.operands]), hev y (by simp [Op.operands]), hv]
        refine ⟨fun e => ?_, fun e => ?_⟩
        · subst e; subst hz; exact hk
        · subst e; subst hz; exact hk
      cases v with
      | true => exact fin x rfl (h.1 rfl)
      | false => exact fin y rfl (h.2 rfl)
    · exact h.elim
  · have eq : ∀ s' k kp, goS C (ptLoad C.P ops o.op) N call b id o.dst s' k kp o.op = exec C call b id o.dst s' k kp o.op (rqP (ptLoad C.P ops o.op) (rq S C.P (getN N (s'.over b)) o.op)) := by
      intro s' k kp
      unfold goS
      split
      · rename_i c x y ho; exact absurd ⟨c, x, y, ho⟩ hp
      · rfl
    rw [eq] at h
    obtain ⟨e, e1, e2, e3, e4, e5⟩ := exec_quiet hdr hq rfl (exec_rqP h) hin hL
    refine ⟨e, e1, e2, e3, e4, fun s' ha k kp hk => ?_⟩
    rw [eq, rq_congr (g2 := getN N (s.over b)) ha.ev]
    have hld : ((∃ x off n ag, rq S C.P (getN N (s.over b)) o.op = .ld x off n ag) ∨ ∃ x off e i ag, rq S C.P (getN N (s.over b)) o.op = .eld x off e i ag) → ldB o.op = true ∧ ptLoad C.P ops o.op = false := by
      intro hrr
      rcases hrr with ⟨x, off, n, ag, hr⟩ | ⟨x, off, e', i, ag, hr⟩
      · rw [hr] at h
        cases hpl : ptLoad C.P ops o.op with
        | true => rw [hpl] at h; exact h.elim
        | false =>
          rw [hpl] at h
          refine ⟨?_, rfl⟩
          have h : exec C call b id o.dst s _ _ o.op (.ld x off n ag) := h
          simp only [exec] at h
          split at h
          · rename_i ho _ _; rw [ho]; rfl
          · exact h.elim
      · rw [hr] at h
        cases hpl : ptLoad C.P ops o.op with
        | true => rw [hpl] at h; exact h.elim
        | false =>
          rw [hpl] at h
          refine ⟨?_, rfl⟩
          have h : exec C call b id o.dst s _ _ o.op (.eld x off e' i ag) := h
          simp only [exec] at h
          split at h
          · rename_i ho _ _; rw [ho]; rfl
          · exact h.elim
    have h5 := e5 s' (fun hr => ha.L (hld hr)) k kp hk
    cases hr : rq S C.P (getN N (s.over b)) o.op with
    | ld x off n ag =>
      have := (hld (.inl ⟨x, off, n, ag, hr⟩)).2
      rw [this]
      rw [hr] at h5
      exact h5
    | eld x off e' i ag =>
      have := (hld (.inr ⟨x, off, e', i, ag, hr⟩)).2
      rw [this]
      rw [hr] at h5
      exact h5
    | tld q n e' i ag =>
      rw [hr] at h
      cases hpl : ptLoad C.P ops o.op with
      | true => rw [hpl] at h; exact h.elim
      | false =>
        rw [hpl] at h
        have h : exec C call b id o.dst s _ _ o.op (.tld q n e' i ag) := h
        simp only [exec] at h
        rw [hdr] at h
        exact h.elim
    | _ => rw [hr] at h5; cases ptLoad C.P ops o.op <;> exact h5
theorem step_quiet (hdr : C.dr = true) (hq : quietOp o.op = true) (h : stepS C N call b ops id o s k kp) (hin : ∀ x, inV Q (evA (getN N (s.over b)) x)) (hL : ∀ i ps, (s.over b).L i = some ps → ∀ p ∈ ps.cs, in1 Q p) :
    ∃ e : Eff S.A, QEff C N call b ops id o s e ∧ Nat.blt e.d N = true ∧ k (e.app s) ∧ (inV (fun n => Q n ∨ n = id) e.p ∧ (∀ i cs, e.m = .L i cs → ∀ p ∈ cs.cs, in1 (fun n => Q n ∨ n = id) p) ∧ (allocB o.op = false → e.m = .no)) := by
  obtain ⟨hd, h⟩ := h
  have lt : ∀ {d}, o.dst = some d → Nat.blt d N = true := fun e => by rw [e] at hd; exact hd
  cases hg : o.guard with
  | none =>
    rw [hg] at h
    obtain ⟨e, e1, e2, e3, e4, e5⟩ := go_quiet (ops := ops) hdr hq h hin hL
    refine ⟨e, ⟨e1, e2, fun s' ha k kp hk => ⟨hd, ?_⟩⟩, lt e1, e3, e4⟩
    rw [hg]
    exact e5 s' ha k kp hk
  | some jw =>
    obtain ⟨j, w⟩ := jw
    rw [hg] at h
    simp only at h
    split at h
    · rename_i g d hj hdd
      obtain ⟨h1, h2, h3⟩ := h
      have off : (getN N (s.over b) g = .und ∨ boolA (getN N (s.over b) g) = some (!w)) → k (s.put d .und) → ∃ e : Eff S.A, QEff C N call b ops id o s e ∧ Nat.blt e.d N = true ∧ k (e.app s) ∧ (inV (fun n => Q n ∨ n = id) e.p ∧ (∀ i cs, e.m = .L i cs → ∀ p ∈ cs.cs, in1 (fun n => Q n ∨ n = id) p) ∧ (allocB o.op = false → e.m = .no)) := by
        intro hu hk
        refine ⟨⟨d, .und, .no⟩, ⟨hdd, trivial, fun s' ha k kp hk => ⟨hd, ?_⟩⟩, lt hdd, hk, ⟨trivial, (fun i cs e => by cases e), fun _ => rfl⟩⟩
        rw [hg]
        simp only [hj, hdd]
        rw [ha.gd hg hj]
        rcases hu with hu | hu
        · exact ⟨fun _ => hk, fun v hv => (by rw [hu] at hv; cases hv), .inl hu⟩
        · exact ⟨fun _ => hk, fun v hv => ⟨fun e => (by rw [hu] at hv; cases hv; cases w <;> cases e), fun _ => hk⟩, .inr ⟨_, hu⟩⟩
      rcases h3 with hu | ⟨v, hv⟩
      · exact off (.inl hu) (h1 hu)
      · cases hvw : eqB v w with
        | false =>
          have e := eqB_ne.1 hvw
          exact off (.inr (by rw [hv, e])) ((h2 v hv).2 e)
        | true =>
          obtain rfl := eqB_eq.1 hvw
          obtain ⟨e, e1, e2, e3, e4, e5⟩ := go_quiet (ops := ops) hdr hq ((h2 v hv).1 rfl) hin hL
          refine ⟨e, ⟨e1, e2, fun s' ha k kp hk => ⟨hd, ?_⟩⟩, lt e1, e3, e4⟩
          rw [hg]
          simp only [hj, hdd]
          rw [ha.gd hg hj]
          refine ⟨fun hu => (by rw [hu] at hv; cases hv), fun v' hv' => ?_, .inr ⟨v, hv⟩⟩
          obtain rfl : v = v' := by rw [hv] at hv'; exact Option.some.inj hv'
          refine ⟨fun _ => ?_, fun e => (by cases v <;> cases e)⟩
          have := e5 s' ha k kp hk
          rw [hdd] at this
          exact this
    · exact h.elim
/-! ### What a quiet operation did may as well be done later -/
theorem bne {i j : Nat} (h : i ≠ j) : Nat.beq i j = false := nbeq h
section comm
variable {e : Eff S.A} {ide : Nat}
theorem xs_ext {s s' : XS S.A} (h1 : ∀ k, s.env k = s'.env k) (h2 : ∀ k, s.L k = s'.L k) (h3 : ∀ k, s.T k = s'.T k) (h4 : s.c = s'.c) : s = s' := by
  obtain ⟨a1, a2, a3, a4⟩ := s
  obtain ⟨b1, b2, b3, b4⟩ := s'
  simp only at h1 h2 h3 h4
  simp only [XS.mk.injEq]
  exact ⟨funext h1, funext h2, funext h3, h4⟩
theorem swp {α : Type} {k d d' : Nat} {x y z : α} (h : d ≠ d') : (bif Nat.beq k d' then x else bif Nat.beq k d then y else z) = (bif Nat.beq k d then y else bif Nat.beq k d' then x else z) := by
  cases hk : Nat.beq k d with
  | false => rfl
  | true =>
    obtain rfl := Nat.eq_of_beq_eq_true hk
    rw [bne h]
    rfl
theorem app_put {d : Nat} {p : AV S.A} (h : d ≠ e.d) : e.app (s.put d p) = (e.app s).put d p := by
  obtain ⟨d', p', m⟩ := e
  cases m <;> exact xs_ext (fun k => swp h) (fun k => rfl) (fun k => rfl) rfl
theorem app_setL {i : Nat} {cs : Bx S.A} (ha : e.m.at ide) (h : i ≠ ide) : e.app (s.setL i cs) = (e.app s).setL i cs := by
  obtain ⟨d', p', m⟩ := e
  cases m with
  | no => rfl
  | L j cs' => obtain rfl := ha; exact xs_ext (fun k => rfl) (fun k => swp h) (fun k => rfl) rfl
  | T j sz n => rfl
theorem app_setT {i sz n : Nat} (ha : e.m.at ide) (h : i ≠ ide) : e.app (s.setT i sz n) = (e.app s).setT i sz n := by
  obtain ⟨d', p', m⟩ := e
  cases m with
  | no => rfl
  | L j cs' => rfl
  | T j sz' n' => obtain rfl := ha; exact xs_ext (fun k => rfl) (fun k => rfl) (fun k => swp h) rfl
theorem app_setP {i sz t : Nat} {l : List (S.A t)} (ha : e.m.at ide) (h : i ≠ ide) : e.app (s.setP i sz t l) = (e.app s).setP i sz t l := by
  obtain ⟨d', p', m⟩ := e
  cases m with
  | no => rfl
  | L j cs' => rfl
  | T j sz' n' => obtain rfl := ha; exact xs_ext (fun k => rfl) (fun k => rfl) (fun k => swp h) rfl
theorem app_withM {m : XS S.A} (h : e.m = .no) : e.app (s.withM m) = (e.app s).withM m := by
  obtain ⟨d', p', m'⟩ := e
  obtain rfl := h
  rfl
theorem app_mem (h : e.m = .no) : (e.app s).mem = s.mem := by
  obtain ⟨d', p', m'⟩ := e
  obtain rfl := h
  rfl
theorem getN_app {x : Nat} (h : x ≠ e.d) : getN N ((e.app s).over b) x = getN N (s.over b) x := by
  show getN N (((e.m.app s).put e.d e.p).over b) x = _
  rw [getN_put, bne h]
  obtain ⟨d', p', m⟩ := e
  cases m <;> rfl
theorem L_app {x : Nat} (ha : e.m.at ide) (h : x ≠ ide) : ((e.app s).over b).L x = (s.over b).L x := by
  obtain ⟨d', p', m⟩ := e
  cases m with
  | no => rfl
  | L j cs =>
    obtain rfl := ha
    show orE (bif Nat.beq x j then some cs else s.L x) (b.L x) = orE (s.L x) (b.L x)
    rw [bne h]; rfl
  | T j sz n => rfl
theorem T_app {x : Nat} (ha : e.m.at ide) (h : x ≠ ide) : ((e.app s).over b).T x = (s.over b).T x := by
  obtain ⟨d', p', m⟩ := e
  cases m with
  | no => rfl
  | L j cs => rfl
  | T j sz n =>
    obtain rfl := ha
    show orE (bif Nat.beq x j then some ⟨sz, n, none⟩ else s.T x) (b.T x) = orE (s.T x) (b.T x)
    rw [bne h]; rfl
/-- What is the same behind an operation. -/
structure Same (C : Cfg S) (N : Nat) (b : XS S.A) (d : Option Nat) (op : Op) (s s1 : XS S.A) : Prop where
  get : ∀ x, d ≠ some x → getN N (s1.over b) x = getN N (s.over b) x
  L : memB C op = false → ∀ x ps, (s.over b).L x = some ps → (s1.over b).L x = some ps
theorem same_put {d : Option Nat} {op : Op} {s1 : XS S.A} (h : Same C N b d op s s1) {x : Nat} {p : AV S.A} (hd : d = some x) : Same C N b d op s (s1.put x p) := by
  refine ⟨fun y hy => ?_, fun hm => h.L hm⟩
  rw [getN_put, bne (fun e => by subst e; exact hy hd)]
  exact h.get y hy
theorem same_mem {d : Option Nat} {op : Op} {s1 : XS S.A} (he : s1.env = s.env) (hL : memB C op = false → ∀ x ps, (s.over b).L x = some ps → (s1.over b).L x = some ps) : Same C N b d op s s1 := by
  refine ⟨fun y hy => ?_, hL⟩
  unfold getN XS.get XS.over
  simp only [he]
variable (hcm : ∀ f args m k k' kp kp', (∀ r m, k r m → k' r m) → (∀ r m, kp r m → kp' r m) → call f args m k kp → call f args m k' kp') (hkm : ∀ f W, Ab.look C.K f = some (.tr W) → ∀ args k k', (∀ r, k r → k' r) → W args k → W args k')
include hcm hkm
theorem exec_mono {op : Op} {d : Option Nat} {r : Rq S.A} {k k' : XS S.A → Prop} {kp kp' : AV S.A → XS S.A → Prop} (hk : ∀ s, k s → k' s) (hp : ∀ p s, kp p s → kp' p s) (h : exec C call b id d s k kp op r) : exec C call b id d s k' kp' op r := by
  cases r with
  | call f args =>
    simp only [exec] at h ⊢
    split at h
    · cases hb : (fnB C.P f && args.all flatA) with
      | false => rw [hb] at h; exact h.elim
      | true =>
        rw [hb] at h
        simp only [cond_true] at h ⊢
        split at h
        · rename_i W hW; exact hkm f W hW args _ _ (fun r hr => hk _ hr) h
        · split at h
          · exact hk _ h
          · exact h
        · split at h
          · split at h
            · split at h
              · rename_i hu
                rw [dif_pos hu]
                exact bif_imp (fun e => ⟨e.1, fun y h1 h2 => hk _ (e.2 y h1 h2)⟩) h
              · exact h.elim
            · exact h.elim
          · exact bif_imp (fun e => hk _ e) h
          · exact h.elim
        · split at h
          · rename_i e1 _ _ _ _ _ _
            cases hm : memN e1 C.mt with
            | true => rw [hm] at h; exact ⟨h.1, fun y hy => hk _ (h.2 y hy)⟩
            | false => rw [hm] at h; exact ⟨h.1, fun y hy => hk _ (h.2 y hy)⟩
          · exact h.elim
        · split at h
          · split at h
            · split at h
              · split at h
                · exact withP_mono (fun e u hu => hk _ (e u hu)) h
                · exact h.elim
              · exact h.elim
            · exact h.elim
          · exact h.elim
        · exact hcm f args _ _ _ _ _ (fun r m hr => hk _ hr) (fun p m hr => hp _ _ hr) h
    · exact h
  | bad => exact h
  | panic p =>
    simp only [exec] at h ⊢
    split at h
    · cases hd : C.dr with
      | true => rw [hd] at h; exact h.elim
      | false => rw [hd] at h; exact hp _ _ h
    · exact h.elim
  | ch c => simp only [exec] at h ⊢; split at h <;> first | exact fun v hv => hk _ (h v hv) | exact h
  | eld x off e' i ag =>
    simp only [exec] at h ⊢
    split at h
    · split at h
      · rename_i hu
        rw [dif_pos hu]
        exact bif_imp (fun e => ⟨e.1, hk _ e.2⟩) h
      · exact h.elim
    · exact h.elim
  | est x off e' i v =>
    simp only [exec] at h ⊢
    split at h
    · split at h
      · rename_i hu
        rw [dif_pos hu]
        exact bif_imp (fun e => ⟨e.1, hk _ e.2⟩) h
      · exact h.elim
    · exact h.elim
  | tld q n e' i ag =>
    simp only [exec] at h ⊢
    split at h
    · split at h
      · rename_i hu
        rw [dif_pos hu]
        exact bif_imp (fun e => ⟨e.1, hk _ e.2⟩) h
      · exact h.elim
    · exact h.elim
  | tst q n e' i v =>
    simp only [exec] at h ⊢
    split at h
    · split at h
      · rename_i hu
        rw [dif_pos hu]
        exact bif_imp (fun e => ⟨e.1, hk _ e.2⟩) h
      · exact h.elim
    · exact h.elim
  | papp q t bytes n ext =>
    simp only [exec] at h ⊢
    split at h
    · rename_i sz m u l pad _
      cases hb : Nat.beq sz (szOf S t) with
      | false => rw [hb] at h; exact h.elim
      | true =>
        rw [hb] at h
        simp only [Bool.not_true, cond_false] at h ⊢
        split at h
        · rename_i hu
          rw [dif_pos hu]
          exact ⟨h.1, fun y hy => hk _ (h.2 y hy)⟩
        · exact h.elim
    · exact h
  | v p => simp only [exec] at h ⊢; split at h <;> first | exact hk _ h | exact h
  | vc c p => simp only [exec] at h ⊢; split at h <;> first | exact ⟨h.1, hk _ h.2⟩ | exact h
  | ld x off n ag =>
    simp only [exec] at h ⊢
    split at h
    · rename_i ps _
      cases hb : (Nat.beq ((ps.cs.drop off).take n).length n && (ag || Nat.beq n 1)) with
      | false => rw [hb] at h; exact h.elim
      | true => rw [hb] at h; exact hk _ h
    · exact h
  | box bx =>
    simp only [exec] at h ⊢
    split at h
    · cases hb : bx.cs.all isCell with
      | false => rw [hb] at h; exact h.elim
      | true => rw [hb] at h; exact hk _ h
    · cases hb : bx.cs.all isCell with
      | false => rw [hb] at h; exact h.elim
      | true => rw [hb] at h; exact hk _ h
    · exact h
  | st x off n cs =>
    simp only [exec] at h ⊢
    split at h
    · rename_i ps _
      cases hb : (Nat.beq cs.length n && (Nat.ble (off + n) ps.cs.length && cs.all isCell)) with
      | false => rw [hb] at h; exact h.elim
      | true => rw [hb] at h; exact hk _ h
    · exact h
  | tip t l => simp only [exec] at h ⊢; split at h <;> first | exact hk _ h | exact h
  | app q t bytes l ext =>
    simp only [exec] at h ⊢
    split at h
    · rename_i c _ sz m _
      cases hb : Nat.beq sz (szOf S t) with
      | false => rw [hb] at h; exact h.elim
      | true =>
        rw [hb] at h
        simp only [Bool.not_true, cond_false] at h ⊢
        cases hm : (memN t C.mt && sameT c) with
        | true => rw [hm] at h; exact ⟨h.1, fun y hy => hk _ (h.2 y hy)⟩
        | false => rw [hm] at h; exact ⟨h.1, fun y hy => hk _ (h.2 y hy)⟩
    · exact h
  | app0 t bytes ext =>
    simp only [exec] at h ⊢
    split at h
    · cases hm : memN t C.mt with
      | true => rw [hm] at h; exact ⟨h.1, fun y hy => hk _ (h.2 y hy)⟩
      | false => rw [hm] at h; exact ⟨h.1, fun y hy => hk _ (h.2 y hy)⟩
    · exact h
theorem exec_env {ds : List Nat} {e0 : Nat → Option (AV S.A)} {op : Op} {d : Option Nat} {r : Rq S.A} {k : XS S.A → Prop} {kp : AV S.A → XS S.A → Prop} (hd : ∀ x, d = some x → x ∈ ds) (hs : ∀ j, j ∉ ds → s.env j = e0 j) (h : exec C call b id d s k kp op r) :
    exec C call b id d s (fun s1 => k s1 ∧ ∀ j, j ∉ ds → s1.env j = e0 j) (fun p s1 => kp p s1 ∧ ∀ j, j ∉ ds → s1.env j = e0 j) op r := by
  have pt : ∀ {s1 : XS S.A} {x : Nat} {p : AV S.A}, d = some x → s1.env = s.env → ∀ j, j ∉ ds → (s1.put x p).env j = e0 j := by
    intro s1 x p hx he j hj
    show (bif Nat.beq j x then some p else s1.env j) = e0 j
    rw [bne (fun e => hj (by subst e; exact hd _ hx)), he]
    exact hs j hj
  cases r with
  | call f args =>
    simp only [exec] at h ⊢
    split at h
    · cases hb : (fnB C.P f && args.all flatA) with
      | false => rw [hb] at h; exact h.elim
      | true =>
        rw [hb] at h
        simp only [cond_true] at h ⊢
        split at h
        · rename_i W hW; exact hkm f W hW args _ _ (fun r hr => ⟨hr, pt rfl rfl⟩) h
        · split at h
          · exact ⟨h, pt rfl rfl⟩
          · exact h
        · split at h
          · split at h
            · split at h
              · rename_i hu
                rw [dif_pos hu]
                exact bif_imp (fun e => ⟨e.1, fun y h1 h2 => ⟨e.2 y h1 h2, pt rfl rfl⟩⟩) h
              · exact h.elim
            · exact h.elim
          · exact bif_imp (fun e => ⟨e, pt rfl rfl⟩) h
          · exact h.elim
        · split at h
          · rename_i e1 _ _ _ _ _ _
            cases hm : memN e1 C.mt with
            | true => rw [hm] at h; exact ⟨h.1, fun y hy => ⟨h.2 y hy, pt rfl rfl⟩⟩
            | false => rw [hm] at h; exact ⟨h.1, fun y hy => ⟨h.2 y hy, pt rfl rfl⟩⟩
          · exact h.elim
        · split at h
          · split at h
            · split at h
              · split at h
                · exact withP_mono (fun e u hu => ⟨e u hu, pt rfl rfl⟩) h
                · exact h.elim
              · exact h.elim
            · exact h.elim
          · exact h.elim
        · exact hcm f args _ _ _ _ _ (fun r m hr => ⟨hr, pt rfl rfl⟩) (fun p m hr => ⟨hr, hs⟩) h
    · exact h
  | bad => exact h
  | panic p =>
    simp only [exec] at h ⊢
    split at h
    · cases hd : C.dr with
      | true => rw [hd] at h; exact h.elim
      | false => rw [hd] at h; exact ⟨h, hs⟩
    · exact h.elim
  | ch c => simp only [exec] at h ⊢; split at h <;> first | exact fun v hv => ⟨h v hv, pt rfl rfl⟩ | exact h
  | eld x off e' i ag =>
    simp only [exec] at h ⊢
    split at h
    · split at h
      · rename_i hu
        rw [dif_pos hu]
        exact bif_imp (fun e => ⟨e.1, ⟨e.2, pt rfl rfl⟩⟩) h
      · exact h.elim
    · exact h.elim
  | est x off e' i v =>
    simp only [exec] at h ⊢
    split at h
    · split at h
      · rename_i hu
        rw [dif_pos hu]
        exact bif_imp (fun e => ⟨e.1, ⟨e.2, hs⟩⟩) h
      · exact h.elim
    · exact h.elim
  | tld q n e' i ag =>
    simp only [exec] at h ⊢
    split at h
    · split at h
      · rename_i hu
        rw [dif_pos hu]
        exact bif_imp (fun e => ⟨e.1, ⟨e.2, pt rfl rfl⟩⟩) h
      · exact h.elim
    · exact h.elim
  | tst q n e' i v =>
    simp only [exec] at h ⊢
    split at h
    · split at h
      · rename_i hu
        rw [dif_pos hu]
        exact bif_imp (fun e => ⟨e.1, ⟨e.2, hs⟩⟩) h
      · exact h.elim
    · exact h.elim
  | papp q t bytes n ext =>
    simp only [exec] at h ⊢
    split at h
    · rename_i sz m u l pad _
      cases hb : Nat.beq sz (szOf S t) with
      | false => rw [hb] at h; exact h.elim
      | true =>
        rw [hb] at h
        simp only [Bool.not_true, cond_false] at h ⊢
        split at h
        · rename_i hu
          rw [dif_pos hu]
          exact ⟨h.1, fun y hy => ⟨h.2 y hy, pt rfl rfl⟩⟩
        · exact h.elim
    · exact h
  | v p => simp only [exec] at h ⊢; split at h <;> first | exact ⟨h, pt rfl rfl⟩ | exact h
  | vc c p => simp only [exec] at h ⊢; split at h <;> first | exact ⟨h.1, ⟨h.2, pt rfl rfl⟩⟩ | exact h
  | ld x off n ag =>
    simp only [exec] at h ⊢
    split at h
    · rename_i ps _
      cases hb : (Nat.beq ((ps.cs.drop off).take n).length n && (ag || Nat.beq n 1)) with
      | false => rw [hb] at h; exact h.elim
      | true => rw [hb] at h; exact ⟨h, pt rfl rfl⟩
    · exact h
  | box bx =>
    simp only [exec] at h ⊢
    split at h
    · cases hb : bx.cs.all isCell with
      | false => rw [hb] at h; exact h.elim
      | true => rw [hb] at h; exact ⟨h, pt rfl rfl⟩
    · cases hb : bx.cs.all isCell with
      | false => rw [hb] at h; exact h.elim
      | true => rw [hb] at h; exact ⟨h, pt rfl rfl⟩
    · exact h
  | st x off n cs =>
    simp only [exec] at h ⊢
    split at h
    · rename_i ps _
      cases hb : (Nat.beq cs.length n && (Nat.ble (off + n) ps.cs.length && cs.all isCell)) with
      | false => rw [hb] at h; exact h.elim
      | true => rw [hb] at h; exact ⟨h, hs⟩
    · exact h
  | tip t l => simp only [exec] at h ⊢; split at h <;> first | exact ⟨h, pt rfl rfl⟩ | exact h
  | app q t bytes l ext =>
    simp only [exec] at h ⊢
    split at h
    · rename_i c _ sz m _
      cases hb : Nat.beq sz (szOf S t) with
      | false => rw [hb] at h; exact h.elim
      | true =>
        rw [hb] at h
        simp only [Bool.not_true, cond_false] at h ⊢
        cases hm : (memN t C.mt && sameT c) with
        | true => rw [hm] at h; exact ⟨h.1, fun y hy => ⟨h.2 y hy, pt rfl rfl⟩⟩
        | false => rw [hm] at h; exact ⟨h.1, fun y hy => ⟨h.2 y hy, pt rfl rfl⟩⟩
    · exact h
  | app0 t bytes ext =>
    simp only [exec] at h ⊢
    split at h
    · cases hm : memN t C.mt with
      | true => rw [hm] at h; exact ⟨h.1, fun y hy => ⟨h.2 y hy, pt rfl rfl⟩⟩
      | false => rw [hm] at h; exact ⟨h.1, fun y hy => ⟨h.2 y hy, pt rfl rfl⟩⟩
    · exact h
theorem go_mono {op : Op} {pl : Bool} {d : Option Nat} {k k' : XS S.A → Prop} {kp kp' : AV S.A → XS S.A → Prop} (hk : ∀ s, k s → k' s) (hp : ∀ p s, kp p s → kp' p s) (h : goS C pl N call b id d s k kp op) : goS C pl N call b id d s k' kp' op := by
  unfold goS at h ⊢
  split at h
  · split at h
    · exact ⟨fun e => hk _ (h.1 e), fun e => hk _ (h.2 e)⟩
    · exact h
  · exact exec_mono hcm hkm hk hp h
theorem step_mono {k k' : XS S.A → Prop} {kp kp' : AV S.A → XS S.A → Prop} (hk : ∀ s, k s → k' s) (hp : ∀ p s, kp p s → kp' p s) (h : stepS C N call b ops id o s k kp) : stepS C N call b ops id o s k' kp' := by
  obtain ⟨h0, h⟩ := h
  refine ⟨h0, ?_⟩
  cases hg : o.guard with
  | none => rw [hg] at h; exact go_mono hcm hkm hk hp h
  | some jw =>
    rw [hg] at h
    simp only at h ⊢
    split at h
    · exact ⟨fun e => hk _ (h.1 e), fun v hv => ⟨fun e => go_mono hcm hkm hk hp ((h.2.1 v hv).1 e), fun e => hk _ ((h.2.1 v hv).2 e)⟩, h.2.2⟩
    · exact h
theorem go_env {ds : List Nat} {e0 : Nat → Option (AV S.A)} {op : Op} {pl : Bool} {d : Option Nat} {k : XS S.A → Prop} {kp : AV S.A → XS S.A → Prop} (hd : ∀ x, d = some x → x ∈ ds) (hs : ∀ j, j ∉ ds → s.env j = e0 j) (h : goS C pl N call b id d s k kp op) :
    goS C pl N call b id d s (fun s1 => k s1 ∧ ∀ j, j ∉ ds → s1.env j = e0 j) (fun p s1 => kp p s1 ∧ ∀ j, j ∉ ds → s1.env j = e0 j) op := by
  have pt : ∀ {x : Nat} {p : AV S.A}, d = some x → ∀ j, j ∉ ds → (s.put x p).env j = e0 j := by
    intro x p hx j hj
    show (bif Nat.beq j x then some p else s.env j) = e0 j
    rw [bne (fun e => hj (by subst e; exact hd _ hx))]
    exact hs j hj
  unfold goS at h ⊢
  split at h
  · split at h
    · exact ⟨fun e => ⟨h.1 e, pt rfl⟩, fun e => ⟨h.2 e, pt rfl⟩⟩
    · exact h
  · exact exec_env hcm hkm hd hs h
theorem step_env {ds : List Nat} {e0 : Nat → Option (AV S.A)} {k : XS S.A → Prop} {kp : AV S.A → XS S.A → Prop} (hd : ∀ x, o.dst = some x → x ∈ ds) (hs : ∀ j, j ∉ ds → s.env j = e0 j) (h : stepS C N call b ops id o s k kp) :
    stepS C N call b ops id o s (fun s1 => k s1 ∧ ∀ j, j ∉ ds → s1.env j = e0 j) (fun p s1 => kp p s1 ∧ ∀ j, j ∉ ds → s1.env j = e0 j) := by
  obtain ⟨h0, h⟩ := h
  refine ⟨h0, ?_⟩
  cases hg : o.guard with
  | none => rw [hg] at h; exact go_env hcm hkm hd hs h
  | some jw =>
    rw [hg] at h
    simp only at h ⊢
    split at h
    · rename_i g d hgd hod
      have pt : ∀ j, j ∉ ds → (s.put d .und).env j = e0 j := by
        intro j hj
        show (bif Nat.beq j d then some _ else s.env j) = e0 j
        rw [bne (fun e => hj (by subst e; exact hd _ hod))]
        exact hs j hj
      refine ⟨fun e => ⟨h.1 e, pt⟩, fun v hv => ⟨fun e => go_env hcm hkm hd hs ((h.2.1 v hv).1 e), fun e => ⟨(h.2.1 v hv).2 e, pt⟩⟩, h.2.2⟩
    · exact h
theorem exec_comm (hdr : C.dr = true) {op : Op} {d : Option Nat} {r : Rq S.A} (hr : r = rq S C.P (getN N (s.over b)) op) (hkp : ∀ p (M' s' : XS S.A), M'.L = s'.L → M'.T = s'.T → M'.c = s'.c → kp p M' → kp p s')
    (hin : ∀ x, inV Q (evA (getN N (s.over b)) x)) (hL : ∀ i ps, (s.over b).L i = some ps → Q i) (hat : e.m.at ide) (he : ¬ Q ide) (hid : ¬ Q id) (hne : id ≠ ide) (hd : d ≠ some e.d) (hinl : inlB C op = true → e.m = .no)
    (h : exec C call b id d (e.app s) k kp op r) : exec C call b id d s (fun s1 => k (e.app s1) ∧ Same C N b d op s s1) kp op r := by
  have put : ∀ {x : Nat} {p : AV S.A} {s' : XS S.A}, d = some x → Same C N b d op s s' → k ((e.app s').put x p) → k (e.app (s'.put x p)) ∧ Same C N b d op s (s'.put x p) := by
    intro x p s' hx hs hk
    refine ⟨?_, same_put hs hx⟩
    rw [app_put (fun h => by subst h; exact hd hx)]
    exact hk
  have self : Same C N b d op s s := same_mem rfl fun _ x ps h => h
  have boxS : ∀ cs, Same C N b d op s (s.setL id cs) := fun cs => same_mem rfl fun _ x ps hx => by
    show orE (bif Nat.beq x id then some cs else s.L x) (b.L x) = some ps
    rw [bne (fun e => by subst e; exact hid (hL _ _ hx))]
    exact hx
  have tipS : ∀ i sz n, Same C N b d op s (s.setT i sz n) := fun i sz n => same_mem rfl fun _ x ps h => h
  have prvS : ∀ i sz t (l : List (S.A t)), Same C N b d op s (s.setP i sz t l) := fun i sz t l => same_mem rfl fun _ x ps h => h
  cases r with
  | bad => exact h
  | panic p =>
    simp only [exec] at h
    rw [hdr] at h
    split at h <;> exact h.elim
  | ch c =>
    simp only [exec] at h ⊢
    split at h
    · exact fun v hv => put rfl self (h v hv)
    · exact h
  | eld x off e' i ag =>
    simp only [exec] at h ⊢
    split at h
    · rename_i t y d' cs u l pad hps
      have hx : x ≠ ide := by
        intro ex
        subst ex
        obtain ⟨_, hx, _⟩ := eld_args hr.symm
        have := hin y
        rw [hx] at this
        exact he this
      rw [L_app hat hx] at hps
      rw [hps]
      split at h
      · rename_i hu
        simp only
        rw [dif_pos hu]
        exact bif_imp (fun e => ⟨e.1, put rfl self e.2⟩) h
      · exact h.elim
    · exact h.elim
  | est x off e' i v =>
    simp only [exec] at h ⊢
    split at h
    · rename_i t y z cs u l pad hps
      have hx : x ≠ ide := by
        intro ex
        subst ex
        obtain ⟨_, _, hx, _⟩ := est_args hr.symm
        have := hin y
        rw [hx] at this
        exact he this
      rw [L_app hat hx] at hps
      rw [hps]
      split at h
      · rename_i hu
        simp only
        rw [dif_pos hu]
        refine bif_imp (fun e => ⟨e.1, ?_, same_mem rfl fun hm => by cases hm⟩) h
        rw [app_setL hat hx]
        exact e.2
      · exact h.elim
    · exact h.elim
  | tld q n e' i ag =>
    simp only [exec] at h
    rw [hdr] at h
    exact h.elim
  | tst q n e' i v =>
    simp only [exec] at h ⊢
    split at h
    · rename_i t y z sz m u l pad hT
      have hq : q ≠ ide := by
        intro ex
        subst ex
        obtain ⟨_, _, hx, _⟩ := tst_args hr.symm
        have := hin y
        rw [hx] at this
        exact he this
      rw [T_app hat hq] at hT
      rw [hT]
      split at h
      · rename_i hu
        simp only
        rw [dif_pos hu]
        refine bif_imp (fun e => ⟨e.1, ?_, same_mem rfl fun hm => by cases hm⟩) h
        rw [app_setP hat hq]
        exact e.2
      · exact h.elim
    · exact h.elim
  | papp q t bytes n ext =>
    simp only [exec] at h ⊢
    split at h
    · rename_i c d' sz m u l pad hT
      obtain ⟨x, y, u', -, -, -, hx, -⟩ := papp_args (P := C.P) hr.symm
      have hq : q ≠ ide := by
        intro ex
        subst ex
        have := hin x
        rw [hx] at this
        exact he this
      rw [T_app hat hq] at hT
      rw [hT]
      cases hb : Nat.beq sz (szOf S t) with
      | false => rw [hb] at h; exact h.elim
      | true =>
        rw [hb] at h
        simp only [Bool.not_true, cond_false] at h ⊢
        rw [hb]
        simp only [Bool.not_true, cond_false]
        split at h
        · rename_i hu
          rw [dif_pos hu]
          exact ⟨h.1, fun y hy => put rfl (prvS q _ _ _) (by rw [app_setP hat hq]; exact h.2 y hy)⟩
        · exact h.elim
    · exact h.elim
  | v p =>
    simp only [exec] at h ⊢
    split at h
    · exact put rfl self h
    · exact h
  | vc c p =>
    simp only [exec] at h ⊢
    split at h
    · exact ⟨h.1, put rfl self h.2⟩
    · exact h
  | ld x off n ag =>
    simp only [exec] at h ⊢
    split at h
    · rename_i t y d' ps hps
      have hx : x ≠ ide := by
        intro ex
        subst ex
        simp only [rq] at hr
        split at hr
        · rename_i ag' n' ht
          split at hr
          · rename_i x' off' hx
            cases hr
            have := hin y
            rw [hx] at this
            exact he this
          · revert hr; cases (Nat.beq n' (szOf S _) && (ag' || Nat.beq n' 1)) <;> (intro hr; cases hr)
          · revert hr; cases (Nat.beq n' (szOf S _) && (ag' || Nat.beq n' 1)) <;> (intro hr; cases hr)
          · rename_i cs hx
            cases hb2 : (Nat.beq (cs.take n').length n' && (ag' || Nat.beq n' 1)) <;> rw [hb2] at hr <;> cases hr
          · cases hr
        · cases hr
      rw [L_app hat hx] at hps
      rw [hps]
      cases hb : (Nat.beq ((ps.cs.drop off).take n).length n && (ag || Nat.beq n 1)) with
      | false => rw [hb] at h; exact h.elim
      | true => rw [hb] at h; simp only [hb, cond_true]; exact put rfl self h
    · exact h.elim
  | box bx =>
    simp only [exec] at h ⊢
    split at h
    · cases hb : bx.cs.all isCell with
      | false => rw [hb] at h; exact h.elim
      | true => rw [hb] at h; exact put rfl (boxS _) (by rw [app_setL hat hne]; exact h)
    · cases hb : bx.cs.all isCell with
      | false => rw [hb] at h; exact h.elim
      | true => rw [hb] at h; exact put rfl (boxS _) (by rw [app_setL hat hne]; exact h)
    · exact h
  | st x off n cs =>
    simp only [exec] at h ⊢
    split at h
    · rename_i t y z ps hps
      have hx : x ≠ ide := by
        intro ex
        subst ex
        simp only [rq] at hr
        split at hr
        · split at hr
          · rename_i x' off' hx
            cases hr
            have := hin y
            rw [hx] at this
            exact he this
          · split at hr <;> cases hr
          · split at hr <;> cases hr
          · cases hr
        · cases hr
      rw [L_app hat hx] at hps
      rw [hps]
      cases hb : (Nat.beq cs.length n && (Nat.ble (off + n) ps.cs.length && cs.all isCell)) with
      | false => rw [hb] at h; exact h.elim
      | true =>
        rw [hb] at h
        simp only [cond_true] at h ⊢
        rw [hb]
        refine ⟨?_, same_mem rfl fun hm => by cases hm⟩
        rw [app_setL hat hx]
        exact h
    · exact h.elim
  | tip t l =>
    simp only [exec] at h ⊢
    split at h
    · exact put rfl (tipS id _ _) (by rw [app_setT hat hne]; exact h)
    · exact h
  | app q t bytes l ext =>
    simp only [exec] at h ⊢
    split at h
    · rename_i c d' sz m hT
      obtain ⟨x, y, u, u', -, -, -, hx, -⟩ := app_args (P := C.P) hr.symm
      have hq : q ≠ ide := by
        intro ex
        subst ex
        have := hin x
        rw [hx] at this
        exact he this
      rw [T_app hat hq] at hT
      rw [hT]
      cases hb : Nat.beq sz (szOf S t) with
      | false => rw [hb] at h; exact h.elim
      | true =>
        rw [hb] at h
        simp only [Bool.not_true, cond_false] at h ⊢
        rw [hb]
        simp only [Bool.not_true, cond_false]
        cases hm : (memN t C.mt && sameT c) with
        | true => rw [hm] at h; exact ⟨h.1, fun y hy => put rfl (prvS q _ _ _) (by rw [app_setP hat hq]; exact h.2 y hy)⟩
        | false => rw [hm] at h; exact ⟨h.1, fun y hy => put rfl (tipS q _ _) (by rw [app_setT hat hq]; exact h.2 y hy)⟩
    · exact h.elim
  | app0 t bytes ext =>
    simp only [exec] at h ⊢
    split at h
    · cases hm : memN t C.mt with
      | true => rw [hm] at h; exact ⟨h.1, fun y hy => put rfl (prvS id _ _ _) (by rw [app_setP hat hne]; exact h.2 y hy)⟩
      | false => rw [hm] at h; exact ⟨h.1, fun y hy => put rfl (tipS id _ _) (by rw [app_setT hat hne]; exact h.2 y hy)⟩
    · exact h
  | call f args =>
    simp only [exec] at h ⊢
    split at h
    · rename_i c d'
      cases hb : (fnB C.P f && args.all flatA) with
      | false => rw [hb] at h; exact h.elim
      | true =>
        rw [hb] at h
        simp only [cond_true] at h ⊢
        split at h
        · rename_i W hW
          exact hkm f W hW args _ _ (fun r hr => put rfl self hr) h
        · split at h
          · exact put rfl self h
          · exact h
        · rename_i e' gc R' hS
          split at h
          · rename_i q u n p
            split at h
            · rename_i sz m u' l pad hcl hT
              have hq : q ≠ ide := by
                intro ex
                subst ex
                obtain ⟨x, ls, -, hargs, -⟩ := call_args (P := C.P) hr.symm
                have hm : (AV.prv q u n : AV S.A) ∈ [AV.prv q u n, p] := by simp
                rw [hargs] at hm
                rcases List.mem_append.1 hm with hm | hm
                · obtain ⟨z, _, hz⟩ := List.mem_map.1 hm
                  have := hin z
                  rw [hz] at this
                  exact he this
                · obtain ⟨z, _, hz⟩ := List.mem_map.1 hm
                  cases z <;> cases hz
              rw [T_app hat hq] at hT
              simp only [hcl, hT]
              split at h
              · rename_i hu
                rw [dif_pos hu]
                exact bif_imp (fun e => ⟨e.1, fun y h1 h2 => put rfl (prvS q _ _ _) (by rw [app_setP hat hq]; exact e.2 y h1 h2)⟩) h
              · exact h.elim
            · exact h.elim
          · exact bif_imp (fun e => put rfl self e) h
          · exact h.elim
        · split at h
          · rename_i e1 _ _ _ _ _ _
            cases hm : memN e1 C.mt with
            | true => rw [hm] at h; exact ⟨h.1, fun y hy => put rfl (prvS id _ _ _) (by rw [app_setP hat hne]; exact h.2 y hy)⟩
            | false => rw [hm] at h; exact ⟨h.1, fun y hy => put rfl (tipS id _ _) (by rw [app_setT hat hne]; exact h.2 y hy)⟩
          · exact h.elim
        · rename_i tb Fb hBx
          have hinlT : inlB C (.call c) = true := by
            obtain ⟨x, ls, hc, -, hx⟩ := call_args (P := C.P) hr.symm
            unfold inlB
            simp only [hc]
            cases x with
            | func f' =>
              have : f' = f := by
                rcases hx with ⟨h1, _⟩ | h1
                · have h1 : (AV.sc (.func (.func f') #[] #[]) : AV S.A) = .sc (.func (.func f) #[] #[]) := h1
                  cases h1; rfl
                · have h1 : (AV.sc (.func (.func f') #[] #[]) : AV S.A) = .clo f ls := h1
                  cases h1
              subst this
              simp only [hBx]
            | _ => rfl
          have hno := hinl hinlT
          split at h
          · rename_i x' as
            have hLe : ((e.app s).over b).L x' = (s.over b).L x' := by
              show orE ((e.app s).L x') (b.L x') = orE (s.L x') (b.L x')
              unfold Eff.app ME.app
              rw [hno]
              rfl
            rw [hLe] at h
            split at h
            · split at h
              · split at h
                · refine withP_mono (fun hk u hu => put rfl (same_mem rfl fun hm => ?_) ?_) h
                  · have hm : inlB C (.call c) = false := hm
                    rw [hinlT] at hm
                    cases hm
                  · have : ∀ bx, e.app (s.setL x' bx) = (e.app s).setL x' bx := fun bx => by
                      unfold Eff.app ME.app
                      rw [hno]
                      rfl
                    rw [this]
                    exact hk u hu
                · exact h.elim
              · exact h.elim
            · exact h.elim
          · exact h.elim
        · rename_i hnone
          have hinlT : inlB C (.call c) = true := by
            obtain ⟨x, ls, hc, -, hx⟩ := call_args (P := C.P) hr.symm
            unfold inlB
            simp only [hc]
            cases x with
            | func f' =>
              have : f' = f := by
                rcases hx with ⟨h1, _⟩ | h1
                · have h1 : (AV.sc (.func (.func f') #[] #[]) : AV S.A) = .sc (.func (.func f) #[] #[]) := h1
                  cases h1; rfl
                · have h1 : (AV.sc (.func (.func f') #[] #[]) : AV S.A) = .clo f ls := h1
                  cases h1
              subst this
              simp only [hnone]
            | _ => rfl
          have hno := hinl hinlT
          rw [app_mem hno] at h
          refine hcm f args _ _ _ (fun p m => kp p ((e.app s).withM m)) _ (fun r m hr => ?_) (fun p m hp => hkp p ((e.app s).withM m) (s.withM m) rfl rfl rfl hp) h
          have hs : Same C N b (some d') (.call c) s (s.withM m) := same_mem rfl fun hm => by
            have hm : inlB C (.call c) = false := hm
            rw [hinlT] at hm
            cases hm
          refine put rfl hs ?_
          rw [app_withM hno]
          exact hr
    · exact h
omit hcm hkm in
theorem ev_app {x : Operand} (h : ∀ t, x = .tmp t → t ≠ e.d) : evA (getN N ((e.app s).over b)) x = evA (getN N (s.over b)) x :=
  ev_agree fun t ht => getN_app (h t ht)
theorem step_comm (hdr : C.dr = true) (hkp : ∀ p (M' s' : XS S.A), M'.L = s'.L → M'.T = s'.T → M'.c = s'.c → kp p M' → kp p s')
    (hin : ∀ x, inV Q (evA (getN N (s.over b)) x)) (hL : ∀ i ps, (s.over b).L i = some ps → Q i) (hat : e.m.at ide) (he : ¬ Q ide) (hid : ¬ Q id) (hne : id ≠ ide) (hd : o.dst ≠ some e.d) (hrd : e.d ∉ readsO ops o) (hinl : inlB C o.op = true → e.m = .no)
    (h : stepS C N call b ops id o (e.app s) k kp) : stepS C N call b ops id o s (fun s1 => k (e.app s1) ∧ Same C N b o.dst o.op s s1) kp := by
  have hop : ∀ x ∈ o.op.operands.toList, evA (getN N ((e.app s).over b)) x = evA (getN N (s.over b)) x :=
    fun x hx => ev_app fun t ht ex => hrd (by subst ht; subst ex; exact List.mem_append_left _ (uses_mem hx))
  have put : ∀ {x : Nat} {p : AV S.A}, o.dst = some x → k ((e.app s).put x p) → k (e.app (s.put x p)) ∧ Same C N b o.dst o.op s (s.put x p) := by
    intro x p hx hk
    refine ⟨?_, same_put (same_mem rfl fun _ x ps h => h) hx⟩
    rw [app_put (fun h => by subst h; exact hd hx)]
    exact hk
  have go : goS C (ptLoad C.P ops o.op) N call b id o.dst (e.app s) k kp o.op → goS C (ptLoad C.P ops o.op) N call b id o.dst s (fun s1 => k (e.app s1) ∧ Same C N b o.dst o.op s s1) kp o.op := by
    intro h
    by_cases hp : ∃ c x y, o.op = .pick c x y
    · obtain ⟨c, x, y, ho⟩ := hp
      rw [ho] at h hop ⊢
      simp only [goS] at h ⊢
      rw [hop c (by simp [Op.operands]), hop x (by simp [Op.operands]), hop y (by simp [Op.operands])] at h
      split at h
      · rename_i d v hdd hv
        rw [hdd]
        rw [hdd, ho] at put
        exact ⟨fun ev => put rfl (h.1 ev), fun ev => put rfl (h.2 ev)⟩
      · exact h.elim
    · have eq : ∀ s' (k : XS S.A → Prop) kp, goS C (ptLoad C.P ops o.op) N call b id o.dst s' k kp o.op = exec C call b id o.dst s' k kp o.op (rqP (ptLoad C.P ops o.op) (rq S C.P (getN N (s'.over b)) o.op)) := by
        intro s' k kp
        unfold goS
        split
        · rename_i c x y ho; exact absurd ⟨c, x, y, ho⟩ hp
        · rfl
      rw [eq] at h ⊢
      rw [rq_congr hop] at h
      have h2 := exec_comm hcm hkm hdr rfl hkp hin hL hat he hid hne hd hinl (exec_rqP h)
      generalize rq S C.P (getN N (s.over b)) o.op = r at h h2
      cases r with
      | ld x off n ag =>
        cases hpl : ptLoad C.P ops o.op with
        | true => rw [hpl] at h; exact h.elim
        | false => exact h2
      | eld x off e' i ag =>
        cases hpl : ptLoad C.P ops o.op with
        | true => rw [hpl] at h; exact h.elim
        | false => exact h2
      | tld q n e' i ag =>
        cases hpl : ptLoad C.P ops o.op with
        | true => rw [hpl] at h; exact h.elim
        | false => exact h2
      | _ => cases ptLoad C.P ops o.op <;> exact h2
  obtain ⟨h0, h⟩ := h
  refine ⟨h0, ?_⟩
  cases hg : o.guard with
  | none => rw [hg] at h; exact go h
  | some jw =>
    obtain ⟨j, w⟩ := jw
    rw [hg] at h
    simp only at h ⊢
    cases hj : dstOf ops j with
    | none => rw [hj] at h; exact h.elim
    | some g =>
      cases hdd : o.dst with
      | none => rw [hj, hdd] at h; exact h.elim
      | some d =>
        rw [hj, hdd] at h
        simp only at h ⊢
        have hgd : getN N ((e.app s).over b) g = getN N (s.over b) g := getN_app (fun ex => hrd (by subst ex; exact List.mem_append_right _ (by simp [hg, hj])))
        rw [hgd] at h
        rw [hdd] at go put
        exact ⟨fun hu => put rfl (h.1 hu), fun v hv => ⟨fun ev => go ((h.2.1 v hv).1 ev), fun ev => put rfl ((h.2.1 v hv).2 ev)⟩, h.2.2⟩
omit hcm hkm in
theorem swapB_spec {x y : Oper} (h : swapB C ops x y = true) : quietOp x.op = true ∧ (∀ d, x.dst = some d → d ∉ readsO ops y ∧ y.dst ≠ some d) ∧ (∀ d', y.dst = some d' → d' ∉ readsO ops x) ∧ (inlB C y.op = true → allocB x.op = false) ∧ ((ldB x.op = true ∧ ptLoad C.P ops x.op = false) → memB C y.op = false) := by
  unfold swapB at h
  simp only [Bool.and_eq_true, Bool.or_eq_true, Bool.not_eq_true'] at h
  obtain ⟨⟨⟨h1, h2⟩, h3⟩, h4⟩ := h
  have nm : ∀ {d : Nat} {l : List Nat}, memN d l = false → d ∉ l := fun h hm => by rw [memN_mem.2 hm] at h; cases h
  refine ⟨h1, fun d hd => ?_, fun d' hd' => ?_, fun hi => ?_, fun ⟨ho, hpl⟩ => ?_⟩
  · rw [hd] at h2
    simp only [Bool.and_eq_true, Bool.not_eq_true'] at h2
    refine ⟨nm h2.1, fun hy => ?_⟩
    have h2 := h2.2
    rw [hy] at h2
    simp only [Nat.beq_refl, Bool.and_eq_true, Bool.not_eq_true'] at h2
    cases h2.1
  · cases hx : x.dst with
    | none => rw [hx] at h2; cases h2
    | some d =>
      rw [hx, hd'] at h2
      simp only [Bool.and_eq_true, Bool.not_eq_true'] at h2
      exact nm h2.2.2
  · rcases h3 with h3 | h3
    · rw [hi] at h3; cases h3
    · exact h3
  · rcases h4 with h4 | h4 | h4
    · rw [ho] at h4; cases h4
    · rw [hpl] at h4; cases h4
    · exact h4
end comm
end
end Go.Rx
/-! Regions of open order. -/
namespace Go.Rx
open Go.Ab Go.RowKit
set_option linter.unusedVariables false
set_option linter.unusedSimpArgs false
section anyrel
variable {P : Program} {B : Base} {Φ : Exit → St → Prop} {ops : Array Oper}
theorem any_of_rel (R : (Nat → Bool) → St → Prop) (hback : backB ops = true)
    (hs : ∀ i o, ops[i]? = some o → ∀ b, ClosedB ops b → b i = false → (∀ k ∈ depsOf o, b k = true) → ∀ σ, R b σ → ∀ g a w, Rel B σ g a w → ∀ K : Act → World → Prop, (∀ σ' g' a' w', R (up b i) σ' → Rel B σ' g' a' w' → K a' w') →
      if Region.wanted o (yielded ops a.tmps) then o.wp P a w K (lift B Φ) else K (a.put o.dst undef) w)
    (hend : ∀ b, (∀ i, b i = true) → ∀ σ, R b σ → ∀ g a w, Rel B σ g a w → lift B Φ .normal a w) :
    ∀ (n : Nat) (l : Array Bool), l.size = ops.size → (l.toList.filter (! ·)).length = n → ClosedB ops (setOf l) → ∀ σ, R (setOf l) σ → ∀ g a w, Rel B σ g a w → wpAny P .any ops (lift B Φ) n l a w := by
  intro n
  induction n with
  | zero =>
    intro l hl hn hc σ hR g a w hr
    have hall : ∀ i, setOf l i = true := by
      intro i
      unfold setOf
      rw [Array.getD_eq_getD_getElem?]
      by_cases hi : i < l.size
      · rw [Array.getElem?_eq_getElem hi]
        have h0 : l.toList.filter (! ·) = [] := List.length_eq_zero_iff.1 hn
        have h1 := List.filter_eq_nil_iff.1 h0 l[i] (by simp)
        simpa using h1
      · rw [Array.getElem?_eq_none (by omega)]; rfl
    refine ⟨?_, hend _ hall σ hR g a w hr⟩
    cases hq : Region.ready .any ops l with
    | nil => rfl
    | cons i rest =>
      have : i ∈ Region.ready .any ops l := by rw [hq]; simp
      obtain ⟨o, _, h1, _⟩ := (ready_iff hl hback).1 this
      rw [hall] at h1
      cases h1
  | succ n ih =>
    intro l hl hn hc σ hR g a w hr
    refine ⟨fun h0 => ?_, fun i hi => ?_⟩
    · exfalso
      have : ∃ i, i < ops.size ∧ setOf l i = false := by
        have h1 : l.toList.filter (! ·) ≠ [] := by intro h; rw [h] at hn; simp at hn
        obtain ⟨x, hx⟩ := List.exists_mem_of_ne_nil _ h1
        rw [List.mem_filter] at hx
        obtain ⟨i, hi, hxi⟩ := List.getElem_of_mem hx.1
        have hi' : i < l.size := by simpa using hi
        refine ⟨i, by omega, ?_⟩
        unfold setOf
        rw [Array.getD_eq_getD_getElem?, Array.getElem?_eq_getElem hi']
        have : l[i] = x := by simpa using hxi
        rw [this]
        simpa using hx.2
      obtain ⟨i, hi, hf⟩ := this
      obtain ⟨j, hj⟩ := ready_some hl hback i i (Nat.le_refl _) hi hf
      rw [h0] at hj
      cases hj
    · obtain ⟨o, ho, h1, h2⟩ := (ready_iff hl hback).1 hi
      have hil : i < l.size := by have := (Array.getElem?_eq_some_iff.1 ho).1; omega
      have hstep := hs i o ho (setOf l) hc h1 h2 σ hR g a w hr
      have hset := setOf_set (l := l) hil
      have hc' : ClosedB ops (setOf (l.setIfInBounds i true)) := by
        rw [hset]
        intro j oj hoj hj k hk
        by_cases e : k = i
        · subst e; exact up_self _ _
        · rw [up_ne _ e]
          by_cases e2 : j = i
          · subst e2
            obtain rfl : o = oj := Option.some.inj (ho.symm.trans hoj)
            exact h2 k hk
          · rw [up_ne _ e2] at hj
            exact hc j oj hoj hj k hk
      have hcount : ((l.setIfInBounds i true).toList.filter (! ·)).length = n := by
        have h3 : l.toList[i]? = some false := by
          unfold setOf at h1
          rw [Array.getD_eq_getD_getElem?, Array.getElem?_eq_getElem hil] at h1
          simp only [Array.getElem?_toList, Array.getElem?_eq_getElem hil]
          simpa using h1
        have := count_set l.toList i h3
        rw [Array.toList_setIfInBounds]
        omega
      have next : ∀ σ' g' a' w', R (up (setOf l) i) σ' → Rel B σ' g' a' w' → wpAny P .any ops (lift B Φ) n (l.setIfInBounds i true) a' w' := fun σ' g' a' w' hR' hr' =>
        ih _ (by simp [hl]) hcount hc' σ' (by rw [hset]; exact hR') g' a' w' hr'
      have h4 := hstep (wpAny P .any ops (lift B Φ) n (l.setIfInBounds i true)) next
      unfold wpOp
      rw [ho]
      simp only
      split
      · rename_i hw; rw [if_pos hw] at h4; exact .inl h4
      · rename_i hw; rw [if_neg hw] at h4; exact h4
theorem aw_any_rel {id : Nat} {σ : St} (R : (Nat → Bool) → St → Prop) (hm : P.follows .mixedOrders = true) (hback : backB ops = true) (h0 : ∀ b, (∀ i, i < ops.size → b i = false) → (∀ i, ops.size ≤ i → b i = true) → R b σ)
    (hs : ∀ i o, ops[i]? = some o → ∀ b, ClosedB ops b → b i = false → (∀ k ∈ depsOf o, b k = true) → ∀ σ, R b σ → ∀ g a w, Rel B σ g a w → ∀ K : Act → World → Prop, (∀ σ' g' a' w', R (up b i) σ' → Rel B σ' g' a' w' → K a' w') →
      if Region.wanted o (yielded ops a.tmps) then o.wp P a w K (lift B Φ) else K (a.put o.dst undef) w)
    (hend : ∀ b, (∀ i, b i = true) → ∀ σ, R b σ → ∀ g a w, Rel B σ g a w → lift B Φ .normal a w) : AW P B (.region id ops true) Φ σ := by
  intro g a w hr
  refine wp_region_any hm ?_
  refine any_of_rel R hback hs hend ops.size _ (by simp) (by simp) ?_ σ (h0 _ (fun i hi => by simp [setOf, hi]) (fun i hi => by unfold setOf; rw [Array.getD_eq_getD_getElem?, Array.getElem?_eq_none (by simpa using hi)]; rfl)) g a _ (hr.drawn (w.drawn + 1))
  intro j o ho hj k hk
  have := (Array.getElem?_eq_some_iff.1 ho).1
  simp [setOf, this] at hj
end anyrel
section front
variable {S : Sys} {C : Cfg S} {F : Fr S} {call : CallT S} {b : XS S.A} {ops : List Oper} {kp : AV S.A → XS S.A → Prop} {k : XS S.A → Prop}
variable (hcm : ∀ f args m k k' kp kp', (∀ r m, k r m → k' r m) → (∀ r m, kp r m → kp' r m) → call f args m k kp → call f args m k' kp') (hkm : ∀ f W, Ab.look C.K f = some (.tr W) → ∀ args k k', (∀ r, k r → k' r) → W args k → W args k')
  (hkp : ∀ p (M' s' : XS S.A), M'.L = s'.L → M'.T = s'.T → M'.c = s'.c → kp p M' → kp p s')
include hcm hkm hkp
omit hcm hkm hkp in
theorem wf_app {Q : Nat → Prop} {s : XS S.A} {e : Eff S.A} {id : Nat} (hw : WF Q F (s.over b)) (hat : e.m.at id) (h1 : inV (fun n => Q n ∨ n = id) e.p) (h2 : ∀ i cs, e.m = .L i cs → ∀ p ∈ cs.cs, in1 (fun n => Q n ∨ n = id) p) : WF (fun n => Q n ∨ n = id) F ((e.app s).over b) := by
  have hw' : WF (fun n => Q n ∨ n = id) F (s.over b) := hw.mono fun _ => .inl
  obtain ⟨d, p, m⟩ := e
  cases m with
  | no => show WF _ F ((s.put d p).over b); rw [over_put]; exact hw'.put h1
  | L i cs =>
    obtain rfl := hat
    show WF _ F (((s.setL i cs).put d p).over b)
    rw [over_put, over_setL]
    exact (hw'.setL (.inr rfl) (h2 i cs rfl)).put h1
  | T i sz n =>
    obtain rfl := hat
    show WF _ F (((s.setT i sz n).put d p).over b)
    rw [over_put, over_setT]
    exact (hw'.setT (.inr rfl)).put h1
/-- What may come later does; an operation comes to the front. -/
theorem front (hdr : C.dr = true) {c0 i : Nat} {o : Oper} {post : List (Nat × Oper)} : ∀ (pre : List (Nat × Oper)) (Q : Nat → Prop) (s : XS S.A), (∀ x ∈ pre, swapB C ops x.2 o = true) → (pre.map (·.1)).Nodup → (∀ x ∈ pre, ¬ Q (c0 + x.1)) → ¬ Q (c0 + i) → (∀ x ∈ pre, x.1 ≠ i) → WF Q F (s.over b) →
    runS C F.N call b ops (fun i _ => c0 + i) (fun s => s) kp (pre ++ (i, o) :: post) s k → stepS C F.N call b ops (c0 + i) o s (fun s1 => runS C F.N call b ops (fun i _ => c0 + i) (fun s => s) kp (pre ++ post) s1 k) kp
  | [], Q, s, _, _, _, _, _, _, h => h
  | (x, ox) :: pre, Q, s, hsw, hnd, hQ, hQi, hne, hw, h => by
    obtain ⟨q1, q2, q3, q4, q5⟩ := swapB_spec (hsw (x, ox) (by simp))
    have h : stepS C F.N call b ops (c0 + x) ox s (fun s1 => runS C F.N call b ops (fun i _ => c0 + i) (fun s => s) kp (pre ++ (i, o) :: post) s1 k) kp := h
    obtain ⟨e, ⟨e1, e2, e3⟩, _, e4, e5, e6, e7⟩ := step_quiet hdr (Q := Q) q1 h (fun y => hw.ev y) (fun i ps hi => (hw.L i ps hi).2)
    have hw' := wf_app hw e2 e5 e6
    have hxi : x ≠ i := hne (x, ox) (by simp)
    have hnd' := List.nodup_cons.1 hnd
    have h1 := front hdr pre (fun n => Q n ∨ n = c0 + x) (e.app s) (fun y hy => hsw y (by simp [hy])) hnd'.2
      (fun y hy => by
        rintro (hq | hq)
        · exact hQ y (by simp [hy]) hq
        · have : y.1 = x := by omega
          exact hnd'.1 (List.mem_map.2 ⟨y, hy, this⟩))
      (by
        rintro (hq | hq)
        · exact hQi hq
        · omega)
      (fun y hy => hne y (by simp [hy])) hw' e4
    have hd := q2 e.d e1
    have h2 := step_comm hcm hkm (Q := Q) hdr hkp (fun y => hw.ev y) (fun i ps hi => (hw.L i ps hi).1) e2 (hQ (x, ox) (by simp)) hQi (by show c0 + i ≠ c0 + x; omega) hd.2 hd.1 (fun hi => e7 (q4 hi)) h1
    refine step_mono hcm hkm (fun s1 ⟨k1, k2⟩ => ?_) (fun p s h => h) h2
    show stepS C F.N call b ops (c0 + x) ox s1 _ kp
    refine e3 s1 ⟨fun y hy => k2.get y fun hd' => ?_, fun hl => k2.L (q5 hl)⟩ _ _ k1
    exact q3 y hd' hy
omit hcm hkm hkp in
theorem mem_uni {x : Nat} : ∀ {a l : List Nat}, x ∈ uni a l → x ∈ a ∨ x ∈ l
  | [], l, h => .inr h
  | j :: r, l, h => by
    rcases mem_uni (a := r) h with h | h
    · exact .inl (by simp [h])
    · revert h
      cases memN j l with
      | true => exact fun h => .inr h
      | false =>
        intro h
        rcases List.mem_cons.1 h with rfl | h
        · exact .inl (by simp)
        · exact .inr h
omit hcm hkm hkp in
theorem befores_ok {ops : Array Oper} {bs : Nat → Bool} (hc : ClosedB ops bs) : ∀ (l : List Oper) (acc : List (List Nat)) (pre : List Oper), acc.length = pre.length → ops.toList = pre ++ l →
    (∀ i o, ops[i]? = some o → (∀ k ∈ depsOf o, bs k = true) → ∀ x ∈ acc.getD i [], bs x = true) →
    ∀ i o, ops[i]? = some o → (∀ k ∈ depsOf o, bs k = true) → ∀ x ∈ (l.foldl (fun acc o => acc ++ [(depsN o).foldl (fun l j => uni (j :: acc.getD j []) l) []]) acc).getD i [], bs x = true
  | [], acc, pre, hl, he, h => h
  | o :: l, acc, pre, hl, he, h => by
    refine befores_ok hc l _ (pre ++ [o]) (by simp [hl]) (by simp [he]) ?_
    intro i oi hoi hdeps x hx
    by_cases hi : i < acc.length
    · rw [List.getD_eq_getElem?_getD, List.getElem?_append_left hi, ← List.getD_eq_getElem?_getD] at hx
      exact h i oi hoi hdeps x hx
    · by_cases hi2 : i = acc.length
      · subst hi2
        have hoo : oi = o := by
          have h1 : ops.toList[acc.length]? = some oi := by simpa using hoi
          rw [he, hl, List.getElem?_append_right (Nat.le_refl _)] at h1
          simpa using h1.symm
        subst hoo
        rw [List.getD_eq_getElem?_getD, List.getElem?_append_right (Nat.le_refl _), Nat.sub_self] at hx
        have hx : x ∈ (depsN oi).foldl (fun l j => uni (j :: acc.getD j []) l) [] := hx
        have key : ∀ (ds : List Nat) (l0 : List Nat), (∀ j ∈ ds, bs j = true) → (∀ y ∈ l0, bs y = true) → ∀ y ∈ ds.foldl (fun l j => uni (j :: acc.getD j []) l) l0, bs y = true := by
          intro ds
          induction ds with
          | nil => intro l0 _ h0; exact h0
          | cons d ds ih =>
            intro l0 hd h0
            refine ih _ (fun j hj => hd j (by simp [hj])) ?_
            intro y hy
            rcases mem_uni hy with hy | hy
            · rcases List.mem_cons.1 hy with rfl | hy
              · exact hd y (by simp)
              · have hb : bs d = true := hd d (by simp)
                by_cases hdl : d < ops.size
                · exact h d _ (Array.getElem?_eq_getElem hdl) (hc d _ (Array.getElem?_eq_getElem hdl) hb) y hy
                · have : acc.length ≤ d := by
                    have : ops.size = pre.length + (l.length + 1) := by rw [← Array.length_toList, he]; simp
                    omega
                  rw [List.getD_eq_getElem?_getD, List.getElem?_eq_none this] at hy
                  cases hy
            · exact h0 y hy
        exact key _ [] hdeps (fun y hy => by cases hy) x hx
      · rw [List.getD_eq_getElem?_getD, List.getElem?_eq_none (by simp; omega)] at hx
        cases hx
omit hcm hkm hkp in
theorem befores_closed {ops : Array Oper} {bs : Nat → Bool} (hc : ClosedB ops bs) {i : Nat} {o : Oper} (ho : ops[i]? = some o) (hd : ∀ k ∈ depsOf o, bs k = true) : ∀ x ∈ (befores ops.toList).getD i [], bs x = true :=
  befores_ok hc ops.toList [] [] rfl rfl (fun i o _ _ x hx => by rw [List.getD_eq_getElem?_getD] at hx; cases hx) i o ho hd
omit hcm hkm hkp in
theorem numd_mem {α : Type} : ∀ {l : List α} {n i : Nat} {x : α}, (i, x) ∈ numd n l → n ≤ i ∧ l[i - n]? = some x
  | y :: l, n, i, x, h => by
    rcases List.mem_cons.1 h with e | h
    · cases e; simp
    · have := numd_mem h
      refine ⟨by omega, ?_⟩
      rw [show i - n = (i - (n + 1)) + 1 by omega]
      simpa using this.2
omit hcm hkm hkp in
theorem mem_numd {α : Type} : ∀ {l : List α} {n i : Nat} {x : α}, l[i]? = some x → (n + i, x) ∈ numd n l
  | y :: l, n, 0, x, h => by cases h; exact List.mem_cons_self
  | y :: l, n, i + 1, x, h => by
    refine List.mem_cons_of_mem _ ?_
    have := mem_numd (l := l) (n := n + 1) (i := i) (x := x) (by simpa using h)
    rw [show n + (i + 1) = n + 1 + i by omega]
    exact this
omit hcm hkm hkp in
theorem pick_mem {done : List Nat} {q : Bool} (l : List (Nat × Oper)) : ∀ {r : List (Nat × Oper)} {x : Nat × Oper}, pickB done q l = some (x, r) → x ∈ l ∧ ∀ y ∈ r, y ∈ l := by
  induction l with
  | nil => intro r x h; cases h
  | cons a l ih =>
    intro r x h
    obtain ⟨i, o⟩ := a
    rw [pickB] at h
    cases hc : (readyB done o && (!q || quietOp o.op)) with
    | true =>
      rw [hc] at h
      cases h
      exact ⟨by simp, fun y hy => by simp [hy]⟩
    | false =>
      rw [hc, cond_false] at h
      cases hp : pickB done q l with
      | none => rw [hp] at h; cases h
      | some z =>
        obtain ⟨x', r'⟩ := z
        rw [hp] at h
        cases h
        have := ih hp
        exact ⟨List.mem_cons_of_mem _ this.1, fun y hy => by
          rcases List.mem_cons.1 hy with rfl | hy
          · exact List.mem_cons_self
          · exact List.mem_cons_of_mem _ (this.2 y hy)⟩
omit hcm hkm hkp in
theorem canon_mem : ∀ {n : Nat} {done : List Nat} {l : List (Nat × Oper)} {x : Nat × Oper}, x ∈ canon n done l → x ∈ l
  | 0, _, _, _, h => by cases h
  | n + 1, done, l, x, h => by
    simp only [canon] at h
    split at h
    · rename_i y r he
      have := pick_mem _ he
      rcases List.mem_cons.1 h with rfl | h
      · exact this.1
      · exact this.2 x (canon_mem h)
    · split at h
      · rename_i y r he
        have := pick_mem _ he
        rcases List.mem_cons.1 h with rfl | h
        · exact this.1
        · exact this.2 x (canon_mem h)
      · cases h
omit hcm hkm hkp in
theorem pairs_spec {bf : List (List Nat)} : ∀ {π : List (Nat × Oper)}, pairsB C ops bf π = true → π.Pairwise (fun x y => x.1 ∈ bf.getD y.1 [] ∨ swapB C ops x.2 y.2 = true) ∧ (π.map (·.1)).Nodup
  | [], _ => ⟨.nil, .nil⟩
  | x :: r, h => by
    simp only [pairsB, Bool.and_eq_true, List.all_eq_true, Bool.or_eq_true, Bool.not_eq_true'] at h
    obtain ⟨h1, h2, h3⟩ := h
    have ih := pairs_spec h3
    refine ⟨.cons (fun y hy => (h1 y hy).imp memN_mem.1 fun h => h) ih.1, List.nodup_cons.2 ⟨fun hm => ?_, ih.2⟩⟩
    rw [memN_mem.2 hm] at h2
    cases h2
/-- A run in any order that the program allows. -/
theorem draw_sound (hdr : C.dr = true) {P : Program} {ops : Array Oper} {B : Base} {c0 rid l0 : Nat} {K0 : Nat → Prop} {s : XS S.A} {π : List (Nat × Oper)} {Φ : Exit → St → Prop} (hP : P = C.P) (hm : P.follows .mixedOrders = true) (hcall : CallOk C.P b call) (hK : ∀ f W, Ab.look C.K f = some W → ConOk C.P f W) (hpin : POk S B)
    (hK0 : ∀ n, K0 n → n < l0) (hl0 : l0 ≤ c0) (hc : s.c = c0 + ops.size) (hw : WF (Bd K0 l0 c0) F (s.over b)) (hok : drawnOk C ops.toList π = true) (hπ : ∀ x ∈ π, x ∈ numd 0 ops.toList)
    {ds : List Nat} {e0 : Nat → Option (AV S.A)} (hds : ∀ (i : Nat) o, ops[i]? = some o → ∀ x, o.dst = some x → x ∈ ds) (he0 : ∀ j, j ∉ ds → s.env j = e0 j)
    (h : runS C F.N call b ops.toList (fun i _ => c0 + i) (fun s => s) kp π s k)
    (hk : ∀ s' g a w, k s' → c0 ≤ s'.c → WF (Bd K0 l0 s'.c) F (s'.over b) → Rel B (den F (s'.over b)) g a w → lift B Φ .normal a w)
    (hp : ∀ p s' g a w v, kp p s' → (∀ j, j ∉ ds → s'.env j = e0 j) → c0 ≤ s'.c → WF (Bd K0 l0 s'.c) F (s'.over b) → inV (Bd K0 l0 s'.c) p → Rel B (den F (s'.over b)) g a w → Rep (denTT (s'.over b).T) g (denV p) v → lift B Φ (.panic [{ v, recovered := false }]) a w) :
    AW P B (.region rid ops true) Φ (den F (s.over b)) := by
  subst hP
  simp only [drawnOk, Bool.and_eq_true] at hok
  obtain ⟨⟨hpw, hall⟩, hbk⟩ := hok
  obtain ⟨hpw, hnd⟩ := pairs_spec hpw
  rw [List.all_eq_true] at hall hbk
  have hback : backB ops = true := by
    unfold backB
    rw [List.all_eq_true]
    intro i hi
    have hi := List.mem_range.1 hi
    rw [Array.getElem?_eq_getElem hi]
    have := hbk (i, ops[i]) (by have := mem_numd (l := ops.toList) (n := 0) (i := i) (x := ops[i]) (by simp [hi]); simpa using this)
    exact this
  let Qb : (Nat → Bool) → XS S.A → Nat → Prop := fun bs s' n => Bd K0 l0 c0 n ∨ (∃ i, n = c0 + i ∧ i < ops.size ∧ bs i = true) ∨ (c0 + ops.size ≤ n ∧ n < s'.c)
  have hQb : ∀ bs s', c0 + ops.size ≤ s'.c → ∀ n, Qb bs s' n → n < s'.c := by
    rintro bs s' hs n (hn | ⟨i, rfl, hi, _⟩ | hn)
    · have := hn.lt hK0 hl0; omega
    · omega
    · exact hn.2
  have hQd : ∀ bs s', c0 + ops.size ≤ s'.c → ∀ n, Qb bs s' n → Bd K0 l0 s'.c n := by
    rintro bs s' hs n (hn | ⟨i, rfl, hi, _⟩ | hn)
    · exact hn.up (by omega)
    · exact .inr ⟨by omega, by omega⟩
    · exact .inr ⟨by omega, hn.2⟩
  let R : (Nat → Bool) → St → Prop := fun bs σ => ∃ s' π', σ = den F (s'.over b) ∧ runS C F.N call b ops.toList (fun i _ => c0 + i) (fun s => s) kp π' s' k ∧ π'.Pairwise (fun x y => x.1 ∈ (befores ops.toList).getD y.1 [] ∨ swapB C ops.toList x.2 y.2 = true) ∧ (π'.map (·.1)).Nodup ∧
    (∀ x ∈ π', ops[x.1]? = some x.2 ∧ bs x.1 = false) ∧ (∀ i, i < ops.size → bs i = false → i ∈ π'.map (·.1)) ∧ c0 + ops.size ≤ s'.c ∧ WF (Qb bs s') F (s'.over b) ∧ ∀ j, j ∉ ds → s'.env j = e0 j
  refine aw_any_rel R hm hback ?_ ?_ ?_
  · intro bs hb hb2
    refine ⟨s, π, rfl, h, hpw, hnd, fun x hx => ?_, fun i hi _ => memN_mem.1 (hall i (List.mem_range.2 (by simpa using hi))), by omega, hw.mono fun n hn => .inl hn, he0⟩
    have := numd_mem (hπ x hx)
    have h2 : ops[x.1]? = some x.2 := by simpa using this.2
    exact ⟨h2, hb _ (Array.getElem?_eq_some_iff.1 h2).1⟩
  · rintro i o ho bs hcl hbi hdeps σ ⟨s', π', rfl, hrun, hpw, hnd, hmem, hcov, hsc, hwf, henv⟩ g a w hr K hKK
    have hi := (Array.getElem?_eq_some_iff.1 ho).1
    obtain ⟨⟨i', o'⟩, hm1, hm2⟩ := List.mem_map.1 (hcov i hi hbi)
    obtain rfl : i' = i := hm2
    obtain rfl : o = o' := Option.some.inj (ho.symm.trans (hmem _ hm1).1)
    obtain ⟨pre, post, rfl⟩ := List.append_of_mem hm1
    have hbf := befores_closed hcl ho hdeps
    have hpw' := List.pairwise_append.1 hpw
    have hnd' := hnd
    rw [List.map_append, List.map_cons] at hnd'
    have hnd2 := List.nodup_append.1 hnd'
    have hne : ∀ x ∈ pre, x.1 ≠ i' := fun x hx e => hnd2.2.2 _ (List.mem_map_of_mem hx) _ (by simp) e
    have hsw : ∀ x ∈ pre, swapB C ops.toList x.2 o = true := by
      intro x hx
      rcases hpw'.2.2 x hx (i', o) (by simp) with h1 | h1
      · have := hbf _ h1
        rw [(hmem x (by simp [hx])).2] at this
        cases this
      · exact h1
    have nq : ∀ j, j < ops.size → bs j = false → ¬ Qb bs s' (c0 + j) := by
      rintro j hj hbj (hn | ⟨i2, he, _, hb2⟩ | hn)
      · have := hn.lt hK0 hl0; omega
      · obtain rfl : j = i2 := by omega
        rw [hbj] at hb2; cases hb2
      · omega
    have hstep := front hcm hkm hkp hdr pre (Qb bs s') s' hsw hnd2.1 (fun x hx => nq _ (Array.getElem?_eq_some_iff.1 (hmem x (by simp [hx])).1).1 (hmem x (by simp [hx])).2) (nq i' hi hbi) hne hwf hrun
    refine step_sound hcall hK hpin (hQb bs s' hsc) (nq i' hi hbi) hwf (step_env hcm hkm (hds i' o ho) henv hstep) hr K _ ?_ ?_
    · rintro a' w' ⟨s1, g', ⟨k1, k1e⟩, k2, k3, k4⟩
      refine hKK _ g' a' w' ⟨s1, pre ++ post, rfl, k1, ?_, ?_, ?_, ?_, by omega, ?_, k1e⟩ k4
      · rw [List.pairwise_append]
        exact ⟨hpw'.1, (List.pairwise_cons.1 hpw'.2.1).2, fun x hx y hy => hpw'.2.2 x hx y (by simp [hy])⟩
      · rw [List.map_append, List.nodup_append]
        exact ⟨hnd2.1, (List.nodup_cons.1 hnd2.2.1).2, fun x hx y hy => hnd2.2.2 x hx y (by simp [hy])⟩
      · intro x hx
        have hx' : x ∈ pre ++ (i', o) :: post := by
          rcases List.mem_append.1 hx with h | h
          · simp [h]
          · simp [h]
        refine ⟨(hmem x hx').1, ?_⟩
        have : x.1 ≠ i' := by
          rcases List.mem_append.1 hx with h | h
          · exact hne x h
          · intro e
            exact (List.nodup_cons.1 hnd2.2.1).1 (List.mem_map.2 ⟨x, h, e⟩)
        rw [up_ne _ this]
        exact (hmem x hx').2
      · intro j hj hbj
        by_cases e : j = i'
        · subst e; rw [up_self] at hbj; cases hbj
        · rw [up_ne _ e] at hbj
          have := hcov j hj hbj
          simp only [List.map_append, List.map_cons, List.mem_append, List.mem_cons] at this ⊢
          rcases this with h | h | h
          · exact .inl h
          · exact (e h).elim
          · exact .inr h
      · refine k3.mono fun n hn => ?_
        rcases hn with (hn | rfl) | hn
        · rcases hn with hn | ⟨j, hj1, hj2, hj3⟩ | hn
          · exact .inl hn
          · refine .inr (.inl ⟨j, hj1, hj2, ?_⟩)
            by_cases e : j = i'
            · subst e; exact up_self _ _
            · rw [up_ne _ e]; exact hj3
          · exact .inr (.inr ⟨hn.1, by omega⟩)
        · exact .inr (.inl ⟨i', rfl, hi, up_self _ _⟩)
        · exact .inr (.inr ⟨by omega, hn.2⟩)
    · rintro e a' w' ⟨ch, rfl, p, s1, g', v, ⟨k1, k1e⟩, k2, k3, k4, k5, rfl, k6⟩
      have hle : ∀ n, Qb bs s' n ∨ s'.c ≤ n ∧ n < s1.c → Bd K0 l0 s1.c n := by
        rintro n (hn | hn)
        · exact (hQd bs s' hsc n hn).up (by omega)
        · exact .inr ⟨by omega, hn.2⟩
      exact hp p s1 g' a' w' v k1 k1e (by omega) (k3.mono hle) (inV_mono hle k4) k5 k6
  · rintro bs hb σ ⟨s', π', rfl, hrun, hpw, hnd, hmem, hcov, hsc, hwf, henv⟩ g a w hr
    have : π' = [] := by
      cases π' with
      | nil => rfl
      | cons x r =>
        have := (hmem x (by simp)).2
        rw [hb] at this
        cases this
    subst this
    exact hk s' g a w hrun (by omega) (hwf.mono (hQd bs s' hsc)) hr
omit hcm hkm hkp in
theorem stepT_iff {N : Nat} {id : Nat} {o : Oper} {s : XS S.A} {k : XS S.A → Prop} : stepT C N call b ops id o s k kp ↔ stepS C N call b ops id o s k kp := by
  unfold stepT
  cases hd : dstB N o.dst with
  | false => exact ⟨fun h => h.elim, fun h => by unfold stepS at h; rw [hd] at h; cases h.1⟩
  | true =>
    cases hg : o.guard with
    | none => exact ⟨fun h => by unfold stepS; rw [hd, hg]; exact ⟨rfl, h⟩, fun h => by unfold stepS at h; rw [hg] at h; exact h.2⟩
    | some jw => exact Iff.rfl
omit hcm hkm hkp in
theorem allA_mem {α : Type} {f : α → Prop} : ∀ {l : List α}, allA f l → ∀ x ∈ l, f x
  | [], _, _, h => by cases h
  | [x], h, y, hy => by obtain rfl := List.mem_singleton.1 hy; exact h
  | x :: y :: r, h, z, hz => by
    rcases List.mem_cons.1 hz with rfl | hz
    · exact h.1
    · exact allA_mem h.2 z hz
omit hcm hkm hkp in
theorem allA_imp {α : Type} {f g : α → Prop} (h : ∀ x, f x → g x) : ∀ {l : List α}, allA f l → allA g l
  | [], _ => trivial
  | [x], k => h x k
  | x :: y :: r, k => ⟨h x k.1, allA_imp h k.2⟩
omit hkp in
/-- A run in every order that the program allows. -/
theorem drawA_sound {P : Program} {ops : Array Oper} {B : Base} {c0 rid l0 n : Nat} {K0 : Nat → Prop} {s : XS S.A} {Φ : Exit → St → Prop} (hP : P = C.P) (hm : P.follows .mixedOrders = true) (hcall : CallOk C.P b call) (hK : ∀ f W, Ab.look C.K f = some W → ConOk C.P f W) (hpin : POk S B)
    (hK0 : ∀ n, K0 n → n < l0) (hl0 : l0 ≤ c0) (hc : s.c = c0 + ops.size) (hw : WF (Bd K0 l0 c0) F (s.over b)) (hbk : (numd 0 ops.toList).all (fun x => (depsN x.2).all fun j => Nat.blt j x.1) = true)
    {ds : List Nat} {e0 : Nat → Option (AV S.A)} (hds : ∀ (i : Nat) o, ops[i]? = some o → ∀ x, o.dst = some x → x ∈ ds) (he0 : ∀ j, j ∉ ds → s.env j = e0 j)
    (h : runA C F.N call b ops.toList c0 kp k n (numd 0 ops.toList) s)
    (hk : ∀ s' g a w, k s' → c0 ≤ s'.c → WF (Bd K0 l0 s'.c) F (s'.over b) → Rel B (den F (s'.over b)) g a w → lift B Φ .normal a w)
    (hp : ∀ p s' g a w v, kp p s' → (∀ j, j ∉ ds → s'.env j = e0 j) → c0 ≤ s'.c → WF (Bd K0 l0 s'.c) F (s'.over b) → inV (Bd K0 l0 s'.c) p → Rel B (den F (s'.over b)) g a w → Rep (denTT (s'.over b).T) g (denV p) v → lift B Φ (.panic [{ v, recovered := false }]) a w) :
    AW P B (.region rid ops true) Φ (den F (s.over b)) := by
  subst hP
  rw [List.all_eq_true] at hbk
  have hback : backB ops = true := by
    unfold backB
    rw [List.all_eq_true]
    intro i hi
    have hi := List.mem_range.1 hi
    rw [Array.getElem?_eq_getElem hi]
    have := hbk (i, ops[i]) (by have := mem_numd (l := ops.toList) (n := 0) (i := i) (x := ops[i]) (by simp [hi]); simpa using this)
    exact this
  let Qb : (Nat → Bool) → XS S.A → Nat → Prop := fun bs s' n => Bd K0 l0 c0 n ∨ (∃ i, n = c0 + i ∧ i < ops.size ∧ bs i = true) ∨ (c0 + ops.size ≤ n ∧ n < s'.c)
  have hQb : ∀ bs s', c0 + ops.size ≤ s'.c → ∀ n, Qb bs s' n → n < s'.c := by
    rintro bs s' hs n (hn | ⟨i, rfl, hi, _⟩ | hn)
    · have := hn.lt hK0 hl0; omega
    · omega
    · exact hn.2
  have hQd : ∀ bs s', c0 + ops.size ≤ s'.c → ∀ n, Qb bs s' n → Bd K0 l0 s'.c n := by
    rintro bs s' hs n (hn | ⟨i, rfl, hi, _⟩ | hn)
    · exact hn.up (by omega)
    · exact .inr ⟨by omega, by omega⟩
    · exact .inr ⟨by omega, hn.2⟩
  let R : (Nat → Bool) → St → Prop := fun bs σ => ∃ s' n rem, σ = den F (s'.over b) ∧ runA C F.N call b ops.toList c0 kp k n rem s' ∧
    (∀ x ∈ rem, ops[x.1]? = some x.2 ∧ bs x.1 = false) ∧ (∀ (i : Nat) o, ops[i]? = some o → bs i = false → (i, o) ∈ rem) ∧ c0 + ops.size ≤ s'.c ∧ WF (Qb bs s') F (s'.over b) ∧ ∀ j, j ∉ ds → s'.env j = e0 j
  refine aw_any_rel R hm hback ?_ ?_ ?_
  · intro bs hb hb2
    refine ⟨s, n, _, rfl, h, fun x hx => ?_, fun i o ho _ => ?_, by omega, hw.mono fun n hn => .inl hn, he0⟩
    · have := numd_mem hx
      have h2 : ops[x.1]? = some x.2 := by simpa using this.2
      exact ⟨h2, hb _ (Array.getElem?_eq_some_iff.1 h2).1⟩
    · have := mem_numd (l := ops.toList) (n := 0) (i := i) (x := o) (by simpa using ho)
      simpa using this
  · rintro i o ho bs hcl hbi hdeps σ ⟨s', n', rem, rfl, hrun, hmem, hcov, hsc, hwf, henv⟩ g a w hr K hKK
    have hi := (Array.getElem?_eq_some_iff.1 ho).1
    have hin := hcov i o ho hbi
    have hne : ∃ x r, rem = x :: r := by
      cases rem with
      | nil => cases hin
      | cons x r => exact ⟨x, r, rfl⟩
    have hrd : rdyA rem o = true := by
      unfold rdyA
      rw [List.all_eq_true]
      intro j hj
      have hb : bs j = true := hdeps j hj
      cases hm : memN j (rem.map (·.1)) with
      | false => rfl
      | true =>
        obtain ⟨x, hx1, hx2⟩ := List.mem_map.1 (memN_mem.1 hm)
        have := (hmem x hx1).2
        rw [hx2, hb] at this
        cases this
    obtain ⟨x0, r0, hrem⟩ := hne
    cases n' with
    | zero => subst hrem; exact (show False from hrun).elim
    | succ n' =>
    have hall : allA (fun x => stepS C F.N call b ops.toList (c0 + x.1) x.2 s' (fun s1 => runA C F.N call b ops.toList c0 kp k n' (delA x.1 rem) s1) kp) (rem.filter fun x => rdyA rem x.2) := by
      subst hrem; exact allA_imp (fun x h => stepT_iff.1 h) hrun
    have hstep := allA_mem hall (i, o) (List.mem_filter.2 ⟨hin, hrd⟩)
    have nq : ¬ Qb bs s' (c0 + i) := by
      rintro (hn | ⟨i2, he, _, hb2⟩ | hn)
      · have := hn.lt hK0 hl0; omega
      · obtain rfl : i = i2 := by omega
        rw [hbi] at hb2; cases hb2
      · omega
    refine step_sound hcall hK hpin (hQb bs s' hsc) nq hwf (step_env hcm hkm (hds i o ho) henv hstep) hr K _ ?_ ?_
    · rintro a' w' ⟨s1, g', ⟨k1, k1e⟩, k2, k3, k4⟩
      refine hKK _ g' a' w' ⟨s1, n', _, rfl, k1, fun x hx => ?_, fun j oj hoj hbj => ?_, by omega, ?_, k1e⟩ k4
      · obtain ⟨hx1, hx2⟩ := List.mem_filter.1 hx
        have hxi : x.1 ≠ i := fun e => by rw [e] at hx2; simp at hx2
        rw [up_ne _ hxi]
        exact hmem x hx1
      · by_cases e : j = i
        · subst e; rw [up_self] at hbj; cases hbj
        · rw [up_ne _ e] at hbj
          refine List.mem_filter.2 ⟨hcov j oj hoj hbj, ?_⟩
          show (!Nat.beq j i) = true
          rw [bne e]; rfl
      · refine k3.mono fun n hn => ?_
        rcases hn with (hn | rfl) | hn
        · rcases hn with hn | ⟨j, hj1, hj2, hj3⟩ | hn
          · exact .inl hn
          · refine .inr (.inl ⟨j, hj1, hj2, ?_⟩)
            by_cases e : j = i
            · subst e; exact up_self _ _
            · rw [up_ne _ e]; exact hj3
          · exact .inr (.inr ⟨hn.1, by omega⟩)
        · exact .inr (.inl ⟨i, rfl, hi, up_self _ _⟩)
        · exact .inr (.inr ⟨by omega, hn.2⟩)
    · rintro e a' w' ⟨ch, rfl, p, s1, g', v, ⟨k1, k1e⟩, k2, k3, k4, k5, rfl, k6⟩
      have hle : ∀ n, Qb bs s' n ∨ s'.c ≤ n ∧ n < s1.c → Bd K0 l0 s1.c n := by
        rintro n (hn | hn)
        · exact (hQd bs s' hsc n hn).up (by omega)
        · exact .inr ⟨by omega, hn.2⟩
      exact hp p s1 g' a' w' v k1 k1e (by omega) (k3.mono hle) (inV_mono hle k4) k5 k6
  · rintro bs hb σ ⟨s', n', rem, rfl, hrun, hmem, hcov, hsc, hwf, henv⟩ g a w hr
    have : rem = [] := by
      cases rem with
      | nil => rfl
      | cons x r =>
        have := (hmem x (by simp)).2
        rw [hb] at this
        cases this
    subst this
    exact hk s' g a w (by cases n' <;> exact hrun) (by omega) (hwf.mono (hQd bs s' hsc)) hr
omit hcm hkm hkp in
theorem nodup_key : ∀ {rem : List (Nat × Oper)}, (rem.map (·.1)).Nodup → ∀ {x y : Nat × Oper}, x ∈ rem → y ∈ rem → x.1 = y.1 → x = y
  | [], _, _, _, hx, _, _ => by cases hx
  | a :: l, h, x, y, hx, hy, e => by
    obtain ⟨h1, h2⟩ := List.nodup_cons.1 h
    rcases List.mem_cons.1 hx with ex | hx'
    · rcases List.mem_cons.1 hy with ey | hy'
      · rw [ex, ey]
      · exact absurd (show a.1 ∈ List.map (·.1) l from List.mem_map.2 ⟨y, hy', by rw [← e, ex]⟩) h1
    · rcases List.mem_cons.1 hy with ey | hy'
      · exact absurd (show a.1 ∈ List.map (·.1) l from List.mem_map.2 ⟨x, hx', by rw [e, ey]⟩) h1
      · exact nodup_key h2 hx' hy' e
omit hcm hkm hkp in
theorem numd_nodup {α : Type} : ∀ (l : List α) (n : Nat), ((numd n l).map (·.1)).Nodup
  | [], n => List.nodup_nil
  | x :: l, n => by
    show (n :: (numd (n + 1) l).map (·.1)).Nodup
    refine List.nodup_cons.2 ⟨fun h => ?_, numd_nodup l (n + 1)⟩
    obtain ⟨y, hy1, hy2⟩ := List.mem_map.1 h
    have := (numd_mem (i := y.1) (x := y.2) hy1).1
    omega
/-- What the program may do next, what may come first being free to come first. -/
def runE (C : Cfg S) (N : Nat) (call : CallT S) (b : XS S.A) (ops : List Oper) (c0 : Nat) (kp : AV S.A → XS S.A → Prop) (k : XS S.A → Prop) : Nat → List (Nat × Oper) → XS S.A → Prop
  | _, [], s => k s
  | 0, _ :: _, _ => False
  | n + 1, y :: r, s => (∃ x ∈ y :: r, rdyA (y :: r) x.2 = true ∧ (∃ Af, aftOk ops x.1 Af = true ∧ ∀ z ∈ y :: r, z.1 ≠ x.1 → z.1 ∈ Af ∨ swapB C ops x.2 z.2 = true) ∧ stepS C N call b ops (c0 + x.1) x.2 s (fun s1 => runE C N call b ops c0 kp k n (delA x.1 (y :: r)) s1) kp) ∨
      ∀ x ∈ y :: r, rdyA (y :: r) x.2 = true → stepS C N call b ops (c0 + x.1) x.2 s (fun s1 => runE C N call b ops c0 kp k n (delA x.1 (y :: r)) s1) kp
omit hcm hkm hkp in
theorem mem_delA {i : Nat} {rem : List (Nat × Oper)} {x : Nat × Oper} : x ∈ delA i rem ↔ x ∈ rem ∧ x.1 ≠ i := by
  unfold delA
  rw [List.mem_filter]
  refine ⟨fun h => ⟨h.1, fun e => by rw [e] at h; simp at h⟩, fun h => ⟨h.1, by rw [bne h.2]; rfl⟩⟩
omit hcm hkm hkp in
theorem delA_comm (i j : Nat) (rem : List (Nat × Oper)) : delA i (delA j rem) = delA j (delA i rem) := by
  unfold delA
  rw [List.filter_filter, List.filter_filter]
  congr 1
  funext x
  exact Bool.and_comm _ _
omit hcm hkm hkp in
theorem rdy_del {i : Nat} {rem : List (Nat × Oper)} {o : Oper} (h : rdyA rem o = true) : rdyA (delA i rem) o = true := by
  unfold rdyA at h ⊢
  rw [List.all_eq_true] at h ⊢
  intro j hj
  have := h j hj
  cases hm : memN j ((delA i rem).map (·.1)) with
  | false => rfl
  | true =>
    obtain ⟨x, hx1, hx2⟩ := List.mem_map.1 (memN_mem.1 hm)
    have h2 : memN j (rem.map (·.1)) = true := memN_mem.2 (List.mem_map.2 ⟨x, (mem_delA.1 hx1).1, hx2⟩)
    rw [h2] at this
    cases this
omit hcm hkm hkp in
theorem nodup_del {i : Nat} {rem : List (Nat × Oper)} (h : (rem.map (·.1)).Nodup) : ((delA i rem).map (·.1)).Nodup :=
  List.Nodup.sublist (List.Sublist.map _ List.filter_sublist) h
omit hcm hkm hkp in
theorem del_none {j : Nat} : ∀ {rem : List (Nat × Oper)}, j ∉ rem.map (·.1) → delA j rem = rem
  | [], _ => rfl
  | y :: r, h => by
    have h1 : y.1 ≠ j := fun e => h (by rw [← e]; exact List.mem_cons_self)
    have h2 : j ∉ r.map (·.1) := fun e => h (List.mem_cons_of_mem _ e)
    unfold delA
    rw [List.filter_cons, bne h1]
    exact congrArg (y :: ·) (del_none h2)
omit hcm hkm hkp in
theorem del_len : ∀ {rem : List (Nat × Oper)}, (rem.map (·.1)).Nodup → ∀ {x : Nat × Oper}, x ∈ rem → rem.length = (delA x.1 rem).length + 1
  | [], _, _, hx => by cases hx
  | y :: r, h, x, hx => by
    obtain ⟨h1, h2⟩ := List.nodup_cons.1 h
    by_cases e : y.1 = x.1
    · have : delA x.1 (y :: r) = delA x.1 r := by
        unfold delA
        rw [List.filter_cons, e, Nat.beq_refl]; rfl
      rw [this, ← e, del_none h1]; rfl
    · have hx' : x ∈ r := by
        rcases List.mem_cons.1 hx with rfl | hx
        · exact absurd rfl e
        · exact hx
      have : delA x.1 (y :: r) = y :: delA x.1 r := by
        unfold delA
        rw [List.filter_cons, bne e]; rfl
      rw [this, List.length_cons, List.length_cons, del_len h2 hx']
omit hcm hkm hkp in
theorem eag_spec {E : List (Nat × (List Nat × List Nat))} (h : eagOk C ops E = true) {i : Nat} {e : List Nat × List Nat} (hl : Ab.look E i = some e) {o : Oper} (ho : ops[i]? = some o) : aftOk ops i e.2 = true ∧ ∀ y ∈ numd 0 ops, y.1 ≠ i → memN y.1 e.1 = false → y.1 ∈ e.2 ∨ swapB C ops o y.2 = true := by
  unfold eagOk at h
  rw [List.all_eq_true] at h
  have h1 := h (i, e) (look_mem hl)
  simp only [ho] at h1
  rw [Bool.and_eq_true, List.all_eq_true] at h1
  refine ⟨h1.1, fun y hy hne hb => ?_⟩
  have h2 := h1.2 y hy
  rw [bne hne, hb, Bool.false_or, Bool.false_or, Bool.or_eq_true] at h2
  exact h2.imp (fun h => memN_mem.1 h) fun h => h
omit hkp in
theorem runH_E {c0 : Nat} {N : Nat} {E : List (Nat × (List Nat × List Nat))} (hE : eagOk C ops E = true) : ∀ (t : Sch) (fl : Bool) (rem : List (Nat × Oper)) (s : XS S.A), (∀ x ∈ rem, x ∈ numd 0 ops) → (rem.map (·.1)).Nodup → schOk E fl t rem = true → runH C N call b ops c0 kp k fl t s →
    (fl = false → runE C N call b ops c0 kp k rem.length rem s) ∧ (fl = true → ∀ x ∈ rem, schHas t x.1 = true → rdyA rem x.2 = true → stepS C N call b ops (c0 + x.1) x.2 s (fun s1 => runE C N call b ops c0 kp k (delA x.1 rem).length (delA x.1 rem) s1) kp)
  | .done, fl, rem, s, hm, hnd, hok, h => by
    refine ⟨fun e => ?_, fun e x hx hh => by cases hh⟩
    subst e
    cases rem with
    | nil => exact h
    | cons x r => cases hok
  | .one i t, true, rem, s, hm, hnd, hok, h => by cases hok
  | .one i t, false, rem, s, hm, hnd, hok, h => by
    refine ⟨fun _ => ?_, fun e => by cases e⟩
    simp only [schOk] at hok
    split at hok
    · rename_i Bf hl
      simp only [Bool.and_eq_true, List.any_eq_true, List.all_eq_true] at hok
      obtain ⟨⟨x, hx, hx1, hx2⟩, hB, hrest⟩ := hok
      have hxi := Nat.eq_of_beq_eq_true hx1
      obtain ⟨j, o⟩ := x
      have hxi : j = i := hxi
      subst hxi
      have ho : ops[j]? = some o := by simpa using (numd_mem (hm _ hx)).2
      simp only [runH, ho] at h
      have hlen := del_len hnd hx
      have h1 := step_mono hcm hkm (fun s1 h1 => (runH_E hE t false (delA j rem) s1 (fun z hz => hm z (mem_delA.1 hz).1) (nodup_del hnd) hrest h1).1 rfl) (fun _ _ h => h) (stepT_iff.1 h)
      cases rem with
      | nil => cases hx
      | cons y r =>
        refine .inl ⟨(j, o), hx, hx2, ⟨_, (eag_spec hE hl ho).1, fun z hz hne => ?_⟩, ?_⟩
        · refine (eag_spec hE hl ho).2 z (hm z hz) hne ?_
          have := hB z hz
          rw [bne hne, Bool.false_or] at this
          simpa using this
        · have e : (delA j (y :: r)).length = r.length := by have : (y :: r).length = (delA j (y :: r)).length + 1 := hlen; simpa using this.symm
          rw [e] at h1
          exact h1
    · cases hok
  | .alt i t r, fl, rem, s, hm, hnd, hok, h => by
    have hok' : (fl = false → (!rem.isEmpty && rem.all (fun x => !rdyA rem x.2 || (Nat.beq i x.1 || schHas r x.1))) = true) ∧ schOk E false t (delA i rem) = true ∧ schOk E true r rem = true := by
      cases fl
      · simp only [schOk, Bool.and_eq_true] at hok
        exact ⟨fun _ => by rw [Bool.and_eq_true]; exact hok.1, hok.2⟩
      · simp only [schOk, Bool.and_eq_true] at hok
        exact ⟨fun e => (by cases e), hok⟩
    obtain ⟨k1, k2, k3⟩ := hok'
    have h' : ∃ o, ops[i]? = some o ∧ stepT C N call b ops (c0 + i) o s (fun s1 => runH C N call b ops c0 kp k false t s1) kp ∧ runH C N call b ops c0 kp k true r s := by
      cases ho : ops[i]? with
      | none => cases fl <;> (simp only [runH, ho] at h)
      | some o =>
        refine ⟨o, rfl, ?_⟩
        cases fl <;> (simp only [runH, ho] at h; exact h)
    obtain ⟨o, ho, h1, h2⟩ := h'
    have first : ∀ x ∈ rem, x.1 = i → stepS C N call b ops (c0 + x.1) x.2 s (fun s1 => runE C N call b ops c0 kp k (delA x.1 rem).length (delA x.1 rem) s1) kp := by
      rintro ⟨j, ox⟩ hx e
      have e : j = i := e
      subst e
      have : ops[j]? = some ox := by simpa using (numd_mem (hm _ hx)).2
      rw [ho] at this
      cases this
      exact step_mono hcm hkm (fun s1 h1 => (runH_E hE t false (delA j rem) s1 (fun z hz => hm z (mem_delA.1 hz).1) (nodup_del hnd) k2 h1).1 rfl) (fun _ _ h => h) (stepT_iff.1 h1)
    have others := (runH_E hE r true rem s hm hnd k3 h2).2 rfl
    have all : ∀ x ∈ rem, (Nat.beq i x.1 || schHas r x.1) = true → rdyA rem x.2 = true → stepS C N call b ops (c0 + x.1) x.2 s (fun s1 => runE C N call b ops c0 kp k (delA x.1 rem).length (delA x.1 rem) s1) kp := by
      intro x hx hh hr
      by_cases e : i = x.1
      · exact first x hx e.symm
      · rw [bne e, Bool.false_or] at hh
        exact others x hx hh hr
    refine ⟨fun e => ?_, fun e x hx hh hr => all x hx hh hr⟩
    subst e
    have k1 := k1 rfl
    rw [Bool.and_eq_true, List.all_eq_true] at k1
    obtain ⟨k0, k1⟩ := k1
    cases rem with
    | nil => cases k0
    | cons y l =>
      refine .inr fun x hx hr => ?_
      have hlen := del_len hnd hx
      have e : (delA x.1 (y :: l)).length = l.length := by have : (y :: l).length = (delA x.1 (y :: l)).length + 1 := hlen; simpa using this.symm
      have := all x hx (by have := k1 x hx; rw [hr] at this; simpa using this) hr
      rw [e] at this
      exact this
/-- With an operation all that hang on it are left. -/
def UpC (ops : List Oper) (rem : List (Nat × Oper)) : Prop := ∀ (i : Nat) (o : Oper) (j : Nat), ops[i]? = some o → j ∈ depsN o → j ∈ rem.map (·.1) → (i, o) ∈ rem
omit hcm hkm hkp in
theorem UpC.del {rem : List (Nat × Oper)} (h : UpC ops rem) {i : Nat} {o : Oper} (hrd : rdyA rem o = true) (ho : ops[i]? = some o) : UpC ops (delA i rem) := by
  intro i' o' j hi' hj hjm
  obtain ⟨x, hx, hx1⟩ := List.mem_map.1 hjm
  have hjr : j ∈ rem.map (·.1) := List.mem_map.2 ⟨x, (mem_delA.1 hx).1, hx1⟩
  refine mem_delA.2 ⟨h i' o' j hi' hj hjr, fun e => ?_⟩
  have e : i' = i := e
  subst e
  rw [ho] at hi'
  cases hi'
  unfold rdyA at hrd
  rw [List.all_eq_true] at hrd
  have := hrd j hj
  rw [memN_mem.2 hjr] at this
  cases this
omit hcm hkm hkp in
theorem aft_in {rem : List (Nat × Oper)} (h : UpC ops rem) (hbk : ∀ (i : Nat) (o : Oper), ops[i]? = some o → ∀ j ∈ depsN o, j < i) {x : Nat} {Af : List Nat} (ha : aftOk ops x Af = true) (hx : x ∈ rem.map (·.1)) : ∀ (n a : Nat), a < n → a ∈ Af → ∃ o, ops[a]? = some o ∧ (a, o) ∈ rem ∧ rdyA rem o = false := by
  intro n
  induction n with
  | zero => intro a h; omega
  | succ n ih =>
    intro a han haA
    have h1 := List.all_eq_true.1 ha a haA
    split at h1
    · rename_i o ho
      rw [List.any_eq_true] at h1
      obtain ⟨j, hj, hj2⟩ := h1
      have hjm : j ∈ rem.map (·.1) := by
        rw [Bool.or_eq_true] at hj2
        rcases hj2 with e | e
        · rw [Nat.eq_of_beq_eq_true e]; exact hx
        · have hlt := hbk a o ho j hj
          obtain ⟨oj, _, h2, _⟩ := ih j (by omega) (memN_mem.1 e)
          exact List.mem_map.2 ⟨_, h2, rfl⟩
      refine ⟨o, ho, h a o j ho hj hjm, ?_⟩
      cases hr : rdyA rem o with
      | false => rfl
      | true =>
        unfold rdyA at hr
        rw [List.all_eq_true] at hr
        have := hr j hj
        rw [memN_mem.2 hjm] at this
        cases this
    · cases h1
/-- Whatever is ready may come next. -/
theorem any_next (hdr : C.dr = true) (hbk : ∀ (i : Nat) (o : Oper), ops[i]? = some o → ∀ j ∈ depsN o, j < i) {c0 : Nat} : ∀ (n : Nat) (rem : List (Nat × Oper)) (Q : Nat → Prop) (s : XS S.A), (∀ x ∈ rem, ops[x.1]? = some x.2) → UpC ops rem → (rem.map (·.1)).Nodup → (∀ x ∈ rem, ¬ Q (c0 + x.1)) → WF Q F (s.over b) → runE C F.N call b ops c0 kp k (n + 1) rem s →
    ∀ (i : Nat) (o : Oper), (i, o) ∈ rem → rdyA rem o = true → stepS C F.N call b ops (c0 + i) o s (fun s1 => runE C F.N call b ops c0 kp k n (delA i rem) s1) kp := by
  intro n
  induction n with
  | zero =>
    intro rem Q s hmm hup hnd hQ hw h i o hio hrd
    cases rem with
    | nil => cases hio
    | cons y r =>
    rcases h with ⟨x, hx, hxr, hxs, h⟩ | h
    · by_cases e : x = (i, o)
      · subst e; exact h
      · have hne : x.1 ≠ i := fun e' => by
          have := nodup_key hnd hx hio e'
          exact e this
        exfalso
        have hsw : swapB C ops x.2 o = true := by
          obtain ⟨Af, ha, hxs⟩ := hxs
          rcases hxs (i, o) hio (fun e' => hne e'.symm) with h | h
          · obtain ⟨o', h1, _, h2⟩ := aft_in hup hbk ha (List.mem_map.2 ⟨x, hx, rfl⟩) (i + 1) i (by omega) h
            have h1' := hmm (i, o) hio
            rw [h1] at h1'
            cases h1'
            rw [hrd] at h2
            cases h2
          · exact h
        obtain ⟨q1, q2, q3, q4, q5⟩ := swapB_spec hsw
        obtain ⟨e, _, _, e4, _⟩ := step_quiet hdr (Q := Q) q1 h (fun y => hw.ev y) (fun i ps hi => (hw.L i ps hi).2)
        have hm : (i, o) ∈ delA x.1 (y :: r) := mem_delA.2 ⟨hio, fun e' => hne e'.symm⟩
        cases hd : delA x.1 (y :: r) with
        | nil => rw [hd] at hm; cases hm
        | cons a l => rw [hd] at e4; exact e4.elim
    · exact h (i, o) hio hrd
  | succ n ih =>
    intro rem Q s hmm hup hnd hQ hw h i o hio hrd
    cases rem with
    | nil => cases hio
    | cons y r =>
    rcases h with ⟨x, hx, hxr, hxs, h⟩ | h
    · by_cases e : x = (i, o)
      · subst e; exact h
      · have hne : x.1 ≠ i := fun e' => e (nodup_key hnd hx hio e')
        have hsw : swapB C ops x.2 o = true := by
          obtain ⟨Af, ha, hxs⟩ := hxs
          rcases hxs (i, o) hio (fun e' => hne e'.symm) with h | h
          · obtain ⟨o', h1, _, h2⟩ := aft_in hup hbk ha (List.mem_map.2 ⟨x, hx, rfl⟩) (i + 1) i (by omega) h
            have h1' := hmm (i, o) hio
            rw [h1] at h1'
            cases h1'
            rw [hrd] at h2
            cases h2
          · exact h
        obtain ⟨q1, q2, q3, q4, q5⟩ := swapB_spec hsw
        obtain ⟨e, ⟨e1, e2, e3⟩, _, e4, e5, e6, e7⟩ := step_quiet hdr (Q := Q) q1 h (fun y => hw.ev y) (fun i ps hi => (hw.L i ps hi).2)
        have hw' := wf_app hw e2 e5 e6
        have hm : (i, o) ∈ delA x.1 (y :: r) := mem_delA.2 ⟨hio, fun e' => hne e'.symm⟩
        have h1 := ih (delA x.1 (y :: r)) (fun m => Q m ∨ m = c0 + x.1) (e.app s) (fun z hz => hmm z (mem_delA.1 hz).1) (hup.del hxr (hmm x hx)) (nodup_del hnd) (fun z hz => by
          obtain ⟨hz1, hz2⟩ := mem_delA.1 hz
          rintro (hq | hq)
          · exact hQ z hz1 hq
          · omega) hw' e4 i o hm (rdy_del hrd)
        have hd := q2 e.d e1
        have h2 := step_comm hcm hkm (Q := Q) hdr hkp (fun y => hw.ev y) (fun i ps hi => (hw.L i ps hi).1) e2 (hQ x hx) (hQ (i, o) hio) (by show c0 + i ≠ c0 + x.1; omega) hd.2 hd.1 (fun hi => e7 (q4 hi)) h1
        refine step_mono hcm hkm (fun s1 ⟨k1, k2⟩ => ?_) (fun p s h => h) h2
        have hxm : x ∈ delA i (y :: r) := mem_delA.2 ⟨hx, hne⟩
        have hs : stepS C F.N call b ops (c0 + x.1) x.2 s1 (fun s1 => runE C F.N call b ops c0 kp k n (delA x.1 (delA i (y :: r))) s1) kp := by
          rw [delA_comm]
          exact e3 s1 ⟨fun y hy => k2.get y fun hd' => q3 y hd' hy, fun hl => k2.L (q5 hl)⟩ _ _ k1
        have hrx := rdy_del (i := i) hxr
        obtain ⟨Af, haf, hxs⟩ := hxs
        have hsx : ∀ z ∈ delA i (y :: r), z.1 ≠ x.1 → z.1 ∈ Af ∨ swapB C ops x.2 z.2 = true := fun z hz => hxs z (mem_delA.1 hz).1
        generalize delA i (y :: r) = l at hxm hs hrx hsx
        cases l with
        | nil => cases hxm
        | cons a l => exact .inl ⟨x, hxm, hrx, ⟨Af, haf, hsx⟩, hs⟩
    · exact h (i, o) hio hrd
/-- A run in every order that differs. -/
theorem drawH_sound (hdr : C.dr = true) {P : Program} {ops : Array Oper} {B : Base} {c0 rid l0 : Nat} {K0 : Nat → Prop} {s : XS S.A} {Φ : Exit → St → Prop} (hP : P = C.P) (hm : P.follows .mixedOrders = true) (hcall : CallOk C.P b call) (hK : ∀ f W, Ab.look C.K f = some W → ConOk C.P f W) (hpin : POk S B)
    (hK0 : ∀ n, K0 n → n < l0) (hl0 : l0 ≤ c0) (hc : s.c = c0 + ops.size) (hw : WF (Bd K0 l0 c0) F (s.over b)) (hbk : (numd 0 ops.toList).all (fun x => (depsN x.2).all fun j => Nat.blt j x.1) = true)
    {ds : List Nat} {e0 : Nat → Option (AV S.A)} (hds : ∀ (i : Nat) o, ops[i]? = some o → ∀ x, o.dst = some x → x ∈ ds) (he0 : ∀ j, j ∉ ds → s.env j = e0 j)
    {E : List (Nat × (List Nat × List Nat))} {t : Sch} (hE : eagOk C ops.toList E = true) (hS : schOk E false t (numd 0 ops.toList) = true) (h : runH C F.N call b ops.toList c0 kp k false t s)
    (hk : ∀ s' g a w, k s' → c0 ≤ s'.c → WF (Bd K0 l0 s'.c) F (s'.over b) → Rel B (den F (s'.over b)) g a w → lift B Φ .normal a w)
    (hp : ∀ p s' g a w v, kp p s' → (∀ j, j ∉ ds → s'.env j = e0 j) → c0 ≤ s'.c → WF (Bd K0 l0 s'.c) F (s'.over b) → inV (Bd K0 l0 s'.c) p → Rel B (den F (s'.over b)) g a w → Rep (denTT (s'.over b).T) g (denV p) v → lift B Φ (.panic [{ v, recovered := false }]) a w) :
    AW P B (.region rid ops true) Φ (den F (s.over b)) := by
  subst hP
  rw [List.all_eq_true] at hbk
  have hback : backB ops = true := by
    unfold backB
    rw [List.all_eq_true]
    intro i hi
    have hi := List.mem_range.1 hi
    rw [Array.getElem?_eq_getElem hi]
    have := hbk (i, ops[i]) (by have := mem_numd (l := ops.toList) (n := 0) (i := i) (x := ops[i]) (by simp [hi]); simpa using this)
    exact this
  have hbk' : ∀ (i : Nat) (o : Oper), ops.toList[i]? = some o → ∀ j ∈ depsN o, j < i := by
    intro i o ho j hj
    have := hbk (i, o) (by have := mem_numd (l := ops.toList) (n := 0) (i := i) (x := o) ho; simpa using this)
    rw [List.all_eq_true] at this
    exact blt (this j hj)
  let Qb : (Nat → Bool) → XS S.A → Nat → Prop := fun bs s' n => Bd K0 l0 c0 n ∨ (∃ i, n = c0 + i ∧ i < ops.size ∧ bs i = true) ∨ (c0 + ops.size ≤ n ∧ n < s'.c)
  have hQb : ∀ bs s', c0 + ops.size ≤ s'.c → ∀ n, Qb bs s' n → n < s'.c := by
    rintro bs s' hs n (hn | ⟨i, rfl, hi, _⟩ | hn)
    · have := hn.lt hK0 hl0; omega
    · omega
    · exact hn.2
  have hQd : ∀ bs s', c0 + ops.size ≤ s'.c → ∀ n, Qb bs s' n → Bd K0 l0 s'.c n := by
    rintro bs s' hs n (hn | ⟨i, rfl, hi, _⟩ | hn)
    · exact hn.up (by omega)
    · exact .inr ⟨by omega, by omega⟩
    · exact .inr ⟨by omega, hn.2⟩
  let R : (Nat → Bool) → St → Prop := fun bs σ => ∃ s' n rem, σ = den F (s'.over b) ∧ runE C F.N call b ops.toList c0 kp k n rem s' ∧ (rem.map (·.1)).Nodup ∧
    (∀ x ∈ rem, ops[x.1]? = some x.2 ∧ bs x.1 = false) ∧ (∀ (i : Nat) o, ops[i]? = some o → bs i = false → (i, o) ∈ rem) ∧ c0 + ops.size ≤ s'.c ∧ WF (Qb bs s') F (s'.over b) ∧ ∀ j, j ∉ ds → s'.env j = e0 j
  refine aw_any_rel R hm hback ?_ ?_ ?_
  · intro bs hb hb2
    refine ⟨s, _, _, rfl, (runH_E hcm hkm hE t false _ s (fun x hx => hx) (numd_nodup _ _) hS h).1 rfl, numd_nodup _ _, fun x hx => ?_, fun i o ho _ => ?_, by omega, hw.mono fun n hn => .inl hn, he0⟩
    · have := numd_mem hx
      have h2 : ops[x.1]? = some x.2 := by simpa using this.2
      exact ⟨h2, hb _ (Array.getElem?_eq_some_iff.1 h2).1⟩
    · have := mem_numd (l := ops.toList) (n := 0) (i := i) (x := o) (by simpa using ho)
      simpa using this
  · rintro i o ho bs hcl hbi hdeps σ ⟨s', n', rem, rfl, hrun, hnd, hmem, hcov, hsc, hwf, henv⟩ g a w hr K hKK
    have hi := (Array.getElem?_eq_some_iff.1 ho).1
    have hin := hcov i o ho hbi
    have hne : ∃ x r, rem = x :: r := by
      cases rem with
      | nil => cases hin
      | cons x r => exact ⟨x, r, rfl⟩
    have hrd : rdyA rem o = true := by
      unfold rdyA
      rw [List.all_eq_true]
      intro j hj
      have hb : bs j = true := hdeps j hj
      cases hm : memN j (rem.map (·.1)) with
      | false => rfl
      | true =>
        obtain ⟨x, hx1, hx2⟩ := List.mem_map.1 (memN_mem.1 hm)
        have := (hmem x hx1).2
        rw [hx2, hb] at this
        cases this
    obtain ⟨x0, r0, hrem⟩ := hne
    cases n' with
    | zero => subst hrem; exact (show False from hrun).elim
    | succ n' =>
    have nq : ¬ Qb bs s' (c0 + i) := by
      rintro (hn | ⟨i2, he, _, hb2⟩ | hn)
      · have := hn.lt hK0 hl0; omega
      · obtain rfl : i = i2 := by omega
        rw [hbi] at hb2; cases hb2
      · omega
    have nq2 : ∀ x ∈ rem, ¬ Qb bs s' (c0 + x.1) := by
      intro x hx
      obtain ⟨hx1, hx2⟩ := hmem x hx
      have hxi := (Array.getElem?_eq_some_iff.1 hx1).1
      rintro (hn | ⟨i2, he, _, hb2⟩ | hn)
      · have := hn.lt hK0 hl0; omega
      · have he : x.1 = i2 := by omega
        rw [he, hb2] at hx2; cases hx2
      · omega
    have hup : UpC ops.toList rem := by
      intro i' o' j hi' hj hjm
      obtain ⟨x, hx, hx1⟩ := List.mem_map.1 hjm
      have ho' : ops[i']? = some o' := by simpa using hi'
      refine hcov i' o' ho' ?_
      cases hb : bs i' with
      | false => rfl
      | true =>
        have := hcl i' _ ho' hb j hj
        rw [← hx1, (hmem x hx).2] at this
        cases this
    have hstep := any_next hcm hkm hkp hdr hbk' n' rem _ s' (fun x hx => by simpa using (hmem x hx).1) hup hnd nq2 hwf hrun i o hin hrd
    refine step_sound hcall hK hpin (hQb bs s' hsc) nq hwf (step_env hcm hkm (hds i o ho) henv hstep) hr K _ ?_ ?_
    · rintro a' w' ⟨s1, g', ⟨k1, k1e⟩, k2, k3, k4⟩
      refine hKK _ g' a' w' ⟨s1, n', _, rfl, k1, nodup_del hnd, fun x hx => ?_, fun j oj hoj hbj => ?_, by omega, ?_, k1e⟩ k4
      · obtain ⟨hx1, hx2⟩ := List.mem_filter.1 hx
        have hxi : x.1 ≠ i := fun e => by rw [e] at hx2; simp at hx2
        rw [up_ne _ hxi]
        exact hmem x hx1
      · by_cases e : j = i
        · subst e; rw [up_self] at hbj; cases hbj
        · rw [up_ne _ e] at hbj
          refine List.mem_filter.2 ⟨hcov j oj hoj hbj, ?_⟩
          show (!Nat.beq j i) = true
          rw [bne e]; rfl
      · refine k3.mono fun n hn => ?_
        rcases hn with (hn | rfl) | hn
        · rcases hn with hn | ⟨j, hj1, hj2, hj3⟩ | hn
          · exact .inl hn
          · refine .inr (.inl ⟨j, hj1, hj2, ?_⟩)
            by_cases e : j = i
            · subst e; exact up_self _ _
            · rw [up_ne _ e]; exact hj3
          · exact .inr (.inr ⟨hn.1, by omega⟩)
        · exact .inr (.inl ⟨i, rfl, hi, up_self _ _⟩)
        · exact .inr (.inr ⟨by omega, hn.2⟩)
    · rintro e a' w' ⟨ch, rfl, p, s1, g', v, ⟨k1, k1e⟩, k2, k3, k4, k5, rfl, k6⟩
      have hle : ∀ n, Qb bs s' n ∨ s'.c ≤ n ∧ n < s1.c → Bd K0 l0 s1.c n := by
        rintro n (hn | hn)
        · exact (hQd bs s' hsc n hn).up (by omega)
        · exact .inr ⟨by omega, hn.2⟩
      exact hp p s1 g' a' w' v k1 k1e (by omega) (k3.mono hle) (inV_mono hle k4) k5 k6
  · rintro bs hb σ ⟨s', n', rem, rfl, hrun, hnd, hmem, hcov, hsc, hwf, henv⟩ g a w hr
    have : rem = [] := by
      cases rem with
      | nil => rfl
      | cons x r =>
        have := (hmem x (by simp)).2
        rw [hb] at this
        cases this
    subst this
    exact hk s' g a w (by cases n' <;> exact hrun) (by omega) (hwf.mono (hQd bs s' hsc)) hr
omit hkp in
theorem runA_mono {ops : List Oper} {c0 : Nat} {k k' : XS S.A → Prop} {kp' : AV S.A → XS S.A → Prop} {N : Nat} (hk : ∀ s, k s → k' s) (hp : ∀ p s, kp p s → kp' p s) : ∀ (n : Nat) (rem : List (Nat × Oper)) (s : XS S.A), runA C N call b ops c0 kp k n rem s → runA C N call b ops c0 kp' k' n rem s
  | 0, [], s, h => hk s h
  | 0, _ :: _, s, h => h
  | n + 1, [], s, h => hk s h
  | n + 1, x :: r, s, h => allA_imp (fun y h => stepT_iff.2 (step_mono hcm hkm (fun s1 h1 => runA_mono hk hp n _ s1 h1) hp (stepT_iff.1 h))) h
omit hkp in
theorem runH_mono {ops : List Oper} {c0 : Nat} {k k' : XS S.A → Prop} {kp' : AV S.A → XS S.A → Prop} {N : Nat} (hk : ∀ s, k s → k' s) (hp : ∀ p s, kp p s → kp' p s) : ∀ (t : Sch) (fl : Bool) (s : XS S.A), runH C N call b ops c0 kp k fl t s → runH C N call b ops c0 kp' k' fl t s
  | .done, false, s, h => hk s h
  | .done, true, s, h => trivial
  | .one i t, fl, s, h => by
    cases fl <;>
    · simp only [runH] at h ⊢
      split at h
      · exact stepT_iff.2 (step_mono hcm hkm (fun s1 h1 => runH_mono hk hp t false s1 h1) hp (stepT_iff.1 h))
      · exact h
  | .alt i t r, fl, s, h => by
    have f : ∀ o, stepT C N call b ops (c0 + i) o s (fun s1 => runH C N call b ops c0 kp k false t s1) kp → stepT C N call b ops (c0 + i) o s (fun s1 => runH C N call b ops c0 kp' k' false t s1) kp' := fun o h => stepT_iff.2 (step_mono hcm hkm (fun s1 h1 => runH_mono hk hp t false s1 h1) hp (stepT_iff.1 h))
    have g : runH C N call b ops c0 kp k true r s → runH C N call b ops c0 kp' k' true r s := runH_mono hk hp r true s
    cases ho : ops[i]? with
    | none => cases fl <;> (simp only [runH, ho] at h)
    | some o =>
      cases fl <;> (simp only [runH, ho] at h ⊢; exact ⟨f o h.1, g h.2⟩)
end front
end Go.Rx
/-! States that say less. -/
namespace Go.Rx
open Go.Ab Go.RowKit
set_option linter.unusedVariables false
set_option linter.unusedSimpArgs false
section weak
variable {S : Sys}
section w1
variable (Q : Nat → Prop) (fr : Nat → Bool) (U : Nat → Option (Nat × Nat))
inductive W1 : AV S.A → AV S.A → Prop
  | any (p : AV S.A) : W1 p .any
  | same (p : AV S.A) (h : in1 Q p) : W1 p p
  | cl (p q : AV S.A) (h : Wk ((den1 p).strip1) (den1 q)) (hc : (den1 q).clean1 = true) : W1 p q
  | nil (id t : Nat) (hf : fr id = true) (hU : ∃ sz, U id = some (sz, 0)) : W1 .nil (.own id t [])
  | nilp (id t : Nat) (hf : fr id = true) (hU : ∃ sz, U id = some (sz, 0)) : W1 .nil (.prv id t 0)
inductive W1L : List (AV S.A) → List (AV S.A) → Prop
  | nil : W1L [] []
  | cons {p q : AV S.A} {ps qs : List (AV S.A)} (h : W1 Q fr U p q) (hs : W1L ps qs) : W1L (p :: ps) (q :: qs)
inductive Wv : AV S.A → AV S.A → Prop
  | one {p q : AV S.A} (h : W1 Q fr U p q) (ho : denV q = den1 q) : Wv p q
  | agg {ps qs : List (AV S.A)} (h : W1L Q fr U ps qs) : Wv (.agg ps) (.agg qs)
  | same (p : AV S.A) (h : inV Q p) : Wv p p
end w1
variable {Q : Nat → Prop} {fr : Nat → Bool} {U T : Nat → Option (Nat × Nat)} {g : Gh}
def unτ (fr : Nat → Bool) (g : Gh) : Gh := { g with τ := fun k => cond (fr k) none (g.τ k) }
structure TOk (Q : Nat → Prop) (fr : Nat → Bool) (T U : Nat → Option (Nat × Nat)) : Prop where
  off : ∀ n, fr n = true → ¬ Q n
  T : ∀ q, Q q → U q = T q
  new : ∀ q x, U q = some x → Q q ∨ (fr q = true ∧ x.2 = 0)
theorem TOk.not (h : TOk Q fr T U) {n : Nat} (hn : Q n) : fr n = false := by
  cases hq : fr n with
  | false => rfl
  | true => exact absurd hn (h.off n hq)
theorem same1 (hT : TOk Q fr T U) {p : AV S.A} (h : in1 Q p) {v : Value} (hr : Rep1 T g (den1 p) v) : Rep1 U (unτ fr g) (den1 p) v := by
  cases p with
  | own k t l =>
    obtain ⟨h1, sz, m, h2, h3, h4⟩ := hr
    have hk : Q k := h
    refine ⟨h1, sz, m, by rw [hT.T k hk]; exact h2, h3, fun e => ?_⟩
    have := h4 e
    show (∃ b c, cond (fr k) none (g.τ k) = some (b, c) ∧ _) ∨ (cond (fr k) none (g.τ k) = none ∧ _)
    rw [hT.not hk]
    exact this
  | prv k t n =>
    obtain ⟨h1, sz, m, h2, h3, h4⟩ := hr
    have hk : Q k := h
    refine ⟨h1, sz, m, by rw [hT.T k hk]; exact h2, h3, fun e => ?_⟩
    have := h4 e
    show (∃ b c, cond (fr k) none (g.τ k) = some (b, c) ∧ _) ∨ (cond (fr k) none (g.τ k) = none ∧ _)
    rw [hT.not hk]
    exact this
  | tel k t n i =>
    obtain ⟨sz, m, h2, h3, h4⟩ := hr
    have hk : Q k := h
    refine ⟨sz, m, by rw [hT.T k hk]; exact h2, h3, fun e => ?_⟩
    have := h4 e
    show ∃ b c, cond (fr k) none (g.τ k) = some (b, c) ∧ _
    rw [hT.not hk]
    exact this
  | _ => exact hr
theorem rep1_w (hT : TOk Q fr T U) {p q : AV S.A} (h : W1 Q fr U p q) {v : Value} (hr : Rep1 T g (den1 p) v) : Rep1 U (unτ fr g) (den1 q) v := by
  cases h with
  | any => trivial
  | same _ h => exact same1 hT h hr
  | cl _ _ h hc => exact rep1_clean (g := unτ fr g) (imm := g.imm) (Imm.le_refl _) hc (wk_rep1 h (rep1_strip (Imm.le_refl _) _ _ hr))
  | nil id t hf hU =>
    obtain rfl : v = .slice none 0 0 := hr
    obtain ⟨sz, hU⟩ := hU
    exact ⟨sliceH_nil (S.E t) g.imm, sz, 0, hU, Nat.le_refl _, fun _ => .inr ⟨by show cond (fr id) none _ = none; rw [hf]; rfl, rfl, rfl⟩⟩
  | nilp id t hf hU =>
    obtain rfl : v = .slice none 0 0 := hr
    obtain ⟨sz, hU⟩ := hU
    exact ⟨⟨none, 0, rfl, Nat.le_refl _, by decide, fun _ => rfl⟩, sz, 0, hU, Nat.le_refl _, fun _ => .inr ⟨by show cond (fr id) none _ = none; rw [hf]; rfl, rfl, rfl⟩⟩
theorem repL_w (hT : TOk Q fr T U) {ps qs : List (AV S.A)} (h : W1L Q fr U ps qs) : ∀ {vs : List Value}, RepL T g (ps.map den1) vs → RepL U (unτ fr g) (qs.map den1) vs := by
  induction h with
  | nil => exact fun h => h
  | cons h _ ih => rintro vs ⟨v, vs', e, h1, h2, h3⟩; exact ⟨v, vs', e, rep1_w hT h h1, h2, ih h3⟩
theorem w1L_refl {ps : List (AV S.A)} (h : ∀ p ∈ ps, in1 Q p) : W1L Q fr U ps ps := by
  induction ps with
  | nil => exact .nil
  | cons p ps ih => exact .cons (.same p (h p (by simp))) (ih fun q hq => h q (by simp [hq]))
theorem rep_den1 {p : AV S.A} {v : Value} (h : Rep T g (denV p) v) : Rep1 T g (den1 p) v := by
  cases p <;> first | exact h | trivial
theorem rep_of1' {p : AV S.A} {v : Value} (h : Rep1 T g (den1 p) v) : Rep T g (den1 p) v := by
  cases p <;> exact h
theorem repE_same (hT : TOk Q fr T U) {p : AV S.A} (h : in2 Q p) {v : Value} (hr : RepE T g (den2 p) v) : RepE U (unτ fr g) (den2 p) v := by
  cases p with
  | agg cs =>
    obtain ⟨vs, e, hl⟩ := hr
    exact ⟨vs, e, repL_w hT (w1L_refl h) hl⟩
  | own k t l => exact same1 (S := S) (p := .own k t l) hT h hr
  | prv k t l => exact same1 (S := S) (p := .prv k t l) hT h hr
  | tel k t l i => exact same1 (S := S) (p := .tel k t l i) hT h hr
  | _ => exact hr
theorem repT_same (hT : TOk Q fr T U) : ∀ {ps : List (AV S.A)} {vs : List Value}, (∀ p ∈ ps, in2 Q p) → RepT T g (ps.map den2) vs → RepT U (unτ fr g) (ps.map den2) vs
  | [], vs, _, h => h
  | p :: ps, vs, hq, ⟨v, vs', e, h1, h2⟩ => ⟨v, vs', e, repE_same hT (hq p (by simp)) h1, repT_same hT (fun q h => hq q (by simp [h])) h2⟩
theorem rep_same (hT : TOk Q fr T U) {p : AV S.A} (h : inV Q p) {v : Value} (hr : Rep T g (denV p) v) : Rep U (unτ fr g) (denV p) v := by
  cases p with
  | tup ps =>
    obtain ⟨vs, e, hl⟩ := hr
    exact ⟨vs, e, repT_same hT h hl⟩
  | agg cs => exact repE_same (p := .agg cs) hT h hr
  | own k t l => exact same1 (S := S) (p := .own k t l) hT h hr
  | prv k t l => exact same1 (S := S) (p := .prv k t l) hT h hr
  | tel k t l i => exact same1 (S := S) (p := .tel k t l i) hT h hr
  | _ => exact hr
theorem rep_w (hT : TOk Q fr T U) {p q : AV S.A} (h : Wv Q fr U p q) {v : Value} (hr : Rep T g (denV p) v) : Rep U (unτ fr g) (denV q) v := by
  cases h with
  | one h ho => rw [ho]; exact rep_of1' (rep1_w hT h (rep_den1 hr))
  | agg h => obtain ⟨vs, e, hl⟩ := hr; exact ⟨vs, e, repL_w hT h hl⟩
  | same _ h => exact rep_same hT h hr
/-- Boxes that say less. -/
def WB (Q : Nat → Prop) (fr : Nat → Bool) (U : Nat → Option (Nat × Nat)) (t u : Bx S.A) : Prop := W1L Q fr U t.cs u.cs ∧ u.tl = t.tl
theorem w1L_len {ps qs : List (AV S.A)} (h : W1L Q fr U ps qs) : ps.length = qs.length := by
  induction h with
  | nil => rfl
  | cons _ _ ih => simp [ih]
theorem repL_cleanTo {T' : Nat → Option (Nat × Nat)} {g' : Gh} (hi : g'.imm = g.imm) : ∀ {ps : List PV} {vs : List Value}, (∀ p ∈ ps, p.clean1 = true) → RepL T g ps vs → RepL T' g' ps vs
  | [], vs, _, h => h
  | p :: ps, vs, hc, ⟨v, vs', e, h1, h2, h3⟩ => by
    refine ⟨v, vs', e, ?_, h2, repL_cleanTo hi (fun q hq => hc q (by simp [hq])) h3⟩
    have := hc p (by simp)
    cases p with
    | sem S => show S.holds g'.imm v; rw [hi]; exact h1
    | any => trivial
    | sc u => exact h1
    | agg cs => exact h1.elim
    | tup vs => exact h1.elim
    | loc s o => cases this
    | clo f ls => cases this
    | arr s o n c => cases this
    | own k n S => cases this
    | ta k n o => cases this
theorem denT_clean (t : Tl S.A) : ∀ p ∈ denT t, p.clean1 = true := by
  intro p hp
  rcases List.mem_append.1 hp with hp | hp
  · obtain ⟨x, _, hx⟩ := List.mem_flatMap.1 hp
    exact List.all_eq_true.1 (pv_clean t.t x) p hx
  · rw [(List.mem_replicate.1 hp).2]; rfl
theorem repB_w (hT : TOk Q fr T U) {t u : Bx S.A} (h : WB Q fr U t u) {vs : List Value} (hr : RepL T g (denB t) vs) : RepL U (unτ fr g) (denB u) vs := by
  obtain ⟨h1, h2⟩ := h
  unfold denB at hr ⊢
  rw [h2]
  cases htl : t.tl with
  | none => rw [htl] at hr; exact repL_w hT h1 hr
  | some tl =>
    rw [htl] at hr
    simp only at hr ⊢
    have a := repL_take t.cs.length hr
    have b := repL_drop t.cs.length hr
    have hl : t.cs.length = (t.cs.map (den1 (S := S))).length := by rw [List.length_map]
    rw [hl, List.take_left] at a
    rw [hl, List.drop_left] at b
    have := repL_append (repL_w hT h1 a) (repL_cleanTo (g := g) (g' := unτ fr g) (T' := U) rfl (denT_clean tl) b)
    rw [List.take_append_drop] at this
    exact this
theorem rel_weak {B : Base} {F : Fr S} {t u : XS S.A} {a : Act} {w : World} (hT : TOk Q fr (denTT t.T) (denTT u.T)) (hM1 : ∀ q, Q q → denM u.T q = denM t.T q) (hM2 : ∀ q ps, denM u.T q = some ps → Q q ∨ (fr q = true ∧ ps = [])) (hext : ∀ k, inV Q (F.ext k)) (henv : ∀ k, Nat.blt k F.N = true → Wv Q fr (denTT u.T) (t.get k) (u.get k))
    (hL : ∀ i us, u.L i = some us → ∃ ts, t.L i = some ts ∧ WB Q fr (denTT u.T) ts us) (hr : Rel B (den F t) g a w) : Rel B (den F u) (unτ fr g) a w := by
  have live : ∀ s us, (den F u).L s = some us → ∃ (ts us' : Bx S.A), (den F t).L s = some (denB ts) ∧ us = denB us' ∧ WB Q fr (denTT u.T) ts us' := by
    intro s us h
    have h : (u.L s).map denB = some us := h
    cases hl : u.L s with
    | none => rw [hl] at h; cases h
    | some us' =>
      rw [hl] at h
      obtain ⟨ts, h1, h2⟩ := hL s us' hl
      exact ⟨ts, us', by show (t.L s).map _ = _; rw [h1]; rfl, by simpa using h.symm, h2⟩
  have Tx : ∀ q x b c, (den F u).T q = some x → (unτ fr g).τ q = some (b, c) → (den F t).T q = some x ∧ g.τ q = some (b, c) := by
    intro q x b c h1 h2
    have h2 : cond (fr q) none (g.τ q) = some (b, c) := h2
    cases hf : fr q with
    | true => rw [hf] at h2; cases h2
    | false =>
      rw [hf] at h2
      rcases hT.new q x h1 with h3 | ⟨h3, _⟩
      · exact ⟨by show denTT t.T q = some x; rw [← hT.T q h3]; exact h1, h2⟩
      · rw [hf] at h3; cases h3
  refine { hr with env := fun k => ?_, box := ?_, apart := ?_, tip := ?_, tips := ?_, boxtip := ?_, prv := ?_ }
  · have h1 := hr.env k
    show Rep (denTT u.T) _ (cond (Nat.blt k F.N) (denV (u.get k)) (denV (F.ext k))) _
    have h1 : Rep (denTT t.T) g (cond (Nat.blt k F.N) (denV (t.get k)) (denV (F.ext k))) (a.tmps.getD k (B.ext k)) := h1
    cases hk : Nat.blt k F.N with
    | true => rw [hk] at h1; exact rep_w hT (henv k hk) h1
    | false => rw [hk] at h1; exact rep_same hT (hext k) h1
  · intro s us h
    obtain ⟨ts, us', h1, rfl, h2⟩ := live s us h
    obtain ⟨cs, ty, k1, k2, k3⟩ := hr.box s _ h1
    exact ⟨cs, ty, k1, repB_w hT h2 k2, k3⟩
  · intro s s' ps ps' h h' hne
    obtain ⟨_, _, h1, _⟩ := live s ps h
    obtain ⟨_, _, h2, _⟩ := live s' ps' h'
    exact hr.apart s s' _ _ h1 h2 hne
  · intro q sz m b c h1 h2
    obtain ⟨h3, h4⟩ := Tx q _ b c h1 h2
    exact hr.tip q sz m b c h3 h4
  · intro q q' x x' b b' c c' h1 h2 h3 h4 hne
    obtain ⟨h5, h6⟩ := Tx q _ b c h1 h3
    obtain ⟨h7, h8⟩ := Tx q' _ b' c' h2 h4
    exact hr.tips q q' _ _ _ _ _ _ h5 h7 h6 h8 hne
  · intro s ps q x b c h1 h2 h3
    obtain ⟨_, _, h4, _⟩ := live s ps h1
    obtain ⟨h5, h6⟩ := Tx q _ b c h2 h3
    exact hr.boxtip s _ q _ b c h4 h5 h6
  · intro q ps h
    have h : denM u.T q = some ps := h
    rcases hM2 q ps h with hq | ⟨hf, rfl⟩
    · have h1 : (den F t).M q = some ps := by show denM t.T q = _; rw [← hM1 q hq]; exact h
      refine (hr.prv q ps h1).mono (hT.T q hq) (by show cond (fr q) none (g.τ q) = _; rw [hT.not hq]; rfl) (Imm.le_refl _) fun b c _ => ⟨fun _ => rfl, rfl⟩
    · have hx : ∃ x, denTT u.T q = some x := by
        rw [denM_eq] at h
        unfold denTT
        cases hu : u.T q with
        | none => rw [hu] at h; cases h
        | some x => exact ⟨_, rfl⟩
      obtain ⟨x, hx⟩ := hx
      rcases hT.new q x hx with hq | ⟨_, h0⟩
      · exact absurd hq (hT.off q hf)
      · obtain ⟨sz, m⟩ := x
        obtain rfl : m = 0 := h0
        exact ⟨sz, 0, hx, by simp, fun _ => rfl, fun b c h' => by
          have h' : cond (fr q) none (g.τ q) = some (b, c) := h'
          rw [hf] at h'; cases h'⟩
/-! ### Heads of loops -/
def AllV (φ : RPl → (rk : RK) → rk.ty S.A → Prop) : (V : RV) → HV S.A V → Prop
  | [], _ => True
  | [(rp, rk)], x => φ rp rk x
  | (rp, rk) :: y :: r, h => φ rp rk h.1 ∧ AllV φ (y :: r) h.2
theorem lay_ind {φ : RPl → (rk : RK) → rk.ty S.A → Prop} {M : XS S.A → Prop} (hs : ∀ s rp rk x, φ rp rk x → M s → M (layK s rp rk x)) : ∀ (V : RV) (h : HV S.A V) (s : XS S.A), AllV φ V h → M s → M (layV s V h)
  | [], _, s, _, hm => hm
  | [(rp, rk)], x, s, h, hm => hs s rp rk x h hm
  | (rp, rk) :: y :: r, h, s, ha, hm => lay_ind hs (y :: r) h.2 _ ha.2 (hs s rp rk h.1 ha.1 hm)
theorem all_mono {φ ψ : RPl → (rk : RK) → rk.ty S.A → Prop} (hs : ∀ rp rk x, φ rp rk x → ψ rp rk x) : ∀ (V : RV) (h : HV S.A V), AllV φ V h → AllV ψ V h
  | [], _, _ => trivial
  | [(rp, rk)], x, h => hs rp rk x h
  | (rp, rk) :: y :: r, h, ha => ⟨hs rp rk h.1 ha.1, all_mono hs (y :: r) h.2 ha.2⟩
/-- What is known of each thing that varies. -/
def Got (ini : Option Nat) (t : XS S.A) (rp : RPl) (rk : RK) (x : rk.ty S.A) : Prop := ∃ cs P, rawR t rp = some cs ∧ backK ini t rk cs = some (P, x) ∧ ∀ q, P = some q → q
theorem back_all {ini : Option Nat} {t : XS S.A} : ∀ (V : RV) (p : Option Prop) (h : HV S.A V), backV ini t V = some (p, h) → (∀ q, p = some q → q) → AllV (Got ini t) V h
  | [], p, h, _, _ => trivial
  | [(rp, rk)], p, x, he, hp => by
    simp only [backV] at he
    split at he
    · rename_i cs hcs; exact ⟨cs, p, hcs, he, hp⟩
    · cases he
  | (rp, rk) :: y :: r, p, h, he, hp => by
    simp only [backV] at he
    split at he
    · rename_i cs hcs
      split at he
      · rename_i p1 x q1 h1 e1 e2
        cases he
        refine ⟨⟨cs, p1, hcs, e1, fun q hq => ?_⟩, back_all (y :: r) q1 h1 e2 fun q hq => ?_⟩
        · subst hq
          cases q1 with
          | none => exact hp q rfl
          | some q2 => exact (hp (q ∧ q2) rfl).1
        · subst hq
          cases p1 with
          | none => exact hp q rfl
          | some q2 => exact (hp (q2 ∧ q) rfl).2
      · cases he
    · cases he
theorem boolA_eq {p : AV S.A} {v : Bool} (h : boolA p = some v) : p = .sc (.bool v) := boolA_sc h
theorem wkL_w1 {ps qs : List (AV S.A)} (h : WkL (ps.map fun p => (den1 p).strip1) (qs.map den1)) (hc : (qs.map den1).all PV.clean1 = true) : W1L Q fr U ps qs := by
  induction ps generalizing qs with
  | nil =>
    cases qs with
    | nil => exact .nil
    | cons q qs => cases h
  | cons p ps ih =>
    cases qs with
    | nil => cases h
    | cons q qs =>
      cases h with
      | cons h hs =>
        simp only [List.map_cons, List.all_cons, Bool.and_eq_true] at hc
        exact .cons (.cl p q h hc.1) (ih hs hc.2)
/-- The value that is laid down says no more than what was there. -/
theorem back_w {ini : Option Nat} {t : XS S.A} {rk : RK} {cs : List (AV S.A)} {P : Option Prop} {x : rk.ty S.A} (h : backK ini t rk cs = some (P, x)) (hin : ∀ q u u' l, rk = .own q u → cs = [.own q u' l] → Q q) (hU : ∀ q u, (rk = .own q u ∨ rk = .prv q u) → cs = [.nil] → fr q = true ∧ ∃ sz, U q = some (sz, 0)) (hinp : ∀ q u u' n, rk = .prv q u → cs = [.prv q u' n] → Q q) (hP : ∀ p, P = some p → p) :
    (∀ p, cs = [p] → Wv Q fr U p (slotK rk x) ∧ W1 Q fr U p (slotK rk x)) ∧ W1L Q fr U cs (cellsK rk x) := by
  have one : ∀ {p : AV S.A}, cs = [p] → W1 Q fr U p (slotK rk x) → denV (slotK rk x) = den1 (slotK rk x) → cellsK rk x = [slotK rk x] → (∀ p, cs = [p] → Wv Q fr U p (slotK rk x) ∧ W1 Q fr U p (slotK rk x)) ∧ W1L Q fr U cs (cellsK rk x) := by
    intro p e h1 h2 h3
    subst e
    exact ⟨fun p' e => by cases e; exact ⟨.one h1 h2, h1⟩, by rw [h3]; exact .cons h1 .nil⟩
  cases rk with
  | int k =>
    simp only [backK] at h
    split at h <;> first | cases h | skip
    rename_i k' n
    cases hk : kindB k k' with
    | false => rw [hk] at h; cases h
    | true =>
      rw [hk] at h
      obtain rfl := kindB_eq hk
      cases h
      exact one rfl (.same _ trivial) rfl rfl
  | bool =>
    simp only [backK] at h
    split at h <;> first | cases h | skip
    split at h <;> first | cases h | skip
    rename_i p v hv
    obtain rfl := boolA_eq hv
    exact one rfl (.same _ trivial) rfl rfl
  | str =>
    simp only [backK] at h
    split at h <;> first | cases h | skip
    exact one rfl (.same _ trivial) rfl rfl
  | sl u =>
    simp only [backK] at h
    split at h <;> first | cases h | skip
    split at h <;> first | cases h | skip
    rename_i p l hl
    have := (asSl_den hl).1
    refine one rfl (.cl _ _ ?_ rfl) rfl rfl
    cases p <;> first | exact this | cases hl
  | own q u =>
    simp only [backK] at h
    split at h <;> first | cases h | skip
    · rename_i q' u' l
      cases hq : Nat.beq q q' with
      | false => rw [hq] at h; cases h
      | true =>
        obtain rfl := Nat.eq_of_beq_eq_true hq
        rw [hq] at h
        simp only [cond_true] at h
        split at h <;> first | cases h | skip
        rename_i hu
        obtain rfl := Nat.eq_of_beq_eq_true hu
        split at h <;> first | cases h | skip
        rename_i sz m hT
        cases hs : Nat.beq sz (szOf S u') with
        | false => rw [hs] at h; cases h
        | true =>
          rw [hs] at h
          cases h
          exact one rfl (.same _ (hin _ _ _ _ rfl rfl)) rfl rfl
    · split at h <;> first | cases h | skip
      rename_i c
      cases hc : Nat.ble c q with
      | false => rw [hc] at h; cases h
      | true =>
        rw [hc] at h
        cases h
        have := hU q u (.inl rfl) rfl
        exact one rfl (.nil q u this.1 this.2) rfl rfl
  | prv q u =>
    simp only [backK] at h
    split at h <;> first | cases h | skip
    · rename_i q' u' n
      cases hq : (Nat.beq q q' && Nat.beq u' u) with
      | false => rw [hq] at h; cases h
      | true =>
        rw [hq] at h
        simp only [cond_true] at h
        simp only [Bool.and_eq_true] at hq
        obtain rfl := Nat.eq_of_beq_eq_true hq.1
        obtain rfl := Nat.eq_of_beq_eq_true hq.2
        split at h <;> first | cases h | skip
        rename_i sz m v l pad hT
        split at h <;> first | cases h | skip
        rename_i hv
        obtain rfl := Nat.eq_of_beq_eq_true hv
        cases hs : Nat.beq sz (szOf S v) with
        | false => rw [hs] at h; cases h
        | true =>
          rw [hs] at h
          cases h
          have hn : n = l.length := (hP _ rfl).1
          subst hn
          exact one rfl (.same _ (hinp _ _ _ _ rfl rfl)) rfl rfl
    · split at h <;> first | cases h | skip
      rename_i c
      cases hc : Nat.ble c q with
      | false => rw [hc] at h; cases h
      | true =>
        rw [hc] at h
        cases h
        have := hU q u (.inr rfl) rfl
        exact one rfl (.nilp q u this.1 this.2) rfl rfl
  | ag u =>
    simp only [backK] at h
    split at h <;> first | cases h | skip
    split at h <;> first | cases h | skip
    rename_i cs' x' hx
    refine ⟨fun p e => ?_, .cons (.any _) .nil⟩
    cases e
    exact ⟨.agg (wkL_w1 (by rw [av_den]; exact dec_wk hx) (by rw [av_den]; exact pv_clean u _)), .cl _ _ (.any _) rfl⟩
  | run u pad => exact ⟨fun p e => ⟨.one (.any _) rfl, .any _⟩, by
      simp only [backK] at h
      split at h <;> first | cases h | skip
      exact .cons (.any _) .nil⟩
  | bx u =>
    simp only [backK] at h
    split at h <;> first | cases h | skip
    rename_i x' hx
    exact ⟨fun p e => ⟨.one (.any _) rfl, .any _⟩, wkL_w1 (by show WkL _ ((av S u _).map den1); rw [av_den]; exact dec_wk hx) (by show ((av S u _).map den1).all _ = true; rw [av_den]; exact pv_clean u _)⟩
theorem all_mem {φ : RPl → (rk : RK) → rk.ty S.A → Prop} : ∀ (V : RV) (h : HV S.A V), AllV φ V h → AllV (fun rp rk x => φ rp rk x ∧ (rp, rk) ∈ V) V h
  | [], _, _ => trivial
  | [(rp, rk)], x, h => ⟨h, by simp⟩
  | (rp, rk) :: y :: r, h, ha => ⟨⟨ha.1, by simp⟩, all_mono (fun rp rk x h => ⟨h.1, List.mem_cons_of_mem _ h.2⟩) _ _ (all_mem (y :: r) h.2 ha.2)⟩
theorem tip_mem {q u : Nat} {rp : RPl} : ∀ {V : RV}, (rp, RK.own q u) ∈ V → q ∈ tipV V
  | (rp', rk') :: V, h => by
    rcases List.mem_cons.1 h with e | h
    · cases e; exact List.mem_cons_self
    · have := tip_mem h
      cases rk' <;> first | exact List.mem_cons_of_mem _ this | exact this
theorem tip_memP {q u : Nat} {rp : RPl} : ∀ {V : RV}, (rp, RK.prv q u) ∈ V → q ∈ tipV V
  | (rp', rk') :: V, h => by
    rcases List.mem_cons.1 h with e | h
    · cases e; exact List.mem_cons_self
    · have := tip_memP h
      cases rk' <;> first | exact List.mem_cons_of_mem _ this | exact this
def BoxAt (rp : RPl) (i : Nat) : Prop := rp = .bx i ∨ (∃ j, rp = .ce i j) ∨ rp = .tl i
theorem box_mem {rp : RPl} {rk : RK} {i : Nat} (hi : BoxAt rp i) : ∀ {V : RV}, (rp, rk) ∈ V → i ∈ boxV V
  | (rp', rk') :: V, h => by
    rcases List.mem_cons.1 h with e | h
    · cases e
      rcases hi with rfl | ⟨j, rfl⟩ | rfl <;> exact List.mem_cons_self
    · have := box_mem hi h
      cases rp' <;> first | exact List.mem_cons_of_mem _ this | exact this
def tipS (s : XS S.A) (rk : RK) (x : rk.ty S.A) : XS S.A := match rk, x with
  | .own q t, l => s.setT q (szOf S t) l.length
  | .prv q t, l => s.setP q (szOf S t) t l
  | _, _ => s
theorem layK_eq (s : XS S.A) (rp : RPl) (rk : RK) (x : rk.ty S.A) : layK s rp rk x = match rp with
  | .sl d => (tipS s rk x).put d (slotK rk x)
  | .ce i j => (match (tipS s rk x).L i with
    | some bx => (tipS s rk x).setL i { bx with cs := bx.cs.set j (slotK rk x) }
    | none => tipS s rk x)
  | .bx i => (match (tipS s rk x).L i with
    | some bx => (tipS s rk x).setL i { bx with cs := cellsK rk x }
    | none => tipS s rk x)
  | .tl i => (match (tipS s rk x).L i with
    | some bx => (tipS s rk x).setL i { bx with tl := tlK rk x }
    | none => tipS s rk x) := by
  cases rk <;> rfl
theorem tipS_env (s : XS S.A) (rk : RK) (x : rk.ty S.A) : (tipS s rk x).env = s.env ∧ (tipS s rk x).L = s.L ∧ (tipS s rk x).c = s.c := by cases rk <;> exact ⟨rfl, rfl, rfl⟩
theorem layK_T (s : XS S.A) (rp : RPl) (rk : RK) (x : rk.ty S.A) : (layK s rp rk x).T = (tipS s rk x).T := by
  rw [layK_eq]
  cases rp with
  | sl d => rfl
  | bx i => simp only []; split <;> rfl
  | ce i j => simp only []; split <;> rfl
  | tl i => simp only []; split <;> rfl
theorem lay_tip {q : Nat} : ∀ (V : RV) (h : HV S.A V) (s : XS S.A), (q ∈ tipV V ∨ s.T q ≠ none) → (layV s V h).T q ≠ none
  | [], _, s, h => h.resolve_left (fun h => by cases h)
  | [(rp, rk)], x, s, h => by
    show (layK s rp rk x).T q ≠ none
    rw [layK_T]
    cases rk with
    | own q' t =>
      show (bif Nat.beq q q' then _ else s.T q) ≠ none
      cases hq : Nat.beq q q' with
      | true => simp
      | false =>
        rcases h with h | h
        · rcases List.mem_cons.1 h with e | h
          · subst e; rw [Nat.beq_refl] at hq; cases hq
          · cases h
        · exact h
    | prv q' t =>
      show (bif Nat.beq q q' then _ else s.T q) ≠ none
      cases hq : Nat.beq q q' with
      | true => simp
      | false =>
        rcases h with h | h
        · rcases List.mem_cons.1 h with e | h
          · subst e; rw [Nat.beq_refl] at hq; cases hq
          · cases h
        · exact h
    | _ => exact h.resolve_left (fun h => by cases h)
  | (rp, rk) :: y :: r, h, s, hq => by
    refine lay_tip (y :: r) h.2 _ ?_
    rw [layK_T]
    cases rk with
    | own q' t =>
      cases hqq : Nat.beq q q' with
      | true => right; show (bif Nat.beq q q' then _ else s.T q) ≠ none; rw [hqq]; simp
      | false =>
        rcases hq with hq | hq
        · rcases List.mem_cons.1 hq with e | hq
          · subst e; rw [Nat.beq_refl] at hqq; cases hqq
          · exact .inl hq
        · right; show (bif Nat.beq q q' then _ else s.T q) ≠ none; rw [hqq]; exact hq
    | prv q' t =>
      cases hqq : Nat.beq q q' with
      | true => right; show (bif Nat.beq q q' then _ else s.T q) ≠ none; rw [hqq]; simp
      | false =>
        rcases hq with hq | hq
        · rcases List.mem_cons.1 hq with e | hq
          · subst e; rw [Nat.beq_refl] at hqq; cases hqq
          · exact .inl hq
        · right; show (bif Nat.beq q q' then _ else s.T q) ≠ none; rw [hqq]; exact hq
    | _ => exact hq
theorem w1L_set {Q : Nat → Prop} {fr : Nat → Bool} {U : Nat → Option (Nat × Nat)} {q : AV S.A} : ∀ {ts ps : List (AV S.A)} {j : Nat} {p : AV S.A}, W1L Q fr U ts ps → ts[j]? = some p → W1 Q fr U p q → W1L Q fr U ts (ps.set j q)
  | _, _, j, p, .nil, hj, _ => by cases hj
  | _, _, 0, p, .cons h hs, hj, hq => by cases hj; exact .cons hq hs
  | _, _, j + 1, p, .cons h hs, hj, hq => .cons h (w1L_set hs hj hq)
theorem w1L_any {Q : Nat → Prop} {fr : Nat → Bool} {U : Nat → Option (Nat × Nat)} : ∀ {ts ps : List (AV S.A)}, ts.length = ps.length → W1L Q fr U ts (ps.map fun _ => .any)
  | [], [], _ => .nil
  | t :: ts, p :: ps, h => .cons (.any _) (w1L_any (by simpa using h))
theorem over_get (s b : XS S.A) (k : Nat) : (s.over b).get k = match s.env k with | some p => p | none => b.get k := by
  unfold XS.get XS.over
  simp only
  cases s.env k <;> rfl
theorem nmem {x : Nat} {l : List Nat} (h : x ∉ l) : memN x l = false := by
  cases hq : memN x l with
  | false => rfl
  | true => exact absurd (memN_mem.1 hq) h
/-- Rows behind cells: as they are laid. -/
theorem lay_tl {φ : RPl → (rk : RK) → rk.ty S.A → Prop} {b : XS S.A} {V0 : RV} {OK : Nat → Option (Tl S.A) → Prop} (hφ : ∀ i rk x, φ (.tl i) rk x → OK i (tlK rk x)) : ∀ (V : RV) (h : HV S.A V) (s : XS S.A), AllV φ V h → (∀ i ∈ tlV V, i ∈ boxV V0) → (∀ i ∈ boxV V0, s.L i = none → b.L i = none) → (∀ i us, (s.over b).L i = some us → i ∈ tlV V ∨ OK i us.tl) → ∀ i us, ((layV s V h).over b).L i = some us → OK i us.tl := by
  have key : ∀ (rp : RPl) (rk : RK) (x : rk.ty S.A) (rest : List Nat) (all : List Nat) (s : XS S.A), φ rp rk x → (∀ i ∈ all, i ∈ boxV V0) → (∀ i, i ∈ all → i ∈ rest ∨ rp = .tl i) → (∀ i ∈ boxV V0, s.L i = none → b.L i = none) → (∀ i us, (s.over b).L i = some us → i ∈ all ∨ OK i us.tl) →
      (∀ i ∈ boxV V0, (layK s rp rk x).L i = none → b.L i = none) ∧ (∀ i us, ((layK s rp rk x).over b).L i = some us → i ∈ rest ∨ OK i us.tl) := by
    intro rp rk x rest all s hx h0 hall hs h
    obtain ⟨ev, el, _⟩ := tipS_env s rk x
    have hs' : ∀ i ∈ boxV V0, (tipS s rk x).L i = none → b.L i = none := by intro i hi hn; rw [el] at hn; exact hs i hi hn
    have h' : ∀ i us, ((tipS s rk x).over b).L i = some us → i ∈ all ∨ OK i us.tl := by
      intro i us hi
      have e9 : ((tipS s rk x).over b).L i = (s.over b).L i := by
        show orE ((tipS s rk x).L i) _ = orE (s.L i) _
        rw [el]
      exact h i us (by rw [← e9]; exact hi)
    have nb : ∀ {i : Nat}, (∀ j, rp ≠ .tl j) → (i ∈ all ∨ OK i (none : Option (Tl S.A)) ∨ True) → ∀ o, (i ∈ all ∨ OK i o) → (i ∈ rest ∨ OK i o) := by
      intro i hne _ o ho
      rcases ho with ho | ho
      · exact .inl ((hall i ho).resolve_right (hne i))
      · exact .inr ho
    have setcase : ∀ (i0 : Nat) (bx bx' : Bx S.A), (tipS s rk x).L i0 = some bx → ((i0 ∈ all ∨ OK i0 bx.tl) → (i0 ∈ rest ∨ OK i0 bx'.tl)) → (∀ i, i ≠ i0 → ∀ o : Option (Tl S.A), (i ∈ all ∨ OK i o) → (i ∈ rest ∨ OK i o)) →
        (∀ i ∈ boxV V0, ((tipS s rk x).setL i0 bx').L i = none → b.L i = none) ∧ (∀ i us, (((tipS s rk x).setL i0 bx').over b).L i = some us → i ∈ rest ∨ OK i us.tl) := by
      intro i0 bx bx' hbx h1 h2
      refine ⟨fun i hi hn => ?_, fun i us hi => ?_⟩
      · have hn : (bif Nat.beq i i0 then some bx' else (tipS s rk x).L i) = none := hn
        cases hq : Nat.beq i i0 with
        | true => rw [hq] at hn; cases hn
        | false => rw [hq] at hn; exact hs' i hi hn
      · rw [over_setL] at hi
        have hi : (bif Nat.beq i i0 then some bx' else ((tipS s rk x).over b).L i) = some us := hi
        cases hq : Nat.beq i i0 with
        | true =>
          have hii := Nat.eq_of_beq_eq_true hq
          rw [hq] at hi
          have hi9 := Option.some.inj hi
          subst hii
          rw [← hi9]
          exact h1 (h' i bx (by show orE ((tipS s rk x).L i) _ = _; rw [hbx]; rfl))
        | false =>
          rw [hq] at hi
          exact h2 i (fun e => by subst e; rw [Nat.beq_refl] at hq; cases hq) _ (h' i us hi)
    rw [layK_eq]
    cases rp with
    | sl d =>
      exact ⟨hs', fun i us hi => nb (fun j e => by cases e) (.inr (.inr trivial)) _ (h' i us hi)⟩
    | ce i0 j =>
      simp only []
      split
      · rename_i bx hbx
        exact setcase i0 bx _ hbx (nb (fun j e => by cases e) (.inr (.inr trivial)) _) (fun i _ o => nb (fun j e => by cases e) (.inr (.inr trivial)) o)
      · exact ⟨hs', fun i us hi => nb (fun j e => by cases e) (.inr (.inr trivial)) _ (h' i us hi)⟩
    | bx i0 =>
      simp only []
      split
      · rename_i bx hbx
        exact setcase i0 bx _ hbx (nb (fun j e => by cases e) (.inr (.inr trivial)) _) (fun i _ o => nb (fun j e => by cases e) (.inr (.inr trivial)) o)
      · exact ⟨hs', fun i us hi => nb (fun j e => by cases e) (.inr (.inr trivial)) _ (h' i us hi)⟩
    | tl i0 =>
      simp only []
      have other : ∀ i, i ≠ i0 → ∀ o : Option (Tl S.A), (i ∈ all ∨ OK i o) → (i ∈ rest ∨ OK i o) := by
        intro i hi o ho
        rcases ho with ho | ho
        · exact .inl ((hall i ho).resolve_right (fun e => by cases e; exact hi rfl))
        · exact .inr ho
      split
      · rename_i bx hbx
        exact setcase i0 bx _ hbx (fun _ => .inr (hφ i0 rk x hx)) other
      · rename_i hnone
        refine ⟨hs', fun i us hi => ?_⟩
        by_cases e : i = i0
        · subst e
          rcases h' i us hi with ho | ho
          · have hb := hs' i (h0 i ho) hnone
            have hi : orE ((tipS s rk x).L i) (b.L i) = some us := hi
            rw [hnone, hb] at hi
            cases hi
          · exact .inr ho
        · exact other i e _ (h' i us hi)
  have tlc : ∀ (rp : RPl) (rk : RK) (V : RV) i, i ∈ tlV ((rp, rk) :: V) → i ∈ tlV V ∨ rp = .tl i := by
    intro rp rk V i hi
    cases rp with
    | tl x => rcases List.mem_cons.1 hi with rfl | hi; exact .inr rfl; exact .inl hi
    | _ => exact .inl hi
  have tlin : ∀ (rp : RPl) (rk : RK) (V : RV) i, i ∈ tlV V → i ∈ tlV ((rp, rk) :: V) := by
    intro rp rk V i hi
    cases rp with
    | tl x => exact List.mem_cons_of_mem _ hi
    | _ => exact hi
  intro V
  induction V with
  | nil => intro h s _ _ _ hh i us hi; exact (hh i us hi).resolve_left (fun h => by cases h)
  | cons e V ih =>
    obtain ⟨rp, rk⟩ := e
    cases V with
    | nil =>
      intro x s ha h0 hs hh i us hi
      exact ((key rp rk x [] _ s ha h0 (fun i hi => tlc rp rk [] i hi) hs hh).2 i us hi).resolve_left (fun h => by cases h)
    | cons y r =>
      intro h s ha h0 hs hh
      have := key rp rk h.1 (tlV (y :: r)) _ s ha.1 h0 (fun i hi => tlc rp rk (y :: r) i hi) hs hh
      exact ih h.2 _ ha.2 (fun i hi => h0 i (tlin rp rk (y :: r) i hi)) this.1 this.2
theorem decH_run {u pad : Nat} {l : List (S.A u)} : ∀ lv : List Leaf, decH lv [(.run u l pad : AV S.A)] = none
  | [] => rfl
  | x0 :: xs => by
    simp only [decH]
    have : decLeaf x0 (.run u l pad : AV S.A) = none := by cases x0 <;> rfl
    rw [this]
theorem tl_box {i : Nat} : ∀ {V : RV}, i ∈ tlV V → i ∈ boxV V
  | (rp, rk) :: V, h => by
    cases rp with
    | sl d => exact tl_box (V := V) h
    | ce x j => exact List.mem_cons_of_mem _ (tl_box (V := V) h)
    | bx x => exact List.mem_cons_of_mem _ (tl_box (V := V) h)
    | tl x =>
      rcases List.mem_cons.1 h with rfl | h
      · exact List.mem_cons_self
      · exact List.mem_cons_of_mem _ (tl_box (V := V) h)
/-- Back to the head, or into it. -/
theorem head_weak {B : Base} {F : Fr S} {b t : XS S.A} {c : Nat} {V : RV} {cl : List Nat} {h : HV S.A V} {ini : Option Nat} {Q Qb : Nat → Prop} {fr : Nat → Bool} {g : Gh} {a : Act} {w : World} (hb : WF Qb F b) (hQ : ∀ n, Qb n → Q n) (hoff : ∀ n, fr n = true → ¬ Q n)
    (hall : AllV (Got ini t) V h) (hfr : ∀ c', ini = some c' → ∀ rp rk q, (rp, rk) ∈ V → tipK rk = some q → rawR t rp = some [.nil] → c' ≤ q → fr q = true) (hin : ∀ rp q u u' l, (rp, RK.own q u) ∈ V → rawR t rp = some [.own q u' l] → Q q) (hinp : ∀ rp q u u' n, (rp, RK.prv q u) ∈ V → rawR t rp = some [.prv q u' n] → Q q)
    (henv : ∀ k, Nat.blt k F.N = true → k ∉ slotsV V ++ cl → t.get k = b.get k) (hbx : ∀ i, i ∈ boxV V → ∃ x y, t.L i = some x ∧ b.L i = some y ∧ x.cs.length = y.cs.length ∧ (i ∈ tlV V ∨ x.tl = y.tl)) (hLn : ∀ i, Qb i → i ∉ boxV V → t.L i = b.L i) (hTn : ∀ q, Q q → q ∉ tipV V → t.T q = b.T q)
    (hr : Rel B (den F t) g a w) : Rel B (den F ((headV b V cl c h).over b)) (unτ fr g) a w := by
  have hm := all_mem V h hall
  -- lists of the call's own
  have hψ : ∀ q y, (headV b V cl c h).T q = some y → (∃ x, t.T q = some x ∧ (x.sz, x.m) = (y.sz, y.m) ∧ x.con = y.con ∧ Q q) ∨ (fr q = true ∧ y.m = 0 ∧ ∀ ps, y.con = some ps → ps = []) := by
    refine lay_ind (M := fun u => ∀ q y, u.T q = some y → (∃ x, t.T q = some x ∧ (x.sz, x.m) = (y.sz, y.m) ∧ x.con = y.con ∧ Q q) ∨ (fr q = true ∧ y.m = 0 ∧ ∀ ps, y.con = some ps → ps = [])) ?_ V h _ hm (fun q y e => by cases e)
    rintro s rp rk x ⟨⟨cs, P, e1, e2, e3⟩, hmem⟩ ih q y hq
    rw [layK_T] at hq
    cases rk with
    | own q' u =>
      have hq : (bif Nat.beq q q' then some ⟨szOf S u, x.length, none⟩ else s.T q) = some y := hq
      cases hqq : Nat.beq q q' with
      | false => rw [hqq] at hq; exact ih q y hq
      | true =>
        rw [hqq] at hq
        obtain rfl := Nat.eq_of_beq_eq_true hqq
        cases hq
        simp only [backK] at e2
        split at e2
        · rename_i q2 u2 l2
          cases h1 : Nat.beq q q2 with
          | false => rw [h1] at e2; cases e2
          | true =>
            rw [h1] at e2
            obtain rfl := Nat.eq_of_beq_eq_true h1
            simp only [cond_true] at e2
            split at e2 <;> first | cases e2 | skip
            rename_i hu
            obtain rfl := Nat.eq_of_beq_eq_true hu
            split at e2 <;> first | cases e2 | skip
            rename_i sz m hTq
            cases hs : Nat.beq sz (szOf S u2) with
            | false => rw [hs] at e2; cases e2
            | true =>
              rw [hs] at e2
              cases e2
              obtain rfl := Nat.eq_of_beq_eq_true hs
              have hl : l2.length = m := e3 _ rfl
              exact .inl ⟨_, hTq, by show (szOf S u2, m) = (szOf S u2, (castT hu l2).length); rw [castT_self, hl], rfl, hin rp q _ _ _ hmem e1⟩
        · split at e2 <;> first | cases e2 | skip
          rename_i c'
          cases hc : Nat.ble c' q with
          | false => rw [hc] at e2; cases e2
          | true =>
            rw [hc] at e2
            cases e2
            exact .inr ⟨hfr c' rfl _ _ q hmem rfl e1 (Nat.le_of_ble_eq_true hc), rfl, fun ps hps => by cases hps⟩
        · cases e2
    | prv q' u =>
      have hq : (bif Nat.beq q q' then some ⟨szOf S u, x.length, some ⟨u, x, 0⟩⟩ else s.T q) = some y := hq
      cases hqq : Nat.beq q q' with
      | false => rw [hqq] at hq; exact ih q y hq
      | true =>
        rw [hqq] at hq
        obtain rfl := Nat.eq_of_beq_eq_true hqq
        cases hq
        simp only [backK] at e2
        split at e2
        · rename_i q2 u2 n2
          cases h1 : (Nat.beq q q2 && Nat.beq u2 u) with
          | false => rw [h1] at e2; cases e2
          | true =>
            rw [h1] at e2
            simp only [Bool.and_eq_true] at h1
            obtain rfl := Nat.eq_of_beq_eq_true h1.1
            obtain rfl := Nat.eq_of_beq_eq_true h1.2
            simp only [cond_true] at e2
            split at e2 <;> first | cases e2 | skip
            rename_i sz m v l pad hTq
            split at e2 <;> first | cases e2 | skip
            rename_i hv
            obtain rfl := Nat.eq_of_beq_eq_true hv
            cases hs : Nat.beq sz (szOf S v) with
            | false => rw [hs] at e2; cases e2
            | true =>
              rw [hs] at e2
              cases e2
              obtain rfl := Nat.eq_of_beq_eq_true hs
              have hl : m = l.length := (e3 _ rfl).2
              exact .inl ⟨_, hTq, by show (szOf S v, m) = (szOf S v, (castT hv l).length); rw [castT_self, hl], rfl, hinp rp q _ _ _ hmem e1⟩
        · split at e2 <;> first | cases e2 | skip
          rename_i c'
          cases hc : Nat.ble c' q with
          | false => rw [hc] at e2; cases e2
          | true =>
            rw [hc] at e2
            cases e2
            exact .inr ⟨hfr c' rfl _ _ q hmem rfl e1 (Nat.le_of_ble_eq_true hc), rfl, fun ps hps => by cases hps; rfl⟩
        · cases e2
    | _ => exact ih q y hq
  have htip : ∀ q, q ∈ tipV V → (headV b V cl c h).T q ≠ none := fun q hq => lay_tip V h _ (.inl hq)
  have hover : ∀ q y, (headV b V cl c h).T q = some y → ((headV b V cl c h).over b).T q = some y := fun q y hh => by show orE ((headV b V cl c h).T q) (b.T q) = _; rw [hh]; rfl
  have hover0 : ∀ q, (headV b V cl c h).T q = none → ((headV b V cl c h).over b).T q = b.T q := fun q hh => by show orE ((headV b V cl c h).T q) (b.T q) = _; rw [hh]; rfl
  have dTT : ∀ {T : Nat → Option (TT S.A)} {q : Nat} {x : TT S.A}, T q = some x → denTT T q = some (x.sz, x.m) := fun {T q x} hx => by unfold denTT; rw [hx]
  have hT : TOk Q fr (denTT t.T) (denTT ((headV b V cl c h).over b).T) := by
    refine ⟨hoff, fun q hq => ?_, fun q x hx => ?_⟩
    · cases hh : (headV b V cl c h).T q with
      | none =>
        have e1 := hover0 q hh
        have e2 := hTn q hq (fun hm => htip q hm hh)
        unfold denTT
        rw [e1, e2]
      | some y =>
        rcases hψ q y hh with ⟨z, h1, h2, _, _⟩ | ⟨h1, _⟩
        · rw [dTT (hover q y hh), dTT h1, h2]
        · exact absurd hq (hoff q h1)
    · cases hh : (headV b V cl c h).T q with
      | none =>
        have e1 := hover0 q hh
        unfold denTT at hx
        rw [e1] at hx
        cases hb2 : b.T q with
        | none => rw [hb2] at hx; cases hx
        | some z => exact .inl (hQ q (hb.T q z hb2))
      | some y =>
        rw [dTT (hover q y hh)] at hx
        cases hx
        rcases hψ q y hh with ⟨z, _, _, _, h4⟩ | ⟨h1, h2, _⟩
        · exact .inl h4
        · exact .inr ⟨h1, h2⟩
  have hM1 : ∀ q, Q q → denM ((headV b V cl c h).over b).T q = denM t.T q := by
    intro q hq
    rw [denM_eq, denM_eq]
    cases hh : (headV b V cl c h).T q with
    | none => rw [hover0 q hh, hTn q hq (fun hm => htip q hm hh)]
    | some y =>
      rcases hψ q y hh with ⟨z, h1, _, h3, _⟩ | ⟨h1, _⟩
      · rw [hover q y hh, h1]; exact h3.symm
      · exact absurd hq (hoff q h1)
  have hM2 : ∀ q ps, denM ((headV b V cl c h).over b).T q = some ps → Q q ∨ (fr q = true ∧ ps = []) := by
    intro q ps hps
    rw [denM_eq] at hps
    cases hh : (headV b V cl c h).T q with
    | none =>
      rw [hover0 q hh] at hps
      cases hb2 : b.T q with
      | none => rw [hb2] at hps; cases hps
      | some z => exact .inl (hQ q (hb.T q z hb2))
    | some y =>
      rw [hover q y hh] at hps
      rcases hψ q y hh with ⟨_, _, _, _, h4⟩ | ⟨h1, _, h3⟩
      · exact .inl h4
      · exact .inr ⟨h1, h3 ps hps⟩
  have hU : ∀ q, q ∈ tipV V → fr q = true → ∃ sz, denTT ((headV b V cl c h).over b).T q = some (sz, 0) := by
    intro q hq hf
    cases hh : (headV b V cl c h).T q with
    | none => exact absurd hh (htip q hq)
    | some y =>
      rcases hψ q y hh with ⟨_, _, _, _, h1⟩ | ⟨_, h1, _⟩
      · exact absurd h1 (hoff q hf)
      · refine ⟨y.sz, ?_⟩
        rw [dTT (hover q y hh), h1]
  have hM : (∀ k, Nat.blt k F.N = true → Wv Q fr (denTT ((headV b V cl c h).over b).T) (t.get k) (((headV b V cl c h).over b).get k)) ∧ ∀ i us, ((headV b V cl c h).over b).L i = some us → ∃ ts, t.L i = some ts ∧ W1L Q fr (denTT ((headV b V cl c h).over b).T) ts.cs us.cs := by
    generalize hUU : denTT ((headV b V cl c h).over b).T = U at hU ⊢
    refine lay_ind (M := fun u => (∀ k, Nat.blt k F.N = true → Wv Q fr U (t.get k) ((u.over b).get k)) ∧ ∀ i us, (u.over b).L i = some us → ∃ ts, t.L i = some ts ∧ W1L Q fr U ts.cs us.cs) ?_ V h _ hm ?_
    · rintro s rp rk x ⟨⟨cs, P, e1, e2, e3⟩, hmem⟩ ⟨i1, i2⟩
      have key := back_w (Q := Q) (fr := fr) (U := U) e2 (fun q u u' l h1 h2 => by subst h1; subst h2; exact hin rp q u u' l hmem e1)
        (fun q u h1 h2 => by
          subst h2
          have fin : tipK rk = some q → q ∈ tipV V → (∃ c', ini = some c' ∧ Nat.ble c' q = true) → fr q = true ∧ ∃ sz, U q = some (sz, 0) := fun ht hq ⟨c', hc1, hc2⟩ => by
            have hf := hfr c' hc1 _ _ q hmem ht e1 (Nat.le_of_ble_eq_true hc2)
            exact ⟨hf, hU q hq hf⟩
          rcases h1 with h1 | h1
          · subst h1
            refine fin rfl (tip_mem hmem) ?_
            simp only [backK] at e2
            split at e2 <;> first | cases e2 | skip
            rename_i c'
            cases hc : Nat.ble c' q with
            | false => rw [hc] at e2; cases e2
            | true => exact ⟨c', rfl, hc⟩
          · subst h1
            refine fin rfl (tip_memP hmem) ?_
            simp only [backK] at e2
            split at e2 <;> first | cases e2 | skip
            rename_i c'
            cases hc : Nat.ble c' q with
            | false => rw [hc] at e2; cases e2
            | true => exact ⟨c', rfl, hc⟩)
        (fun q u u' n h1 h2 => by subst h1; subst h2; exact hinp rp q u u' n hmem e1) e3
      obtain ⟨ev, el, _⟩ := tipS_env s rk x
      have j1 : ∀ k, ((tipS s rk x).over b).get k = (s.over b).get k := by intro k; rw [over_get, over_get, ev]
      have j2 : ∀ i, ((tipS s rk x).over b).L i = (s.over b).L i := by intro i; show orE ((tipS s rk x).L i) _ = orE (s.L i) _; rw [el]
      rw [layK_eq]
      cases rp with
      | sl d =>
        simp only []
        have e1 : some [t.get d] = some cs := e1
        cases e1
        refine ⟨fun k hk => ?_, fun i us hi => ?_⟩
        · rw [over_put, get_put]
          cases hq : Nat.beq k d with
          | true => obtain rfl := Nat.eq_of_beq_eq_true hq; exact (key.1 _ rfl).1
          | false => simp only [cond_false]; rw [j1]; exact i1 k hk
        · exact i2 i us (by rw [← j2]; exact hi)
      | bx i =>
        simp only []
        simp only [rawR] at e1
        split at e1 <;> first | (cases e1; done) | skip
        rename_i ts hts
        cases e1
        split
        · rename_i ps hps
          refine ⟨fun k hk => by rw [over_setL]; show Wv Q fr U _ (((tipS s rk x).over b).get k); rw [j1]; exact i1 k hk, fun i' us hi => ?_⟩
          rw [over_setL] at hi
          have hi : (bif Nat.beq i' i then some { ps with cs := cellsK rk x } else ((tipS s rk x).over b).L i') = some us := hi
          cases hq : Nat.beq i' i with
          | true =>
            have hii := Nat.eq_of_beq_eq_true hq
            rw [hq] at hi
            have hi9 := Option.some.inj hi
            subst hii
            rw [← hi9]
            exact ⟨ts, hts, key.2⟩
          | false => rw [hq] at hi; exact i2 i' us (by rw [← j2]; exact hi)
        · exact ⟨fun k hk => by rw [j1]; exact i1 k hk, fun i' us hi => i2 i' us (by rw [← j2]; exact hi)⟩
      | tl i =>
        simp only []
        split
        · rename_i ps hps
          refine ⟨fun k hk => by rw [over_setL]; show Wv Q fr U _ (((tipS s rk x).over b).get k); rw [j1]; exact i1 k hk, fun i' us hi => ?_⟩
          rw [over_setL] at hi
          have hi : (bif Nat.beq i' i then some { ps with tl := tlK rk x } else ((tipS s rk x).over b).L i') = some us := hi
          cases hq : Nat.beq i' i with
          | true =>
            have hii := Nat.eq_of_beq_eq_true hq
            rw [hq] at hi
            have hi9 := Option.some.inj hi
            subst hii
            rw [← hi9]
            exact i2 i' ps (by rw [← j2]; show orE ((tipS s rk x).L i') _ = _; rw [hps]; rfl)
          | false => rw [hq] at hi; exact i2 i' us (by rw [← j2]; exact hi)
        · exact ⟨fun k hk => by rw [j1]; exact i1 k hk, fun i' us hi => i2 i' us (by rw [← j2]; exact hi)⟩
      | ce i j =>
        simp only []
        simp only [rawR] at e1
        split at e1 <;> first | cases e1 | skip
        rename_i ts hts
        split at e1 <;> first | cases e1 | skip
        rename_i p hp
        split
        · rename_i ps hps
          refine ⟨fun k hk => by rw [over_setL]; show Wv Q fr U _ (((tipS s rk x).over b).get k); rw [j1]; exact i1 k hk, fun i' us hi => ?_⟩
          rw [over_setL] at hi
          have hi : (bif Nat.beq i' i then some { ps with cs := ps.cs.set j (slotK rk x) } else ((tipS s rk x).over b).L i') = some us := hi
          cases hq : Nat.beq i' i with
          | true =>
            have hii := Nat.eq_of_beq_eq_true hq
            rw [hq] at hi
            have hi9 := Option.some.inj hi
            subst hii
            rw [← hi9]
            have : (s.over b).L i' = some ps := by rw [← j2]; show orE ((tipS s rk x).L i') _ = _; rw [hps]; rfl
            obtain ⟨ts', k1, k2⟩ := i2 i' ps this
            rw [hts] at k1
            cases k1
            exact ⟨ts, hts, w1L_set k2 hp (key.1 p rfl).2⟩
          | false => rw [hq] at hi; exact i2 i' us (by rw [← j2]; exact hi)
        · exact ⟨fun k hk => by rw [j1]; exact i1 k hk, fun i' us hi => i2 i' us (by rw [← j2]; exact hi)⟩
    · refine ⟨fun k hk => ?_, fun i us hi => ?_⟩
      · rw [over_get]
        simp only
        cases hk2 : memN k (slotsV V ++ cl) with
        | true => exact .one (.any _) rfl
        | false =>
          simp only [cond_false]
          rw [henv k hk (fun hm => by rw [memN_mem.2 hm] at hk2; cases hk2)]
          exact .same _ (inV_mono hQ (hb.get hk))
      · have hi : orE (bif memN i (boxV V) then (match b.L i with | some bx => some { bx with cs := bx.cs.map fun _ => (.any : AV S.A) } | none => none) else none) (b.L i) = some us := hi
        cases hk2 : memN i (boxV V) with
        | true =>
          obtain ⟨x, y, h1, h2, h3, _⟩ := hbx i (memN_mem.1 hk2)
          rw [hk2, h2] at hi
          cases hi
          exact ⟨x, h1, w1L_any h3⟩
        | false =>
          rw [hk2] at hi
          have hi : b.L i = some us := hi
          have := hb.L i us hi
          exact ⟨us, by rw [hLn i this.1 (fun hm => by rw [memN_mem.2 hm] at hk2; cases hk2)]; exact hi, w1L_refl fun p hp => in1_mono hQ (this.2 p hp)⟩
  have hTl : ∀ i us, ((headV b V cl c h).over b).L i = some us → ∃ ts, t.L i = some ts ∧ us.tl = ts.tl := by
    refine lay_tl (φ := fun rp rk x => Got ini t rp rk x) (b := b) (V0 := V) (OK := fun i o => ∃ ts, t.L i = some ts ∧ o = ts.tl) ?_ V h _ hall (fun i hi => tl_box hi) ?_ ?_
    · rintro i rk x ⟨cs, P, e1, e2, e3⟩
      simp only [rawR] at e1
      split at e1 <;> first | (cases e1; done) | skip
      rename_i cs0 u l pad hL
      cases e1
      cases rk with
      | run u' pad' =>
        simp only [backK] at e2
        split at e2 <;> first | (cases e2; done) | skip
        rename_i hu
        obtain rfl := Nat.eq_of_beq_eq_true hu
        cases e2
        have hp : pad = pad' := e3 _ rfl
        subst hp
        exact ⟨_, hL, rfl⟩
      | bx v =>
        exfalso
        simp only [backK] at e2
        split at e2 <;> first | (cases e2; done) | skip
        rename_i y hy
        unfold dec at hy
        split at hy <;> first | (cases hy; done) | skip
        rename_i hh hd
        rw [decH_run] at hd
        cases hd
      | _ => exfalso; simp only [backK] at e2; first | (cases e2; done) | (split at e2 <;> first | (cases e2; done) | (rename_i e9 _; cases e9; done) | (rename_i e9; cases e9; done))
    · intro i hi hn
      have hn : (bif memN i (boxV V) then (match b.L i with | some bx => some { bx with cs := bx.cs.map fun _ => (.any : AV S.A) } | none => none) else none) = none := hn
      rw [memN_mem.2 hi] at hn
      cases hb2 : b.L i with
      | none => rfl
      | some x => rw [hb2] at hn; cases hn
    · intro i us hi
      have hi : orE (bif memN i (boxV V) then (match b.L i with | some bx => some { bx with cs := bx.cs.map fun _ => (.any : AV S.A) } | none => none) else none) (b.L i) = some us := hi
      cases hk2 : memN i (boxV V) with
      | true =>
        obtain ⟨x, y, h1, h2, _, h4⟩ := hbx i (memN_mem.1 hk2)
        rw [hk2, h2] at hi
        cases hi
        rcases h4 with h4 | h4
        · exact .inl h4
        · exact .inr ⟨x, h1, h4.symm⟩
      | false =>
        rw [hk2] at hi
        have hi : b.L i = some us := hi
        have := hb.L i us hi
        exact .inr ⟨us, by rw [hLn i this.1 (fun hm => by rw [memN_mem.2 hm] at hk2; cases hk2)]; exact hi, rfl⟩
  refine rel_weak hT hM1 hM2 (fun k => inV_mono hQ (hb.ext k)) hM.1 (fun i us hi => ?_) hr
  obtain ⟨ts, h1, h2⟩ := hM.2 i us hi
  obtain ⟨ts', h1', h2'⟩ := hTl i us hi
  rw [h1] at h1'
  cases h1'
  exact ⟨ts, h1, h2, h2'⟩
theorem slotK_in {Q : Nat → Prop} {rk : RK} {x : rk.ty S.A} (h : ∀ q u, (rk = .own q u ∨ rk = .prv q u) → Q q) : inV Q (slotK rk x) ∧ in1 Q (slotK rk x) ∧ ∀ p ∈ cellsK rk x, in1 Q p := by
  have avin : ∀ (lv : List Leaf) (y : HL S.A lv), ∀ p ∈ avsH lv y, in1 Q p := by
    intro lv
    induction lv with
    | nil => intro y p hp; cases hp
    | cons l lv ih =>
      intro y p hp
      rcases List.mem_cons.1 hp with rfl | hp
      · cases l <;> trivial
      · exact ih _ p hp
  cases rk with
  | own q u => have := h q u (.inl rfl); exact ⟨this, this, fun p hp => by obtain rfl := List.mem_singleton.1 hp; exact this⟩
  | prv q u => have := h q u (.inr rfl); exact ⟨this, this, fun p hp => by obtain rfl := List.mem_singleton.1 hp; exact this⟩
  | ag u => exact ⟨avin _ _, trivial, fun p hp => by obtain rfl := List.mem_singleton.1 hp; trivial⟩
  | bx u => exact ⟨trivial, trivial, avin _ _⟩
  | run u pad => exact ⟨trivial, trivial, fun p hp => by obtain rfl := List.mem_singleton.1 hp; trivial⟩
  | _ => exact ⟨trivial, trivial, fun p hp => by obtain rfl := List.mem_singleton.1 hp; trivial⟩
theorem head_wf {F : Fr S} {b : XS S.A} {c : Nat} {Q Qb : Nat → Prop} {V : RV} {cl : List Nat} {h : HV S.A V} (hb : WF Qb F b) (hc : ∀ n, Qb n → Q n) (ht : ∀ q ∈ tipV V, Q q) (hbx : ∀ i ∈ boxV V, Q i) : WF Q F ((headV b V cl c h).over b) := by
  have hall : AllV (fun rp rk x => (rp, rk) ∈ V) V h := by
    have triv : ∀ (V : RV) (h : HV S.A V), AllV (fun _ _ _ => True) V h := by
      intro V
      induction V with
      | nil => intro h; trivial
      | cons e V ih =>
        obtain ⟨rp, rk⟩ := e
        cases V with
        | nil => intro h; trivial
        | cons y r => intro h; exact ⟨trivial, ih h.2⟩
    exact all_mono (fun rp rk x h => h.2) _ _ (all_mem V h (triv V h))
  have hb' : WF Q F b := hb.mono hc
  refine lay_ind (M := fun u => WF Q F (u.over b)) ?_ V h _ hall ?_
  · intro s rp rk x hm ih
    have hq : ∀ q u, (rk = .own q u ∨ rk = .prv q u) → Q q := fun q u e => by
      rcases e with e | e
      · subst e; exact ht q (tip_mem hm)
      · subst e; exact ht q (tip_memP hm)
    obtain ⟨s1, s2, s3⟩ := slotK_in (Q := Q) (x := x) hq
    have ih' : WF Q F ((tipS s rk x).over b) := by
      cases rk with
      | own q u => show WF _ F ((s.setT q _ _).over b); rw [over_setT]; exact ih.setT (hq q u (.inl rfl))
      | prv q u => show WF _ F ((s.setP q _ _ _).over b); rw [over_setP]; exact ih.setP (hq q u (.inr rfl))
      | _ => exact ih
    rw [layK_eq]
    have here : ∀ {i : Nat} {ps : Bx S.A}, (tipS s rk x).L i = some ps → ((tipS s rk x).over b).L i = some ps := by
      intro i ps hps
      show orE ((tipS s rk x).L i) _ = _
      rw [hps]; rfl
    cases rp with
    | sl d => simp only []; rw [over_put]; exact ih'.put s1
    | bx i =>
      simp only []
      split
      · rename_i ps hps; rw [over_setL]; exact ih'.setL (hbx i (box_mem (.inl rfl) hm)) s3
      · exact ih'
    | tl i =>
      simp only []
      split
      · rename_i ps hps; rw [over_setL]; exact ih'.setL (hbx i (box_mem (.inr (.inr rfl)) hm)) (ih'.L i ps (here hps)).2
      · exact ih'
    | ce i j =>
      simp only []
      split
      · rename_i ps hps
        rw [over_setL]
        refine ih'.setL (hbx i (box_mem (.inr (.inl ⟨j, rfl⟩)) hm)) fun p hp => ?_
        rcases List.mem_or_eq_of_mem_set hp with hp | rfl
        · exact (ih'.L i ps (here hps)).2 p hp
        · exact s2
      · exact ih'
  · refine ⟨fun k => ?_, fun i ps hi => ?_, fun q x hq => hb'.T q x hq, hb'.ext⟩
    · unfold getN
      cases hk : Nat.blt k F.N with
      | false => trivial
      | true =>
        simp only [cond_true]
        rw [over_get]
        simp only
        cases memN k (slotsV V ++ cl) with
        | true => trivial
        | false => exact hb'.get hk
    · have hi : orE (bif memN i (boxV V) then (match b.L i with | some bx => some { bx with cs := bx.cs.map fun _ => (.any : AV S.A) } | none => none) else none) (b.L i) = some ps := hi
      cases hk : memN i (boxV V) with
      | false => rw [hk] at hi; exact hb'.L i ps hi
      | true =>
        rw [hk] at hi
        cases hb2 : b.L i with
        | none => rw [hb2] at hi; cases hi
        | some qs =>
          rw [hb2] at hi
          cases hi
          exact ⟨(hb'.L i qs hb2).1, fun p hp => by obtain ⟨_, _, rfl⟩ := List.mem_map.1 hp; trivial⟩
end weak
end Go.Rx
