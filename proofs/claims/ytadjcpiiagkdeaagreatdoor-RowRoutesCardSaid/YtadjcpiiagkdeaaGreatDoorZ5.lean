import Derived.Test.YtadjcpiiagkdeaaGreatDoorZ4
import Derived.Recover
import Derived.Test.YtadjcpiiagkdeaaGreatDoorProg
import Derived.KernelRfl
import Derived.Lib.LaidTab
import Derived.Lib.ItoaNum
import Derived.Lib.AtoiAll
import Derived.Lib.ParseIntB
import Derived.Lib.Bytealg
import Derived.Test.YtadjcpiiagkdeaaGreatDoorRows
import Derived.OpenShut
import Derived.ProofKit
import Derived.LaidMore
import Derived.Lay
import GoSem.ClaimJoined
import Derived.JoinedTies
import Derived.ChangeArms
import Derived.Stop.LaidErr
import Derived.Lib.Itoa
import Derived.Lib.ItoaMem
import Derived.Lib.Strings
set_option linter.unusedVariables false
set_option linter.unusedSimpArgs false
/-! Code is sound. -/
namespace Go.Rx
open Go.Ab Go.RowKit
set_option linter.unusedVariables false
set_option linter.unusedSimpArgs false
/-! ### Loops -/
def LoopIn (P : Program) (c : Code) (Q : Exit → Act → World → Prop) (a : Act) (w : World) : Prop :=
  ∀ b k cs, ∃ e a' w', Q e a' w' ∧ Arrives P (lone (b.at a (.code c :: .inLoop c :: k)) cs w) b k cs e a' w'
theorem loopIn_wp {P : Program} {c : Code} {Q : Exit → Act → World → Prop} {a : Act} {w : World} (h : LoopIn P c Q a w) : (Code.loop c).wp P Q a w := by
  intro b k cs
  obtain ⟨e, a', w', hq, harr⟩ := h b k cs
  exact ⟨e, a', w', hq, .of_steps (.one step_loop) harr⟩
theorem loopIn_step {P : Program} {c : Code} {Q : Exit → Act → World → Prop} {a : Act} {w : World} (h : c.wp P (Exit.then (LoopIn P c Q) Q) a w) : LoopIn P c Q a w := by
  intro b k cs
  obtain ⟨e, a₁, w₁, hq, harr⟩ := h b (.inLoop c :: k) cs
  cases e with
  | normal =>
    obtain ⟨e₂, a₂, w₂, hq₂, harr₂⟩ := hq b k cs
    exact ⟨e₂, a₂, w₂, hq₂, .of_steps (Steps.trans harr (.one step_inLoop)) harr₂⟩
  | exit id => exact ⟨_, a₁, w₁, hq, .pass (x := .inLoop c) rfl (fun _ _ => .inl (by simp)) harr⟩
  | goto l => exact ⟨_, a₁, w₁, hq, .pass (x := .inLoop c) rfl (fun _ _ => .inl (by simp)) harr⟩
  | ret => exact ⟨_, a₁, w₁, hq, .pass (x := .inLoop c) rfl (fun _ _ => .inl (by simp)) harr⟩
  | panic ch => exact ⟨_, a₁, w₁, hq, .pass (x := .inLoop c) rfl (fun _ _ => .inl (by simp)) harr⟩
  | outgrown => exact ⟨_, a₁, w₁, hq, .pass (x := .inLoop c) rfl (fun _ _ => .inl (by simp)) harr⟩
section code
variable {S : Sys} {C : Cfg S} {call : XS S.A → CallT S} {B : Base} {F : Fr S} {K0 : Nat → Prop} {l0 : Nat}
structure Ok (C : Cfg S) (call : XS S.A → CallT S) : Prop where
  cm : ∀ b f args m k k' kp kp', (∀ r m, k r m → k' r m) → (∀ r m, kp r m → kp' r m) → call b f args m k kp → call b f args m k' kp'
  km : ∀ f W, Ab.look C.K f = some (.tr W) → ∀ args k k', (∀ r, k r → k' r) → W args k → W args k'
  ok : ∀ b, CallOk C.P b (call b)
  K : ∀ f W, Ab.look C.K f = some W → ConOk C.P f W
  mx : C.P.follows .mixedOrders = true
theorem Ok.rg (hC : Ok C call) (an : List (Nat × Ann)) (i : Nat) (d : Bool) : Ok (C.rg an i d) call := ⟨hC.cm, hC.km, hC.ok, hC.K, hC.mx⟩
theorem Rel.pay {σ : St} {g : Gh} {a : Act} {w : World} (hr : Rel B σ g a w) (p : PV) : Rel B { σ with pay := p } g a w :=
  ⟨hr.size, hr.env, hr.defers, hr.imm, hr.box, hr.apart, hr.tip, hr.tips, hr.boxtip, hr.below, hr.immle, hr.immnew, hr.pin, hr.prv⟩
theorem tok_refl {Q : Nat → Prop} {T : Nat → Option (Nat × Nat)} (h : ∀ q x, T q = some x → Q q) : TOk Q (fun _ => false) T T :=
  ⟨fun n h => by (cases h), fun _ _ => rfl, fun q x hx => .inl (h q x hx)⟩
/-- Guards are forgotten. -/
theorem clear_weak {b M s : XS S.A} {D : List Nat} {kn : Kn} {Q : Nat → Prop} {g : Gh} {a : Act} {w : World} (hb : ∀ k, noG (getN F.N b k)) (h : Mg F.N b D kn M s) (hw : WF Q F (s.over b)) (hr : Rel B (den F (s.over b)) g a w) :
    WF Q F ((clearG M).over b) ∧ Rel B (den F ((clearG M).over b)) (unτ (fun _ => false) g) a w := by
  have hL : ((clearG M).over b).L = (s.over b).L := h.overL
  have hT : ((clearG M).over b).T = (s.over b).T := h.overT
  have hcl : ∀ k, ((clearG M).over b).get k = (match M.env k with | some (.grd _ _ _) => .any | some p => p | none => b.get k) := by
    intro k
    rw [over_get]
    unfold clearG
    simp only
    cases M.env k with
    | none => rfl
    | some p => cases p <;> rfl
  have key : ∀ k, Nat.blt k F.N = true → Wv Q (fun _ => false) (denTT (s.over b).T) ((s.over b).get k) (((clearG M).over b).get k) ∧ inV Q (((clearG M).over b).get k) := by
    intro k hk
    have h1 := h.slot k
    have hin := hw.get hk
    unfold getN at h1
    rw [hk] at h1
    simp only [cond_true] at h1
    rw [hcl]
    rw [over_get M b] at h1
    cases hm : M.env k with
    | none =>
      rw [hm] at h1
      simp only at h1 ⊢
      have hbk : noG (b.get k) := by have := hb k; unfold getN at this; rw [hk] at this; exact this
      revert h1 hbk
      generalize b.get k = m
      intro h1 hbk
      cases m with
      | grd g w p => exact hbk.elim
      | _ => have h1 : (s.over b).get k = _ := h1; rw [h1] at hin ⊢; exact ⟨.same _ hin, hin⟩
    | some m =>
      rw [hm] at h1
      cases m with
      | grd g w p => exact ⟨.one (.any _) rfl, trivial⟩
      | _ => have h1 : (s.over b).get k = _ := h1; rw [h1] at hin ⊢; exact ⟨.same _ hin, hin⟩
  have hc : (clearG M).c = s.c := h.c
  refine ⟨?_, ?_⟩
  · refine ⟨fun k => ?_, fun i ps hi => hw.L i ps (by rw [← hL]; exact hi), fun q x hq => hw.T q x (by rw [← hT]; exact hq), hw.ext⟩
    unfold getN
    cases hk : Nat.blt k F.N with
    | false => trivial
    | true => exact (key k hk).2
  · have hTT : ∀ q x, denTT (s.over b).T q = some x → Q q := fun q x hx => by
      unfold denTT at hx
      cases hs : (s.over b).T q with
      | none => rw [hs] at hx; cases hx
      | some y => exact hw.T q y hs
    have hMM : ∀ q ps, denM (s.over b).T q = some ps → Q q := fun q ps hx => by
      rw [denM_eq] at hx
      cases hs : (s.over b).T q with
      | none => rw [hs] at hx; cases hx
      | some y => exact hw.T q y hs
    refine rel_weak (Q := Q) (by rw [hT]; exact tok_refl hTT) (fun q _ => by rw [hT]) (fun q ps h => by rw [hT] at h; exact .inl (hMM q ps h)) hw.ext (fun k hk => by rw [hT]; exact (key k hk).1) (fun i us hi => ?_) hr
    rw [hL] at hi
    exact ⟨us, hi, w1L_refl (hw.L i us hi).2, rfl⟩
variable {b s : XS S.A} {Φ : XE S.A → XS S.A → Prop} {lo : Nat}
/-- What a region wrote is forgotten. -/
theorem frg_get {s : XS S.A} {ds : List Nat} {e0 : Nat → Option (AV S.A)} (he : ∀ j, j ∉ ds → s.env j = e0 j) (k : Nat) : ((s.frg ds e0).over b).get k = bif memN k ds then .any else (s.over b).get k := by
  rw [over_get, over_get]
  show (match (bif memN k ds then some .any else e0 k : Option (AV S.A)) with | some p => p | none => b.get k) = _
  cases hm : memN k ds with
  | true => rfl
  | false => rw [cond_false, ← he k (fun hi => by rw [memN_mem.2 hi] at hm; cases hm)]; rfl
theorem frg_wf {Q : Nat → Prop} {s : XS S.A} {ds : List Nat} {e0 : Nat → Option (AV S.A)} (he : ∀ j, j ∉ ds → s.env j = e0 j) (hw : WF Q F (s.over b)) : WF Q F ((s.frg ds e0).over b) := by
  refine ⟨fun k => ?_, hw.L, hw.T, hw.ext⟩
  have h := hw.env k
  unfold getN at h ⊢
  rw [frg_get he]
  cases hk : Nat.blt k F.N with
  | false => trivial
  | true =>
    rw [hk] at h
    cases hm : memN k ds with
    | true => trivial
    | false => exact h
theorem frg_rel {s : XS S.A} {ds : List Nat} {e0 : Nat → Option (AV S.A)} {g : Gh} {a : Act} {w : World} (he : ∀ j, j ∉ ds → s.env j = e0 j) (hr : Rel B (den F (s.over b)) g a w) : Rel B (den F ((s.frg ds e0).over b)) g a w := by
  refine ⟨hr.size, fun k => ?_, hr.defers, hr.imm, hr.box, hr.apart, hr.tip, hr.tips, hr.boxtip, hr.below, hr.immle, hr.immnew, hr.pin, hr.prv⟩
  have h := hr.env k
  have h : Rep (denTT (s.over b).T) g (cond (Nat.blt k F.N) (denV ((s.over b).get k)) (denV (F.ext k))) (a.tmps.getD k (B.ext k)) := h
  show Rep (denTT (s.over b).T) g (cond (Nat.blt k F.N) (denV (((s.frg ds e0).over b).get k)) (denV (F.ext k))) (a.tmps.getD k (B.ext k))
  rw [frg_get he]
  cases hk : Nat.blt k F.N with
  | false => rw [hk] at h; exact h
  | true =>
    rw [hk] at h
    cases hm : memN k ds with
    | true => trivial
    | false => exact h
theorem dsts_mem {ops : List Oper} {o : Oper} {x : Nat} (h : o ∈ ops) (hx : o.dst = some x) : x ∈ dstsOf ops := List.mem_filterMap.2 ⟨o, h, hx⟩
theorem fin_normal {s' : XS S.A} {g : Gh} {a : Act} {w : World} (hb : ∀ k, noG (getN F.N b k)) (h : ∃ M D kn, Mg F.N b D kn M s' ∧ Φ .normal (clearG M)) (hc : lo ≤ s'.c) (hw : WF (Bd K0 l0 s'.c) F (s'.over b)) (hr : Rel B (den F (s'.over b)) g a w) : lift B (LΦ K0 l0 F b lo Φ) .normal a w := by
  obtain ⟨M, D, kn, hm, hΦ⟩ := h
  obtain ⟨h1, h2⟩ := clear_weak hb hm hw hr
  have hcc : (clearG M).c = s'.c := hm.c
  exact ⟨_, _, h2, ⟨clearG M, by omega, by rw [hcc]; exact h1, rfl, hΦ⟩, trivial⟩
theorem fin_panic {ds : List Nat} {e0 : Nat → Option (AV S.A)} {s' : XS S.A} {p : AV S.A} {g : Gh} {a : Act} {w : World} {v : Value} (h : Φ (.panic p) (s'.frg ds e0)) (he : ∀ j, j ∉ ds → s'.env j = e0 j) (hc : lo ≤ s'.c) (hw : WF (Bd K0 l0 s'.c) F (s'.over b)) (hp : inV (Bd K0 l0 s'.c) p) (hr : Rel B (den F (s'.over b)) g a w) (hv : Rep (denTT (s'.over b).T) g (denV p) v) : lift B (LΦ K0 l0 F b lo Φ) (.panic [{ v, recovered := false }]) a w :=
  ⟨_, g, Rel.pay (frg_rel he hr) (denV p), ⟨s'.frg ds e0, hc, frg_wf he hw, p, rfl, hp, h⟩, v, rfl, hv⟩
theorem seq_sound {ds : List Nat} {e0 : Nat → Option (AV S.A)} (hK0 : ∀ n, K0 n → n < l0) (hC : Ok C call) (hpin : POk S B) {ops : Array Oper} {kS : XS S.A → Prop} (hkS : ∀ s' g a w, kS s' → lo ≤ s'.c → WF (Bd K0 l0 s'.c) F (s'.over b) → Rel B (den F (s'.over b)) g a w → lift B (LΦ K0 l0 F b lo Φ) .normal a w) (hl0 : l0 ≤ lo) :
    ∀ (l : List Oper) (i : Nat) (s : XS S.A), (∀ o ∈ l, ∀ x, o.dst = some x → x ∈ ds) → (∀ j, j ∉ ds → s.env j = e0 j) → runS C F.N (call b) b ops.toList (fun _ s => s.c) (fun s => { s with c := s.c + 1 }) (fun p s => Φ (.panic p) (s.frg ds e0)) (numd i l) s kS → lo ≤ s.c → WF (Bd K0 l0 s.c) F (s.over b) → AL C.P B ops (LΦ K0 l0 F b lo Φ) l (den F (s.over b))
  | [], i, s, _, _, h, hc, hw => fun g a w hr => hkS s g a w h hc hw hr
  | o :: l, i, s, hds, he, h, hc, hw => by
    intro g a w hr
    refine wpList_step fun K hK => ?_
    refine step_sound (hC.ok b) hC.K hpin (Q := Bd K0 l0 s.c) (id := s.c) (fun n hn => hn.lt hK0 (Nat.le_trans hl0 hc)) (fun hn => Nat.lt_irrefl _ (hn.lt hK0 (Nat.le_trans hl0 hc))) hw (step_env (hC.cm b) hC.km (hds o (by simp)) he h) hr K _ ?_ ?_
    · rintro a' w' ⟨s', g', ⟨h1, h1e⟩, h2, h3, h4⟩
      refine hK _ _ (seq_sound hK0 hC hpin hkS hl0 l (i + 1) { s' with c := s'.c + 1 } (fun o ho => hds o (by simp [ho])) h1e h1 (by show lo ≤ s'.c + 1; omega) ?_ g' a' w' h4)
      refine WF.setc (h3.mono fun n hn => ?_) _
      show Bd K0 l0 (s'.c + 1) n
      rcases hn with (hn | hn) | hn
      · exact hn.up (by omega)
      · exact .inr ⟨by omega, by omega⟩
      · exact .inr ⟨by omega, by omega⟩
    · rintro e a' w' ⟨ch, rfl, p, s', g', v, ⟨h1, h1e⟩, h2, h3, h4, h5, rfl, h6⟩
      have hle : ∀ n, Bd K0 l0 s.c n ∨ s.c ≤ n ∧ n < s'.c → Bd K0 l0 s'.c n := by
        rintro n (hn | hn)
        · exact hn.up h2
        · exact .inr ⟨by omega, hn.2⟩
      exact fin_panic h1 h1e (by omega) (h3.mono hle) (inV_mono hle h4) h5 h6
theorem noG_in {Q : Nat → Prop} {p : AV S.A} (h : inV Q p) : noG p := by cases p <;> first | trivial | exact h
theorem mg0 {s : XS S.A} (h : ∀ k, noG (getN F.N (s.over b) k)) : Mg F.N b [] (fun _ => none) s s :=
  ⟨rfl, rfl, rfl, fun k => slot_eq (h k), fun k g w p e => by have := h k; rw [e] at this; exact this.elim, fun g v e => by cases e⟩
theorem reg_sound (hK0 : ∀ n, K0 n → n < l0) (hC : Ok C call) (hpin : POk S B) {an : List (Nat × Ann)} {rid : Nat} {ops : Array Oper} {draw : Bool} (hb : ∀ k, noG (getN F.N b k)) (hl0 : l0 ≤ s.c) (hw : WF (Bd K0 l0 s.c) F (s.over b)) (h : Xc C an F.N call (.region rid ops draw) b s Φ) : AW C.P B (.region rid ops draw) (LΦ K0 l0 F b s.c Φ) (den F (s.over b)) := by
  have hng : ∀ k, noG (getN F.N (s.over b) k) := fun k => noG_in (hw.env k)
  have hΦ : ∀ p (M' s' : XS S.A), M'.L = s'.L → M'.T = s'.T → M'.c = s'.c → Φ (.panic p) (M'.frg (dstsOf ops.toList) s.env) → Φ (.panic p) (s'.frg (dstsOf ops.toList) s.env) := by
    rintro p ⟨e1, L1, T1, c1⟩ ⟨e2, L2, T2, c2⟩ h1 h2 h3 h
    simp only at h1 h2 h3
    subst h1 h2 h3
    exact h
  cases draw with
  | false =>
    simp only [Xc] at h
    cases hok : regOk ops.toList [] (numd 0 ops.toList) with
    | false => rw [hok] at h; exact h.elim
    | true =>
      rw [hok] at h
      simp only [Bool.not_true, cond_false] at h
      refine aw_region (P := (C.rg an rid false).P) ?_
      refine seq_sound (C := C.rg an rid false) hK0 (hC.rg an rid false) hpin (kS := fun s' => ∃ M D kn, Mg F.N b D kn M s' ∧ Φ .normal (clearG M)) (fun s' g a w h hc hw hr => fin_normal hb h hc hw hr) hl0 ops.toList 0 s (fun o ho x hx => dsts_mem ho hx) (fun j _ => rfl) ?_ (Nat.le_refl _) hw
      exact run_mg (C := C.rg an rid false) (hC.cm b) hC.km hΦ (fun i M s e => e) (fun D kn M s h => h.mem2 (M' := { M with c := M.c + 1 }) (s' := { s with c := s.c + 1 }) rfl rfl h.L h.T (by show M.c + 1 = s.c + 1; rw [h.c])) (fun D kn M s h hk => ⟨M, D, kn, h, hk⟩) _ [] (fun _ => none) s s hok (mg0 hng) h
  | true =>
    simp only [Xc] at h
    rcases Bool.eq_false_or_eq_true (lookW an rid) with hW | hW
    · rw [hW] at h
      simp only [cond_true] at h
      rcases Bool.eq_false_or_eq_true ((numd 0 ops.toList).all (fun x => (depsN x.2).all fun j => Nat.blt j x.1)) with hbk | hbk
      · rw [hbk] at h
        exact drawA_sound (C := C.rg an rid false) (s := { s with c := s.c + ops.toList.length }) (c0 := s.c) (hC.cm b) hC.km rfl hC.mx (hC.ok b) hC.K hpin hK0 hl0 (by show s.c + ops.toList.length = s.c + ops.size; simp) ⟨hw.env, hw.L, hw.T, hw.ext⟩ hbk (ds := dstsOf ops.toList) (e0 := s.env) (fun i o ho x hx => dsts_mem (by have := List.mem_of_getElem? (l := ops.toList) (i := i) (a := o) (by simpa using ho); exact this) hx) (fun j _ => rfl) h
          (fun s' g a w h hc hw hr => ⟨_, g, hr, ⟨s', hc, hw, rfl, h⟩, trivial⟩) (fun p s' g a w v h he hc hw hp hr hv => fin_panic h he hc hw hp hr hv)
      · rw [hbk] at h; exact h.elim
    rw [hW] at h
    simp only [cond_false] at h
    split at h
    · rename_i E t hE
      rcases Bool.eq_false_or_eq_true ((numd 0 ops.toList).all (fun x => (depsN x.2).all fun j => Nat.blt j x.1) && (eagOk (C.rg an rid true) ops.toList E && schOk E false t (numd 0 ops.toList))) with hbk | hbk
      · rw [hbk] at h
        rw [Bool.and_eq_true, Bool.and_eq_true] at hbk
        exact drawH_sound (C := C.rg an rid true) (s := { s with c := s.c + ops.toList.length }) (c0 := s.c) (hC.cm b) hC.km hΦ rfl rfl hC.mx (hC.ok b) hC.K hpin hK0 hl0 (by show s.c + ops.toList.length = s.c + ops.size; simp) ⟨hw.env, hw.L, hw.T, hw.ext⟩ hbk.1 (hE := hbk.2.1) (hS := hbk.2.2) (ds := dstsOf ops.toList) (e0 := s.env) (fun i o ho x hx => dsts_mem (by have := List.mem_of_getElem? (l := ops.toList) (i := i) (a := o) (by simpa using ho); exact this) hx) (fun j _ => rfl) h
          (fun s' g a w h hc hw hr => ⟨_, g, hr, ⟨s', hc, hw, rfl, h⟩, trivial⟩) (fun p s' g a w v h he hc hw hp hr hv => fin_panic h he hc hw hp hr hv)
      · rw [hbk] at h; exact h.elim
    generalize hπ : canon ops.toList.length [] (numd 0 ops.toList) = π at h
    cases hok : (drawnOk (C.rg an rid true) ops.toList π && regOk ops.toList [] π) with
    | false => rw [hok] at h; exact h.elim
    | true =>
      rw [hok] at h
      rw [Bool.and_eq_true] at hok
      simp only [cond_true] at h
      have hrun := run_mg (C := C.rg an rid true) (hC.cm b) hC.km hΦ (idf := fun i _ => s.c + i) (nx := fun s => s) (kS := fun s' => ∃ M D kn, Mg F.N b D kn M s' ∧ Φ .normal (clearG M)) (fun i M s e => rfl) (fun D kn M s h => h) (fun D kn M s h hk => ⟨M, D, kn, h, hk⟩) π [] (fun _ => none) { s with c := s.c + ops.toList.length } { s with c := s.c + ops.toList.length } hok.2 (mg0 hng) h
      exact draw_sound (C := C.rg an rid true) (s := { s with c := s.c + ops.toList.length }) (c0 := s.c) (hC.cm b) hC.km hΦ rfl rfl hC.mx (hC.ok b) hC.K hpin hK0 hl0 (by show s.c + ops.toList.length = s.c + ops.size; simp) ⟨hw.env, hw.L, hw.T, hw.ext⟩ hok.1 (fun x hx => canon_mem (hπ ▸ hx)) (ds := dstsOf ops.toList) (e0 := s.env) (fun i o ho x hx => dsts_mem (by have := List.mem_of_getElem? (l := ops.toList) (i := i) (a := o) (by simpa using ho); exact this) hx) (fun j _ => rfl) hrun
        (fun s' g a w h hc hw hr => fin_normal hb h hc hw hr) (fun p s' g a w v h he hc hw hp hr hv => fin_panic h he hc hw hp hr hv)
/-! ### What varies -/
theorem over_over (s' s b : XS S.A) : (s'.over s).over b = s'.over (s.over b) := by
  refine xs_ext (fun k => ?_) (fun k => ?_) (fun k => ?_) rfl
  · show orE (orE (s'.env k) (s.env k)) (b.env k) = orE (s'.env k) (orE (s.env k) (b.env k))
    cases s'.env k <;> rfl
  · show orE (orE (s'.L k) (s.L k)) (b.L k) = orE (s'.L k) (orE (s.L k) (b.L k))
    cases s'.L k <;> rfl
  · show orE (orE (s'.T k) (s.T k)) (b.T k) = orE (s'.T k) (orE (s.T k) (b.T k))
    cases s'.T k <;> rfl
theorem onlyB_spec {α : Type} {N : Nat} {ds : List Nat} {f : Nat → Option α} (h : onlyB N ds f = true) {k : Nat} (hk : k < N) (hd : k ∉ ds) : f k = none := by
  have := List.all_eq_true.1 h k (List.mem_range.2 hk)
  cases hf : f k with
  | none => rfl
  | some x => rw [hf] at this; exact absurd (memN_mem.1 this) hd
theorem box_ent {i : Nat} : ∀ {V : RV}, i ∈ boxV V → ∃ rp rk, (rp, rk) ∈ V ∧ BoxAt rp i
  | (rp, rk) :: V, h => by
    have go : i ∈ boxV V → ∃ rp' rk', (rp', rk') ∈ (rp, rk) :: V ∧ BoxAt rp' i := fun h => by
      obtain ⟨rp, rk, h1, h2⟩ := box_ent (V := V) h; exact ⟨rp, rk, List.mem_cons_of_mem _ h1, h2⟩
    cases rp with
    | sl d => exact go h
    | ce x j =>
      rcases List.mem_cons.1 h with rfl | h
      · exact ⟨_, _, List.mem_cons_self, .inr (.inl ⟨j, rfl⟩)⟩
      · exact go h
    | bx x =>
      rcases List.mem_cons.1 h with rfl | h
      · exact ⟨_, _, List.mem_cons_self, .inl rfl⟩
      · exact go h
    | tl x =>
      rcases List.mem_cons.1 h with rfl | h
      · exact ⟨_, _, List.mem_cons_self, .inr (.inr rfl)⟩
      · exact go h
theorem tip_ent {q : Nat} : ∀ {V : RV}, q ∈ tipV V → ∃ rp rk, (rp, rk) ∈ V ∧ ∃ u, rk = RK.own q u ∨ rk = RK.prv q u
  | (rp, rk) :: r, h => by
    have later : q ∈ tipV r → ∃ rp' rk', (rp', rk') ∈ (rp, rk) :: r ∧ ∃ u, rk' = RK.own q u ∨ rk' = RK.prv q u := fun h => by
      obtain ⟨rp', rk', hm, hu⟩ := tip_ent h
      exact ⟨rp', rk', List.mem_cons_of_mem _ hm, hu⟩
    cases rk with
    | own q' u =>
      rcases List.mem_cons.1 h with rfl | h
      · exact ⟨rp, _, List.mem_cons_self, u, .inl rfl⟩
      · exact later h
    | prv q' u =>
      rcases List.mem_cons.1 h with rfl | h
      · exact ⟨rp, _, List.mem_cons_self, u, .inr rfl⟩
      · exact later h
    | _ => exact later h
/-- A list of its own that a value is. -/
def OQ (Q : Nat → Prop) : AV S.A → Prop
  | .own k _ _ => Q k
  | .prv k _ _ => Q k
  | _ => True
theorem oq_inV {Q : Nat → Prop} {p : AV S.A} (h : inV Q p) : OQ Q p := by cases p <;> first | exact h | trivial
theorem oq_in1 {Q : Nat → Prop} {p : AV S.A} (h : in1 Q p) : OQ Q p := by cases p <;> first | exact h | trivial
theorem all_of {φ : RPl → (rk : RK) → rk.ty S.A → Prop} {rp : RPl} {rk : RK} : ∀ {V : RV} {h : HV S.A V}, AllV φ V h → (rp, rk) ∈ V → ∃ x, φ rp rk x
  | [], _, _, hm => by cases hm
  | [(rp', rk')], x, ha, hm => by obtain e := List.mem_singleton.1 hm; cases e; exact ⟨x, ha⟩
  | (rp', rk') :: y :: r, h, ha, hm => by
    rcases List.mem_cons.1 hm with e | hm
    · cases e; exact ⟨_, ha.1⟩
    · exact all_of (V := y :: r) ha.2 hm
theorem rawAt_spec {N : Nat} {β : XS S.A} {Q : Nat → Prop} (hw : WF Q F β) (hN : N = F.N) {pl : Pl} {rp : RPl} {cs : List (AV S.A)} (h : rawAt N β pl = some (rp, cs)) : rawR β rp = some cs ∧ (∀ d, rp = .sl d → Nat.blt d N = true) ∧ (∀ i, BoxAt rp i → Q i) ∧ ∀ p, cs = [p] → OQ Q p := by
  subst hN
  have one : ∀ {rp : RPl} {x : Nat}, (rp = .bx x ∨ (∃ j, rp = .ce x j) ∨ rp = .tl x) → Q x → ∀ i, BoxAt rp i → Q i := by
    rintro rp x h1 h2 i h3
    rcases h1 with rfl | ⟨j, rfl⟩ | rfl <;> rcases h3 with e | ⟨j', e⟩ | e <;> cases e <;> exact h2
  cases pl with
  | sl d =>
    simp only [rawAt] at h
    cases hd : Nat.blt d F.N with
    | false => rw [hd] at h; cases h
    | true =>
      rw [hd] at h
      cases h
      refine ⟨rfl, fun d' e => (by cases e; exact hd), fun i e => (by rcases e with e | ⟨j, e⟩ | e <;> cases e), fun p e => ?_⟩
      have := hw.get hd
      have e : β.get d = p := (List.cons.inj e).1
      rw [e] at this
      exact oq_inV this
  | ce d i =>
    simp only [rawAt] at h
    split at h <;> first | (cases h; done) | skip
    rename_i x hx
    split at h <;> first | (cases h; done) | skip
    rename_i ps hps
    split at h <;> first | (cases h; done) | skip
    rename_i p hp
    cases h
    have hL := hw.L x ps hps
    refine ⟨by simp only [rawR, hps, hp], fun d' e => (by cases e), one (.inr (.inl ⟨i, rfl⟩)) hL.1, fun p' e => ?_⟩
    have := hL.2 p (List.mem_of_getElem? hp)
    have e : p = p' := (List.cons.inj e).1
    rw [e] at this
    exact oq_in1 this
  | bx d =>
    simp only [rawAt] at h
    split at h <;> first | (cases h; done) | skip
    rename_i x hx
    split at h <;> first | (cases h; done) | skip
    rename_i ps hps
    cases h
    have hL := hw.L x _ hps
    refine ⟨by simp only [rawR, hps], fun d' e => (by cases e), one (.inl rfl) hL.1, fun p e => ?_⟩
    have := hL.2 p (by rw [e]; simp)
    exact oq_in1 this
  | tl d =>
    simp only [rawAt] at h
    split at h <;> first | (cases h; done) | skip
    rename_i x hx
    split at h <;> first | (cases h; done) | skip
    rename_i cs u l pad hps
    cases h
    have hL := hw.L x _ hps
    refine ⟨by simp only [rawR, hps], fun d' e => (by cases e), one (.inr (.inr rfl)) hL.1, fun p e => ?_⟩
    rw [← (List.cons.inj e).1]; trivial
theorem initV_spec {N : Nat} {β : XS S.A} {Q : Nat → Prop} (hw : WF Q F β) (hN : N = F.N) : ∀ {V0 : List (Pl × LK)} {id : Nat} {V : RV}, initV N β id V0 = some V → ∀ rp rk, (rp, rk) ∈ V → (∃ cs, rawR β rp = some cs ∧ (∀ p, cs = [p] → OQ Q p)) ∧ (∀ d, rp = .sl d → Nat.blt d N = true) ∧ (∀ i, BoxAt rp i → Q i) ∧ (∀ q u, (rk = .own q u ∨ rk = .prv q u) → Q q ∨ (id ≤ q ∧ q < id + V.length))
  | [], id, V, h => by cases h; intro rp rk hm; cases hm
  | (pl, lk) :: r, id, V, h => by
    simp only [initV] at h
    split at h <;> first | cases h | skip
    rename_i rp0 cs0 hraw
    split at h <;> first | cases h | skip
    rename_i rk0 V' hk hV'
    obtain ⟨s1, s2, s3, s4⟩ := rawAt_spec hw hN hraw
    intro rp rk hm
    rcases List.mem_cons.1 hm with e | hm
    · cases e
      refine ⟨⟨cs0, s1, s4⟩, s2, s3, fun q u e => ?_⟩
      unfold initK at hk
      split at hk <;> first | (cases hk; done) | skip
      all_goals (cases hk; rcases e with e | e <;> cases e)
      · exact .inr ⟨Nat.le_refl _, by simp only [List.length_cons]; omega⟩
      · exact .inl (s4 _ rfl)
      · exact .inr ⟨Nat.le_refl _, by simp only [List.length_cons]; omega⟩
      · exact .inl (s4 _ rfl)
    · obtain ⟨k1, k2, k3, k4⟩ := initV_spec hw hN hV' rp rk hm
      refine ⟨k1, k2, k3, fun q u e => (k4 q u e).imp (fun h => h) fun h => ?_⟩
      simp only [List.length_cons]
      omega
theorem lay_c : ∀ (V : RV) (h : HV S.A V) (s : XS S.A), (layV s V h).c = s.c
  | [], _, s => rfl
  | [(rp, rk)], x, s => by
    show (layK s rp rk x).c = s.c
    rw [layK_eq]
    have := (tipS_env s rk x).2.2
    cases rp with
    | sl d => exact this
    | bx i => simp only []; split <;> exact this
    | tl i => simp only []; split <;> exact this
    | ce i j => simp only []; split <;> exact this
  | (rp, rk) :: y :: r, h, s => by
    show (layV (layK s rp rk h.1) (y :: r) h.2).c = s.c
    rw [lay_c (y :: r) h.2, layK_eq]
    have := (tipS_env s rk h.1).2.2
    cases rp with
    | sl d => exact this
    | bx i => simp only []; split <;> exact this
    | tl i => simp only []; split <;> exact this
    | ce i j => simp only []; split <;> exact this
theorem withP_iff {p : Option Prop} {q : Prop} (h : withP p q) : (∀ r, p = some r → r) ∧ q := by
  cases p with
  | none => exact ⟨fun r e => (by cases e), h⟩
  | some p => exact ⟨fun r e => (by cases e; exact h.1), h.2⟩
section heads
variable {β : XS S.A} {c0 : Nat} {V0 : List (Pl × LK)} {V : RV} {cl : List Nat}
theorem owns_sub {e : RPl × RK} : ∀ {V : RV}, e ∈ ownsV V → e ∈ V
  | (rp, rk) :: V, h => by
    cases rk with
    | own q t =>
      rcases List.mem_cons.1 h with rfl | h
      · exact List.mem_cons_self
      · exact List.mem_cons_of_mem _ (owns_sub h)
    | prv q t =>
      rcases List.mem_cons.1 h with rfl | h
      · exact List.mem_cons_self
      · exact List.mem_cons_of_mem _ (owns_sub h)
    | _ => exact List.mem_cons_of_mem _ (owns_sub (V := V) h)
/-- Into a head. -/
theorem head_init {V' : RV} {c : Nat} (hsub : ∀ e, e ∈ V' → e ∈ V) (hK0 : ∀ n, K0 n → n < l0) (hl0 : l0 ≤ c0) (hw : WF (Bd K0 l0 c0) F β) (hV : initV F.N β c0 V0 = some V) {p0 : Option Prop} {x0 : HV S.A V'} (hx : backV (some c0) β V' = some (p0, x0)) (hp : ∀ r, p0 = some r → r) {g : Gh} {a : Act} {w : World} (hr : Rel B (den F β) g a w) :
    ∃ g', Rel B (den F ((headV β V' cl c x0).over β)) g' a w := by
  have hall := back_all V' p0 x0 hx hp
  have spec := initV_spec hw rfl hV
  refine ⟨_, head_weak (ini := some c0) (Q := Bd K0 l0 c0) (fr := fun n => Nat.ble c0 n) hw (fun n h => h) (fun n h hn => by have := Nat.le_of_ble_eq_true h; have := hn.lt hK0 hl0; omega) hall (fun c' e rp rk q _ _ _ hc => by cases e; exact Nat.ble_eq_true_of_le hc) ?_ ?_ (fun k _ _ => rfl) ?_ (fun i _ _ => rfl) (fun q _ _ => rfl) hr⟩
  · intro rp q u u' l hm hraw
    obtain ⟨⟨cs, h1, h2⟩, _⟩ := spec rp _ (hsub _ hm)
    rw [hraw] at h1
    exact h2 _ (Option.some.inj h1).symm
  · intro rp q u u' l hm hraw
    obtain ⟨⟨cs, h1, h2⟩, _⟩ := spec rp _ (hsub _ hm)
    rw [hraw] at h1
    exact h2 _ (Option.some.inj h1).symm
  · intro i hi
    obtain ⟨rp, rk, hm, hrp⟩ := box_ent hi
    obtain ⟨⟨cs, h1, _⟩, _⟩ := spec rp rk (hsub _ hm)
    rcases hrp with rfl | ⟨j, rfl⟩ | rfl
    · simp only [rawR] at h1
      split at h1 <;> first | (cases h1; done) | skip
      rename_i ps hps
      exact ⟨ps, ps, hps, hps, rfl, .inr rfl⟩
    · simp only [rawR] at h1
      split at h1 <;> first | (cases h1; done) | skip
      rename_i ps hps
      exact ⟨ps, ps, hps, hps, rfl, .inr rfl⟩
    · simp only [rawR] at h1
      split at h1 <;> first | (cases h1; done) | skip
      rename_i ps _ _ _ hps
      exact ⟨_, _, hps, hps, rfl, .inr rfl⟩
/-- Back to a head. -/
theorem head_back (hK0 : ∀ n, K0 n → n < l0) (hl0 : l0 ≤ c0) (hw : WF (Bd K0 l0 c0) F β) (hV : initV F.N β c0 V0 = some V) {s' : XS S.A} (ho : (onlyV F.N (c0 + V.length) cl V β s' && nilOk (s'.over β) V) = true) {p : Option Prop} {h : HV S.A V} (hx : backV (some c0) (s'.over β) V = some (p, h)) (hp : ∀ r, p = some r → r) {g : Gh} {a : Act} {w : World} (hr : Rel B (den F (s'.over β)) g a w) :
    ∃ g', Rel B (den F ((headV β V cl (c0 + V.length) h).over β)) g' a w := by
  have hall := back_all V p h hx hp
  have spec := initV_spec hw rfl hV
  simp only [onlyV, Bool.and_eq_true] at ho
  obtain ⟨⟨o1, o2, o3, o4⟩, o5⟩ := ho
  rw [List.all_eq_true] at o4
  have nn : ∀ {rp : RPl} {rk : RK} {q : Nat}, (rp, rk) ∈ V → tipK rk = some q → isNilR (rawR (s'.over β) rp) = false → nilV (s'.over β) V q = false := fun {rp rk q} hm ht hn => by
    have := List.all_eq_true.1 o5 _ hm
    simp only [ht, hn, Bool.false_or, Bool.not_eq_true'] at this
    exact this
  refine ⟨_, head_weak (ini := some c0) (Q := fun n => Bd K0 l0 (c0 + V.length) n ∧ (Nat.ble c0 n && nilV (s'.over β) V n) = false) (fr := fun n => Nat.ble c0 n && nilV (s'.over β) V n) hw (fun n h => ⟨h.up (Nat.le_add_right _ _), by
      have := h.lt hK0 hl0
      have : Nat.ble c0 n = false := by
        cases hq : Nat.ble c0 n with
        | false => rfl
        | true => have := Nat.le_of_ble_eq_true hq; omega
      rw [this]; rfl⟩) (fun n h hn => by rw [hn.2] at h; cases h) hall (fun c' e rp rk q hm ht hn hc => by
      cases e
      rw [Bool.and_eq_true]
      refine ⟨Nat.ble_eq_true_of_le hc, List.any_eq_true.2 ⟨_, hm, ?_⟩⟩
      simp only [ht, hn]
      rw [Bool.and_eq_true]
      exact ⟨Nat.beq_refl q, rfl⟩) ?_ ?_ ?_ ?_ ?_ ?_ hr⟩
  · intro rp q u u' l hm hraw
    refine ⟨?_, by rw [nn hm rfl (by rw [hraw]; rfl), Bool.and_false]⟩
    rcases (spec rp _ hm).2.2.2 q u (.inl rfl) with h | h
    · exact h.up (Nat.le_add_right _ _)
    · exact .inr ⟨by omega, h.2⟩
  · intro rp q u u' l hm hraw
    refine ⟨?_, by rw [nn hm rfl (by rw [hraw]; rfl), Bool.and_false]⟩
    rcases (spec rp _ hm).2.2.2 q u (.inr rfl) with h | h
    · exact h.up (Nat.le_add_right _ _)
    · exact .inr ⟨by omega, h.2⟩
  · intro k hk hd
    rw [over_get, onlyB_spec o1 (blt hk) hd]
  · intro i hi
    have := o4 i hi
    split at this
    · rename_i x y h1 h2
      rw [Bool.and_eq_true] at this
      refine ⟨x, y, h1, h2, Nat.eq_of_beq_eq_true this.1, ?_⟩
      have h3 := this.2
      split at h3
      · rename_i e1 e2; exact .inr (by rw [e1, e2])
      · exact .inl (memN_mem.1 h3)
      · cases h3
    · cases this
  · intro i hi hd
    show orE (s'.L i) (β.L i) = _
    rw [onlyB_spec o2 (Nat.lt_of_lt_of_le (hi.lt hK0 hl0) (Nat.le_add_right _ _)) hd]; rfl
  · intro q hq hd
    show orE (s'.T q) (β.T q) = _
    rw [onlyB_spec o3 (hq.1.lt hK0 (by omega)) hd]; rfl
theorem head_ok {V' : RV} (hsub : ∀ e, e ∈ V' → e ∈ V) (hK0 : ∀ n, K0 n → n < l0) (hl0 : l0 ≤ c0) (hw : WF (Bd K0 l0 c0) F β) (hV : initV F.N β c0 V0 = some V) (h : HV S.A V') : WF (Bd K0 l0 (headV β V' cl (c0 + V.length) h).c) F ((headV β V' cl (c0 + V.length) h).over β) := by
  have spec := initV_spec hw rfl hV
  have hc : (headV β V' cl (c0 + V.length) h).c = c0 + V.length := lay_c _ _ _
  rw [hc]
  refine head_wf hw (fun n h => h.up (Nat.le_add_right _ _)) (fun q hq => ?_) (fun i hi => ?_)
  · obtain ⟨rp, rk, hm, u, hu⟩ := tip_ent hq
    rcases (spec rp _ (hsub _ hm)).2.2.2 q u hu with h | h
    · exact h.up (Nat.le_add_right _ _)
    · exact .inr ⟨by omega, h.2⟩
  · obtain ⟨rp, rk, hm, hrp⟩ := box_ent hi
    exact ((spec rp rk (hsub _ hm)).2.2.1 i hrp).up (Nat.le_add_right _ _)
end heads
theorem LΦ_lo {lo lo' : Nat} (h : lo ≤ lo') {e : Exit} {σ : St} (hl : LΦ K0 l0 F b lo' Φ e σ) : LΦ K0 l0 F b lo Φ e σ := by
  obtain ⟨s', h1, h2, h3⟩ := hl
  exact ⟨s', Nat.le_trans h h1, h2, h3⟩
theorem aw_weaken {P : Program} {c : Code} {Ψ : Exit → St → Prop} {σ σ' : St} (h : ∀ g a w, Rel B σ g a w → ∃ g', Rel B σ' g' a w) (h' : AW P B c Ψ σ') : AW P B c Ψ σ := by
  intro g a w hr
  obtain ⟨g', hr'⟩ := h g a w hr
  exact h' g' a w hr'
/-- Ends that are seen from further out. -/
theorem LΦ_out {Φi : XE S.A → XS S.A → Prop} {lo lo' : Nat} (hlo : lo ≤ lo') {e : Exit} {σ : St} (hΦ : ∀ e s', e ≠ .normal → Φi e s' → Φ e (s'.over s)) (he : e ≠ .normal) (h : LΦ K0 l0 F (s.over b) lo' Φi e σ) : LΦ K0 l0 F b lo Φ e σ := by
  obtain ⟨s', h1, h2, h3⟩ := h
  refine ⟨s'.over s, Nat.le_trans hlo h1, by rw [over_over]; exact h2, ?_⟩
  cases e with
  | normal => exact absurd rfl he
  | exit id => exact ⟨by rw [over_over]; exact h3.1, hΦ _ _ (fun e => by cases e) h3.2⟩
  | ret => exact ⟨by rw [over_over]; exact h3.1, hΦ _ _ (fun e => by cases e) h3.2⟩
  | panic ch => obtain ⟨p, k1, k2, k3⟩ := h3; exact ⟨p, by rw [over_over]; exact k1, k2, hΦ _ _ (fun e => by cases e) k3⟩
  | goto l => exact h3
  | outgrown => exact h3
theorem repL_set {T T' : Nat → Option (Nat × Nat)} {g g' : Gh} (hm : ∀ q v, Rep1 T g q v → Rep1 T' g' q v) : ∀ {ps : List PV} {vs : List Value} {j : Nat} {p p' : PV}, RepL T g ps vs → ps[j]? = some p → (∀ v, Rep1 T g p v → Rep1 T' g' p' v) → RepL T' g' (ps.set j p') vs
  | [], vs, j, p, p', _, h, _ => by cases h
  | q :: ps, vs, 0, p, p', ⟨v, vs', e, h1, h2, h3⟩, h, hp => by cases h; exact ⟨v, vs', e, hp v h1, h2, RepL.carry hm h3⟩
  | q :: ps, vs, j + 1, p, p', ⟨v, vs', e, h1, h2, h3⟩, h, hp => ⟨v, vs', e, hm q v h1, h2, repL_set hm h3 (by simpa using h) hp⟩
/-- A list that will not be written again. -/
theorem frz1_sound {Q : Nat → Prop} {s : XS S.A} {p : AV S.A} {k : XS S.A → AV S.A → Prop} (hw : WF Q F (s.over b)) (h : frz1 b s p k) : ∃ s1 p', k s1 p' ∧ s1.c = s.c ∧ s1.env = s.env ∧ s1.L = s.L ∧ (inV Q p → inV Q p') ∧ (in1 Q p → in1 Q p') ∧ WF Q F (s1.over b) ∧ denV p' = den1 p' ∧
    ∀ g a w, Rel B (den F (s.over b)) g a w → ∃ g', Rel B (den F (s1.over b)) g' a w ∧ g'.β = g.β ∧ (∀ q v, Rep1 (den F (s.over b)).T g q v → Rep1 (den F (s1.over b)).T g' q v) ∧ ∀ v, Rep1 (den F (s.over b)).T g (den1 p) v → Rep1 (den F (s1.over b)).T g' (den1 p') v := by
  unfold frz1 at h
  split at h
  · rename_i q t n
    split at h <;> first | exact h.elim | skip
    rename_i sz m u l pad hT
    split at h <;> first | exact h.elim | skip
    rename_i hu
    obtain rfl := Nat.eq_of_beq_eq_true hu
    cases hs : Nat.beq sz (szOf S u) with
    | false => rw [hs] at h; exact h.elim
    | true =>
      rw [hs] at h
      obtain rfl := Nat.eq_of_beq_eq_true hs
      obtain ⟨⟨h1, h2⟩, h3⟩ := h
      subst h1 h2
      have hT2 := den_T (F := F) hT
      have hM := den_M (F := F) hT
      have hTf : (den F ((s.setT q (szOf S u) l.length).over b)).T = (den F (s.over b)).T := by
        rw [over_setT, den_setT]
        funext j
        show cond (Nat.beq j q) _ ((den F (s.over b)).T j) = _
        cases hq : Nat.beq j q with
        | false => rfl
        | true => rw [Nat.eq_of_beq_eq_true hq, hT2]; rfl
      refine ⟨_, _, h3, rfl, rfl, rfl, fun h => h, fun h => h, by rw [over_setT]; exact hw.setT (hw.T _ _ hT), rfl, fun g a w hr => ?_⟩
      have hT3 := hT2
      rw [szOf_eq] at hT3
      obtain ⟨g', k1, kβ, k2, k3⟩ := hr.prvFreeze (E := S.E u) (l := l) hT3 hM
      refine ⟨g', ?_, kβ, ?_, ?_⟩
      · have e0 : den F ((s.setT q (szOf S u) l.length).over b) = (den F (s.over b)).setM q none := by
          have := hTf
          rw [over_setT, den_setT] at this ⊢
          refine St.ext' rfl (fun _ => rfl) (fun _ => rfl) this rfl
        rw [e0]; exact k1
      · intro q v hv; rw [hTf]; exact k2 q v hv
      · intro v hv; rw [hTf]; exact k3 v hv
  · exact ⟨_, _, h, rfl, rfl, rfl, fun h => h, fun h => h, hw, rfl, fun g a w hr => ⟨g, hr, rfl, fun _ _ h => h, fun _ h => h⟩⟩
  · exact h.elim
theorem frzP_sound {Q : Nat → Prop} {s : XS S.A} {pl : Pl} {k : XS S.A → Prop} (hw : WF Q F (s.over b)) (h : frzP F.N b s pl k) : ∃ s1, k s1 ∧ s1.c = s.c ∧ WF Q F (s1.over b) ∧ ∀ g a w, Rel B (den F (s.over b)) g a w → ∃ g', Rel B (den F (s1.over b)) g' a w := by
  cases pl with
  | sl d =>
    simp only [frzP] at h
    cases hd : Nat.blt d F.N with
    | false => rw [hd] at h; exact h.elim
    | true =>
      rw [hd] at h
      obtain ⟨s1, p', h1, h2, h3, h4, h5, h5', h6, h7, h8⟩ := frz1_sound (B := B) hw h
      refine ⟨_, h1, h2, by rw [over_put]; exact h6.put (h5 (hw.get hd)), fun g a w hr => ?_⟩
      obtain ⟨g', k1, _, k2, k3⟩ := h8 g a w hr
      refine ⟨g', ?_⟩
      rw [over_put, den_put hd]
      refine { k1 with env := fun j => ?_ }
      show Rep _ _ (cond (Nat.beq j d) _ _) _
      cases hq : Nat.beq j d with
      | false => exact k1.env j
      | true =>
        obtain rfl := Nat.eq_of_beq_eq_true hq
        rw [h7]
        have hv := hr.env j
        rw [show (den F (s.over b)).env j = denV ((s.over b).get j) by show cond (Nat.blt j F.N) _ _ = _; rw [hd]; rfl] at hv
        exact rep_of1' (k3 _ (rep_den1 hv))
  | ce d j =>
    simp only [frzP] at h
    split at h <;> first | exact h.elim | skip
    rename_i x hx
    split at h <;> first | exact h.elim | skip
    rename_i bx hbx
    split at h <;> first | exact h.elim | skip
    rename_i p hp
    obtain ⟨s1, p', h1, h2, h3, h4, h5, h5', h6, h7, h8⟩ := frz1_sound (B := B) hw h
    have hL := hw.L x bx hbx
    have hL1 : (s1.over b).L = (s.over b).L := by show (fun k => orE (s1.L k) (b.L k)) = _; rw [h4]; rfl
    refine ⟨_, h1, h2, ?_, fun g a w hr => ?_⟩
    · rw [over_setL]
      refine h6.setL hL.1 fun q hq => ?_
      rcases List.mem_or_eq_of_mem_set hq with hq | rfl
      · exact hL.2 q hq
      · exact h5' (hL.2 p (List.mem_of_getElem? hp))
    · obtain ⟨g', k1, kβ, k2, k3⟩ := h8 g a w hr
      refine ⟨g', ?_⟩
      rw [over_setL, den_setL]
      have hold : ∀ i, (den F (s1.over b)).L i = (den F (s.over b)).L i := fun i => by show ((s1.over b).L i).map _ = ((s.over b).L i).map _; rw [hL1]
      have live : ∀ i ps, ((den F (s1.over b)).setL x (some (denB { bx with cs := bx.cs.set j p' }))).L i = some ps → ∃ qs, (den F (s1.over b)).L i = some qs := by
        intro i ps hi
        have hi : cond (Nat.beq i x) (some _) ((den F (s1.over b)).L i) = some ps := hi
        cases hq : Nat.beq i x with
        | false => rw [hq] at hi; exact ⟨ps, hi⟩
        | true => rw [Nat.eq_of_beq_eq_true hq, hold]; exact ⟨_, by show ((s.over b).L x).map _ = _; rw [hbx]; rfl⟩
      refine { k1 with box := ?_, apart := ?_, boxtip := ?_ }
      · intro i ps hi
        have hi : cond (Nat.beq i x) (some (denB { bx with cs := bx.cs.set j p' })) ((den F (s1.over b)).L i) = some ps := hi
        cases hq : Nat.beq i x with
        | false => rw [hq] at hi; exact k1.box i ps hi
        | true =>
          rw [hq] at hi
          cases hi
          obtain rfl := Nat.eq_of_beq_eq_true hq
          obtain ⟨cs, ty, j1, j2, j3, j4⟩ := hr.box i (denB bx) (by show ((s.over b).L i).map _ = _; rw [hbx]; rfl)
          obtain ⟨cs', ty', i1, _, i3, _⟩ := k1.box i (denB bx) (by rw [hold]; show ((s.over b).L i).map _ = _; rw [hbx]; rfl)
          refine ⟨cs, ty, by rw [kβ]; exact j1, ?_, i3, by rw [kβ]; exact j4⟩
          obtain ⟨tl, e1, e2⟩ := denB_cs bx
          rw [e2]
          rw [e1] at j2
          have hj : j < bx.cs.length := (List.getElem?_eq_some_iff.1 hp).1
          have := repL_set (j := j) (p' := den1 p') k2 j2 (by rw [List.getElem?_append_left (by rw [List.length_map]; exact hj), List.getElem?_map, hp]; rfl) k3
          rw [List.set_append_left _ _ (by rw [List.length_map]; exact hj)] at this
          rw [List.map_set]
          exact this
      · intro i i' ps ps' h1 h2 hne
        obtain ⟨_, h1⟩ := live i ps h1
        obtain ⟨_, h2⟩ := live i' ps' h2
        exact k1.apart i i' _ _ h1 h2 hne
      · intro i ps t y b' c h1 h2 h3
        obtain ⟨_, h1⟩ := live i ps h1
        exact k1.boxtip i _ t y b' c h1 h2 h3
  | bx d => exact h.elim
  | tl d => exact h.elim
theorem frzV_sound {P : Program} {Q : Nat → Prop} {y : Code} {Ψ : Exit → St → Prop} {k : XS S.A → Prop} : ∀ (V : List Pl) (s : XS S.A), frzV F.N b V s k → WF Q F (s.over b) → (∀ s1, k s1 → s1.c = s.c → WF Q F (s1.over b) → AW P B y Ψ (den F (s1.over b))) → AW P B y Ψ (den F (s.over b))
  | [], s, h, hw, hy => hy s h rfl hw
  | pl :: V, s, h, hw, hy => by
    obtain ⟨s1, h1, h2, h3, h4⟩ := frzP_sound (B := B) hw h
    exact aw_weaken h4 (frzV_sound V s1 h1 h3 fun s2 k1 k2 k3 => hy s2 k1 (k2.trans h2) k3)
/-- **Code that the executor runs is sound.** -/
theorem xc_sound (hK0 : ∀ n, K0 n → n < l0) (hC : Ok C call) (hpin : POk S B) {an : List (Nat × Ann)} : ∀ (c : Code) (b s : XS S.A) (Φ : XE S.A → XS S.A → Prop), (∀ k, noG (getN F.N b k)) → l0 ≤ s.c → WF (Bd K0 l0 s.c) F (s.over b) → Xc C an F.N call c b s Φ → AW C.P B c (LΦ K0 l0 F b s.c Φ) (den F (s.over b)) := by
  intro c
  induction c with
  | skip => intro b s Φ hb hl0 hw h; exact aw_skip ⟨s, Nat.le_refl _, hw, rfl, h⟩
  | ret => intro b s Φ hb hl0 hw h; exact aw_ret ⟨s, Nat.le_refl _, hw, rfl, h⟩
  | exit id => intro b s Φ hb hl0 hw h; exact aw_exit ⟨s, Nat.le_refl _, hw, rfl, h⟩
  | region id ops draw => intro b s Φ hb hl0 hw h; exact reg_sound hK0 hC hpin hb hl0 hw h
  | cond x c1 c2 ih1 ih2 =>
    intro b s Φ hb hl0 hw h
    simp only [Xc] at h
    split at h <;> first | exact h.elim | skip
    rename_i v hv
    refine aw_cond (b := v) (by rw [ev_den, hv]; rfl) (fun e => ?_) (fun e => ?_)
    · subst e; exact ih1 b s Φ hb hl0 hw h
    · subst e; exact ih2 b s Φ hb hl0 hw h
  | block id c ih =>
    intro b s Φ hb hl0 hw h
    simp only [Xc] at h
    refine aw_block (aw_mono (ih b s _ hb hl0 hw h) ?_)
    rintro e σ ⟨s', h1, h2, h3⟩
    cases e with
    | exit id' =>
      obtain ⟨rfl, h3⟩ := h3
      simp only [blockΦ]
      cases hq : Nat.beq id' id with
      | true =>
        simp only [hq, cond_true] at h3
        rw [if_pos (Nat.eq_of_beq_eq_true hq)]
        exact ⟨s', h1, h2, rfl, h3⟩
      | false =>
        simp only [hq, cond_false] at h3
        rw [if_neg (fun e => by subst e; rw [Nat.beq_refl] at hq; cases hq)]
        exact ⟨s', h1, h2, rfl, h3⟩
    | normal => exact ⟨s', h1, h2, h3⟩
    | ret => exact ⟨s', h1, h2, h3⟩
    | panic ch => exact ⟨s', h1, h2, h3⟩
    | goto l => exact ⟨s', h1, h2, h3⟩
    | outgrown => exact ⟨s', h1, h2, h3⟩
  | seq x y ihx ihy =>
    intro b s Φ hb hl0 hw h
    simp only [Xc] at h
    split at h
    · rename_i V0 han
      split at h <;> first | exact h.elim | skip
      rename_i V hV
      split at h <;> first | exact h.elim | skip
      rename_i p0 x0 hx0
      obtain ⟨hp0, ⟨h⟩⟩ := withP_iff h
      have hb2 : ∀ k, noG (getN F.N (s.over b) k) := fun k => noG_in (hw.env k)
      refine aw_seq (aw_weaken (fun g a w hr => head_init (cl := []) (c := s.c + V.length) (fun e => owns_sub) hK0 hl0 hw hV hx0 hp0 hr) (aw_mono (ihx (s.over b) _ _ hb2 (by rw [show (headV (s.over b) (ownsV V) [] (s.c + V.length) x0).c = s.c + V.length from lay_c _ _ _]; omega) (head_ok (fun e => owns_sub) hK0 hl0 hw hV x0) h) ?_))
      · intro e σ hl
        have hlo : s.c ≤ (headV (s.over b) (ownsV V) [] (s.c + V.length) x0).c := by rw [show (headV (s.over b) (ownsV V) [] (s.c + V.length) x0).c = s.c + V.length from lay_c _ _ _]; omega
        cases e with
        | normal =>
          obtain ⟨s', h1, h2, rfl, h3⟩ := hl
          simp only at h3
          split at h3 <;> first | exact h3.elim | skip
          rename_i p hh ho hbk
          obtain ⟨hp, h3⟩ := withP_iff h3
          refine aw_weaken (σ' := den F (((headV (s.over b) V (asg x) (s.c + V.length) hh).over s).over b)) (fun g a w hr => by rw [over_over]; exact head_back hK0 hl0 hw hV ho hbk hp hr) ?_
          refine aw_mono (ihy b _ Φ hb (by show l0 ≤ (headV (s.over b) V (asg x) (s.c + V.length) hh).c; rw [show (headV (s.over b) V (asg x) (s.c + V.length) hh).c = s.c + V.length from lay_c _ _ _]; omega) (by rw [over_over]; exact head_ok (fun e h => h) hK0 hl0 hw hV hh) h3) fun e σ hl => LΦ_lo ?_ hl
          show s.c ≤ (headV (s.over b) V (asg x) (s.c + V.length) hh).c
          rw [show (headV (s.over b) V (asg x) (s.c + V.length) hh).c = s.c + V.length from lay_c _ _ _]; omega
        | exit id => exact LΦ_out hlo (fun e s' he h => by cases e <;> first | exact absurd rfl he | exact h) (fun e => by cases e) hl
        | ret => exact LΦ_out hlo (fun e s' he h => by cases e <;> first | exact absurd rfl he | exact h) (fun e => by cases e) hl
        | panic ch => exact LΦ_out hlo (fun e s' he h => by cases e <;> first | exact absurd rfl he | exact h) (fun e => by cases e) hl
        | goto l => exact LΦ_out hlo (fun e s' he h => by cases e <;> first | exact absurd rfl he | exact h) (fun e => by cases e) hl
        | outgrown => exact LΦ_out hlo (fun e s' he h => by cases e <;> first | exact absurd rfl he | exact h) (fun e => by cases e) hl
    · refine aw_seq (aw_mono (ihx b s _ hb hl0 hw h) ?_)
      rintro e σ ⟨s', h1, h2, h3⟩
      cases e with
      | normal =>
        obtain ⟨rfl, h3⟩ := h3
        exact frzV_sound _ s' h3 h2 fun s1 k1 k2 k3 => aw_mono (ihy b s1 Φ hb (by rw [k2]; exact Nat.le_trans hl0 h1) (by rw [k2]; exact k3) k1) fun e σ hl => LΦ_lo (by rw [k2]; exact h1) hl
      | exit id => exact ⟨s', h1, h2, h3⟩
      | ret => exact ⟨s', h1, h2, h3⟩
      | panic ch => exact ⟨s', h1, h2, h3⟩
      | goto l => exact ⟨s', h1, h2, h3⟩
      | outgrown => exact ⟨s', h1, h2, h3⟩
  | loop c ih =>
    intro b s Φ hb hl0 hw h
    simp only [Xc] at h
    split at h <;> first | exact h.elim | skip
    rename_i V0 han
    split at h <;> first | exact h.elim | skip
    rename_i V hV
    split at h <;> first | exact h.elim | skip
    rename_i p0 x0 hx0
    obtain ⟨hp0, ⟨h⟩⟩ := withP_iff h
    have hb2 : ∀ k, noG (getN F.N (s.over b) k) := fun k => noG_in (hw.env k)
    have hJ := h (fun y => ∀ g a w, Rel B (den F ((headV (s.over b) V (asg c) (s.c + V.length) y).over (s.over b))) g a w → LoopIn C.P c (lift B (LΦ K0 l0 F b s.c Φ)) a w) ?_
    · intro g a w hr
      obtain ⟨g', hr'⟩ := head_init (cl := asg c) (c := s.c + V.length) (fun e h => h) hK0 hl0 hw hV hx0 hp0 hr
      exact loopIn_wp (hJ g' a w hr')
    · intro y hy g a w hr
      have hlo : s.c ≤ (headV (s.over b) V (asg c) (s.c + V.length) y).c := by rw [show (headV (s.over b) V (asg c) (s.c + V.length) y).c = s.c + V.length from lay_c _ _ _]; omega
      have := ih (s.over b) _ _ hb2 (Nat.le_trans hl0 hlo) (head_ok (fun e h => h) hK0 hl0 hw hV y) hy g a w hr
      · refine loopIn_step (wp_mono this ?_)
        rintro e a' w' ⟨σ', g', hr', hl, hpay⟩
        cases e with
        | normal =>
          obtain ⟨s', h1, h2, rfl, h3⟩ := hl
          simp only at h3
          split at h3 <;> first | exact h3.elim | skip
          rename_i p hh ho hbk
          obtain ⟨hp, h3⟩ := withP_iff h3
          obtain ⟨g2, hr2⟩ := head_back hK0 hl0 hw hV ho hbk hp hr'
          exact h3 g2 a' w' hr2
        | exit id => exact ⟨σ', g', hr', LΦ_out hlo (fun e s' he h => by cases e <;> first | exact absurd rfl he | exact h) (fun e => by cases e) hl, hpay⟩
        | ret => exact ⟨σ', g', hr', LΦ_out hlo (fun e s' he h => by cases e <;> first | exact absurd rfl he | exact h) (fun e => by cases e) hl, hpay⟩
        | panic ch => exact ⟨σ', g', hr', LΦ_out hlo (fun e s' he h => by cases e <;> first | exact absurd rfl he | exact h) (fun e => by cases e) hl, hpay⟩
        | goto l => exact ⟨σ', g', hr', LΦ_out hlo (fun e s' he h => by cases e <;> first | exact absurd rfl he | exact h) (fun e => by cases e) hl, hpay⟩
        | outgrown => exact ⟨σ', g', hr', LΦ_out hlo (fun e s' he h => by cases e <;> first | exact absurd rfl he | exact h) (fun e => by cases e) hl, hpay⟩
  | _ => intro b s Φ hb hl0 hw h; exact h.elim
end code
end Go.Rx
/-! What is asked may be less. -/
namespace Go.Rx
open Go.Ab Go.RowKit
set_option linter.unusedVariables false
set_option linter.unusedSimpArgs false
section
variable {S : Sys} {C : Cfg S}
theorem split_mono {get : Nat → AV S.A} {koff koff' : Kn → Prop} (h2 : ∀ kn, koff kn → koff' kn) : ∀ {ch : List (Nat × Bool)} {kon kon' : Kn → Prop} {kn : Kn}, (∀ kn, kon kn → kon' kn) → splitG get kon koff ch kn → splitG get kon' koff' ch kn
  | [], kon, kon', kn, h1, h => h1 kn h
  | (g, w) :: r, kon, kon', kn, h1, h => by
    refine split_mono h2 (ch := r) (fun kn hk => ?_) h
    revert hk
    generalize gval get g = gv
    intro hk
    cases gv with
    | none => cases w <;> exact hk
    | some v =>
      cases w <;> cases v
      · exact h1 _ hk
      · exact h2 _ hk
      · exact h2 _ hk
      · exact h1 _ hk
section run
variable {N : Nat} {call : CallT S} {b : XS S.A} {ops : List Oper} {idf : Nat → XS S.A → Nat} {nx : XS S.A → XS S.A} {kp kp' : AV S.A → XS S.A → Prop} {k k' : XS S.A → Prop}
theorem run_mono (hcm : ∀ f args m k k' kp kp', (∀ r m, k r m → k' r m) → (∀ r m, kp r m → kp' r m) → call f args m k kp → call f args m k' kp') (hkm : ∀ f W, Ab.look C.K f = some (.tr W) → ∀ args k k', (∀ r, k r → k' r) → W args k → W args k')
    (hk : ∀ s, k s → k' s) (hp : ∀ p s, kp p s → kp' p s) : ∀ (l : List (Nat × Oper)) (s : XS S.A) (kn : Kn), runM C N call b ops idf nx kp l s kn k → runM C N call b ops idf nx kp' l s kn k'
  | [], s, kn, h => hk s h
  | (i, o) :: r, s, kn, h => by
    have ih := run_mono hcm hkm hk hp r
    simp only [runM] at h ⊢
    cases hN : dstB N o.dst with
    | false => rw [hN] at h; exact h.elim
    | true =>
    rw [hN] at h
    simp only [Bool.not_true, cond_false] at h ⊢
    have ex : ∀ {kn : Kn} {rq : Rq S.A}, exec C call b (idf i s) o.dst s (fun s' => runM C N call b ops idf nx kp r (nx s') kn k) kp o.op rq → exec C call b (idf i s) o.dst s (fun s' => runM C N call b ops idf nx kp' r (nx s') kn k') kp' o.op rq :=
      fun h => exec_mono hcm hkm (fun s h => ih _ _ h) hp h
    cases hg : o.guard with
    | none => rw [hg] at h; exact ex h
    | some jw =>
      obtain ⟨j, w⟩ := jw
      rw [hg] at h
      simp only at h ⊢
      cases hj : dstOf ops j with
      | none => rw [hj] at h; exact h.elim
      | some g =>
        cases hd : o.dst with
        | none => rw [hj, hd] at h; exact h.elim
        | some d =>
          rw [hj, hd] at h
          rw [hd] at ex
          simp only at h ⊢
          cases hc : gcond (getN N (s.over b)) kn g w ops.length with
          | on => rw [hc] at h; exact ex h
          | off => rw [hc] at h; exact ih _ _ h
          | bad => rw [hc] at h; exact h.elim
          | cond ch =>
            rw [hc] at h
            simp only at h ⊢
            cases hrq : rqP (ptLoad C.P ops o.op) (rqM C (getN N (s.over b)) kn ch o.op) with
            | v p => rw [hrq] at h; exact ih _ _ h
            | vc c p => rw [hrq] at h; exact ⟨h.1, ih _ _ h.2⟩
            | ld x off n ag =>
              rw [hrq] at h
              simp only at h ⊢
              split at h
              · rename_i ps _ _
                cases hb : (Nat.beq ((ps.cs.drop off).take n).length n && (ag || Nat.beq n 1)) with
                | false => rw [hb] at h; exact h.elim
                | true => rw [hb] at h; exact ih _ _ h
              · exact h
            | bad => rw [hrq] at h; exact split_mono (fun kn h => ih _ _ h) (fun kn h => ex h) h
            | box cs => rw [hrq] at h; exact split_mono (fun kn h => ih _ _ h) (fun kn h => ex h) h
            | st x off n cs => rw [hrq] at h; exact split_mono (fun kn h => ih _ _ h) (fun kn h => ex h) h
            | tip t l => rw [hrq] at h; exact split_mono (fun kn h => ih _ _ h) (fun kn h => ex h) h
            | app q t bytes l ext => rw [hrq] at h; exact split_mono (fun kn h => ih _ _ h) (fun kn h => ex h) h
            | app0 t bytes ext => rw [hrq] at h; exact split_mono (fun kn h => ih _ _ h) (fun kn h => ex h) h
            | call f args => rw [hrq] at h; exact split_mono (fun kn h => ih _ _ h) (fun kn h => ex h) h
            | panic p => rw [hrq] at h; exact split_mono (fun kn h => ih _ _ h) (fun kn h => ex h) h
            | ch c => rw [hrq] at h; exact split_mono (fun kn h => ih _ _ h) (fun kn h => ex h) h
            | eld x off e' i ag => rw [hrq] at h; exact split_mono (fun kn h => ih _ _ h) (fun kn h => ex h) h
            | est x off e' i v => rw [hrq] at h; exact split_mono (fun kn h => ih _ _ h) (fun kn h => ex h) h
            | tld q n e' i ag => rw [hrq] at h; exact split_mono (fun kn h => ih _ _ h) (fun kn h => ex h) h
            | tst q n e' i v => rw [hrq] at h; exact split_mono (fun kn h => ih _ _ h) (fun kn h => ex h) h
            | papp q t bytes n ext => rw [hrq] at h; exact split_mono (fun kn h => ih _ _ h) (fun kn h => ex h) h
end run
theorem frz1_mono {b s : XS S.A} {p : AV S.A} {k k' : XS S.A → AV S.A → Prop} (hk : ∀ s p, k s p → k' s p) (h : frz1 b s p k) : frz1 b s p k' := by
  unfold frz1 at h ⊢
  split at h
  · split at h <;> first | exact h | skip
    split at h <;> first | exact h.elim | skip
    rename_i hu
    rw [dif_pos hu]
    exact bif_imp (fun e => ⟨e.1, hk _ _ e.2⟩) h
  · exact hk _ _ h
  · exact h
theorem frzP_mono {N : Nat} {b s : XS S.A} {pl : Pl} {k k' : XS S.A → Prop} (hk : ∀ s, k s → k' s) (h : frzP N b s pl k) : frzP N b s pl k' := by
  cases pl with
  | sl d => exact bif_imp (fun e => frz1_mono (fun s p h => hk _ h) e) h
  | ce d j =>
    simp only [frzP] at h ⊢
    split at h <;> first | exact h | skip
    split at h <;> first | exact h | skip
    split at h <;> first | exact h | skip
    exact frz1_mono (fun s p h => hk _ h) h
  | bx d => exact h
  | tl d => exact h
theorem frzV_mono {N : Nat} {b : XS S.A} {k k' : XS S.A → Prop} (hk : ∀ s, k s → k' s) : ∀ (V : List Pl) (s : XS S.A), frzV N b V s k → frzV N b V s k'
  | [], s, h => hk s h
  | pl :: V, s, h => frzP_mono (fun s h => frzV_mono hk V s h) h
theorem xc_mono {call : XS S.A → CallT S} (hcm : ∀ b f args m k k' kp kp', (∀ r m, k r m → k' r m) → (∀ r m, kp r m → kp' r m) → call b f args m k kp → call b f args m k' kp') (hkm : ∀ f W, Ab.look C.K f = some (.tr W) → ∀ args k k', (∀ r, k r → k' r) → W args k → W args k')
    {an : List (Nat × Ann)} {N : Nat} : ∀ (c : Code) (b s : XS S.A) (Φ Φ' : XE S.A → XS S.A → Prop), (∀ e s, Φ e s → Φ' e s) → Xc C an N call c b s Φ → Xc C an N call c b s Φ' := by
  intro c
  induction c with
  | skip => intro b s Φ Φ' hΦ h; exact hΦ _ _ h
  | ret => intro b s Φ Φ' hΦ h; exact hΦ _ _ h
  | exit id => intro b s Φ Φ' hΦ h; exact hΦ _ _ h
  | cond x c1 c2 ih1 ih2 =>
    intro b s Φ Φ' hΦ h
    simp only [Xc] at h ⊢
    split at h
    · rename_i v _
      cases v
      · exact ih2 b s Φ Φ' hΦ h
      · exact ih1 b s Φ Φ' hΦ h
    · exact h
  | block id c ih =>
    intro b s Φ Φ' hΦ h
    simp only [Xc] at h ⊢
    refine ih b s _ _ (fun e s' h => ?_) h
    cases e with
    | exit id' =>
      simp only at h ⊢
      cases hq : Nat.beq id' id <;> rw [hq] at h <;> exact hΦ _ _ h
    | _ => exact hΦ _ _ h
  | region id ops draw =>
    intro b s Φ Φ' hΦ h
    cases draw with
    | false =>
      simp only [Xc] at h ⊢
      cases hok : regOk ops.toList [] (numd 0 ops.toList) with
      | false => rw [hok] at h; exact h.elim
      | true =>
        rw [hok] at h
        exact run_mono (C := C.rg an id false) (hcm b) hkm (fun s h => hΦ _ _ h) (fun p s h => hΦ _ _ h) _ _ _ h
    | true =>
      simp only [Xc] at h ⊢
      rcases Bool.eq_false_or_eq_true (lookW an id) with hW | hW
      · rw [hW] at h ⊢
        simp only [cond_true] at h ⊢
        rcases Bool.eq_false_or_eq_true ((numd 0 ops.toList).all (fun x => (depsN x.2).all fun j => Nat.blt j x.1)) with hbk | hbk
        · rw [hbk] at h ⊢
          exact runA_mono (C := C.rg an id false) (hcm b) hkm (fun s h => hΦ _ _ h) (fun p s h => hΦ _ _ h) _ _ _ h
        · rw [hbk] at h; exact h.elim
      rw [hW] at h ⊢
      simp only [cond_false] at h ⊢
      split at h
      · rename_i E t hE
        rcases Bool.eq_false_or_eq_true ((numd 0 ops.toList).all (fun x => (depsN x.2).all fun j => Nat.blt j x.1) && (eagOk (C.rg an id true) ops.toList E && schOk E false t (numd 0 ops.toList))) with hbk | hbk
        · rw [hbk] at h ⊢
          exact runH_mono (C := C.rg an id true) (hcm b) hkm (fun s h => hΦ _ _ h) (fun p s h => hΦ _ _ h) _ _ _ h
        · rw [hbk] at h; exact h.elim
      generalize canon ops.toList.length [] (numd 0 ops.toList) = π at h ⊢
      cases hok : (drawnOk (C.rg an id true) ops.toList π && regOk ops.toList [] π) with
      | false => rw [hok] at h; exact h.elim
      | true =>
        rw [hok] at h
        exact run_mono (C := C.rg an id true) (hcm b) hkm (fun s h => hΦ _ _ h) (fun p s h => hΦ _ _ h) _ _ _ h
  | seq x y ihx ihy =>
    intro b s Φ Φ' hΦ h
    simp only [Xc] at h ⊢
    split at h
    · split at h <;> first | exact h | skip
      split at h <;> first | exact h | skip
      refine withP_mono (fun ⟨h⟩ => ⟨?_⟩) h
      refine ihx _ _ _ _ (fun e s' h => ?_) h
      cases e with
      | normal =>
        simp only at h ⊢
        split at h
        · exact withP_mono (fun h => ihy _ _ _ _ hΦ h) h
        · exact h
      | _ => exact hΦ _ _ h
    · refine ihx _ _ _ _ (fun e s' h => ?_) h
      cases e with
      | normal => exact frzV_mono (fun s h => ihy _ _ _ _ hΦ h) _ _ h
      | _ => exact hΦ _ _ h
  | loop c ih =>
    intro b s Φ Φ' hΦ h
    simp only [Xc] at h ⊢
    split at h <;> first | exact h | skip
    split at h <;> first | exact h | skip
    split at h <;> first | exact h | skip
    refine withP_mono (fun ⟨h⟩ => ⟨fun J hJ => h J fun y hy => hJ y ?_⟩) h
    refine ih _ _ _ _ (fun e s' h => ?_) hy
    cases e with
    | normal => exact h
    | _ => exact hΦ _ _ h
  | _ => intro b s Φ Φ' hΦ h; exact h
theorem xf_mono (hkm : ∀ f W, Ab.look C.K f = some (.tr W) → ∀ args k k', (∀ r, k r → k' r) → W args k → W args k') : ∀ (n : Nat) (b : XS S.A) (f : Nat) (args : List (AV S.A)) (m : XS S.A) (k k' kp kp' : AV S.A → XS S.A → Prop), (∀ r m, k r m → k' r m) → (∀ r m, kp r m → kp' r m) → Xf C n b f args m k kp → Xf C n b f args m k' kp'
  | 0, b, f, args, m, k, k', kp, kp', hk, hp, h => h
  | n + 1, b, f, args, m, k, k', kp, kp', hk, hp, h => by
    simp only [Xf] at h ⊢
    split at h <;> first | exact h | skip
    split at h <;> first | exact h | skip
    split at h <;> first | exact h | skip
    refine xc_mono (fun b f args m k k' kp kp' => xf_mono hkm n b f args m k k' kp kp') hkm _ _ _ _ _ (fun e s' h => ?_) h
    cases e with
    | ret => simp only at h ⊢; split at h <;> first | exact hk _ _ h | exact h
    | normal => simp only at h ⊢; split at h <;> first | exact hk _ _ h | exact h
    | panic p => exact hp _ _ h
    | exit id => exact h
end
end Go.Rx
/-! Functions are sound. -/
namespace Go.Rx
open Go.Ab Go.RowKit
set_option linter.unusedVariables false
set_option linter.unusedSimpArgs false
section
variable {S : Sys} {C : Cfg S} {B : Base} {F : Fr S}
theorem den2_flat {p : AV S.A} (h : flatA p = true) : denV p = den2 p := by cases p <;> first | rfl | cases h
theorem res_run {s : XS S.A} {g : Gh} {a : Act} {w : World} (hr : Rel B (den F s) g a w) {r : ResultVar} {p : AV S.A} (h : resOf C F.N s r = some p) : flatA p = true ∧ ∃ v, (readRes a.tmps r).run C.P w = .ok v w ∧ Rep (denTT s.T) g (denV p) v := by
  cases r with
  | tmp t =>
    simp only [resOf] at h
    cases hf : flatA (getN F.N s t) with
    | false => rw [hf] at h; cases h
    | true =>
      rw [hf] at h
      cases h
      refine ⟨hf, _, rfl, ?_⟩
      have := hr.ev (.tmp t)
      rw [ev_den] at this
      exact this
  | cell x t =>
    simp only [resOf] at h
    split at h
    · rename_i b ag n hx ht
      split at h
      · rename_i ps hL
        cases hb : ((Nat.beq ps.length n && (ag || Nat.beq n 1)) && flatA (ofCells ag ps)) with
        | false => rw [hb] at h; cases h
        | true =>
          rw [hb] at h
          cases h
          simp only [Bool.and_eq_true] at hb
          obtain ⟨⟨hn, h1⟩, hf⟩ := hb
          have hn := Nat.eq_of_beq_eq_true hn
          refine ⟨hf, ?_⟩
          have hv : a.tmps.getD x undef = .pointer (some ⟨g.β b, 0, none⟩) := by
            have := hr.ev (.tmp x)
            rw [ev_den] at this
            have e : evA (getN F.N s) (.tmp x) = .loc b 0 := hx
            rw [e] at this
            exact this
          obtain ⟨cs, ty, hb2, hps, _, _⟩ := hr.box b (ps.map den1) (by show (s.L b).map denB = _; rw [hL]; rfl)
          have hl := repL_length hps
          rw [List.length_map] at hl
          have h1' : ag = false → n = 1 := fun e => by subst e; exact Nat.eq_of_beq_eq_true h1
          have hrun := run_loadVar (P := C.P) (tyOf_ty ht) (b := g.β b) (o := 0) (w := w) (vs := cs.toList) (by omega) h1' (fun j v hj => by
            rw [cell_blk hb2]
            simpa using hj)
          refine ⟨_, by
            simp only [readRes, hv, asAddr]
            rw [run_bind]
            simp only [run_pure]
            rw [hrun], ?_⟩
          rw [den_ofCells hn h1]
          exact ofCells_rep hps (fun e => by rw [hl, hn]; exact h1' e)
      · cases h
    · cases h
theorem repE_of {T : Nat → Option (Nat × Nat)} {g : Gh} {p : AV S.A} {v : Value} (hf : flatA p = true) (h : Rep T g (denV p) v) : RepE T g (den2 p) v := by
  rw [← den2_flat hf]
  exact rep_E (flat_ne hf) h
theorem results_run {s : XS S.A} {g : Gh} {a : Act} {w : World} (hr : Rel B (den F s) g a w) {fn : Func} {ps : List (AV S.A)} (h : resAll C F.N s fn.results.toList = some ps) (h4 : Nat.ble fn.results.toList.length 4 = true) : ∃ v, (results fn a.tmps).run C.P w = .ok v w ∧ Rep (denTT s.T) g (denV (tupA ps)) v := by
  have h4 := Nat.le_of_ble_eq_true h4
  generalize hl : fn.results.toList = l at h h4
  have hl : fn.results = l.toArray := by rw [← hl]
  have cons : ∀ {r : ResultVar} {rs : List ResultVar} {ps : List (AV S.A)}, resAll C F.N s (r :: rs) = some ps → ∃ p qs, ps = p :: qs ∧ resOf C F.N s r = some p ∧ resAll C F.N s rs = some qs := by
    intro r rs ps h
    simp only [resAll] at h
    split at h
    · rename_i p qs h1 h2; cases h; exact ⟨p, qs, rfl, h1, h2⟩
    · cases h
  match l, h, h4, hl with
  | [], h, _, hl =>
    cases h
    exact ⟨.tuple #[], by rw [results_eq, hl]; simp [run_bind, run_pure], [], rfl, rfl⟩
  | [r], h, _, hl =>
    obtain ⟨p, qs, rfl, h1, h2⟩ := cons h
    cases h2
    obtain ⟨hf, v, e, q⟩ := res_run hr h1
    exact ⟨v, by rw [results_eq, hl]; simp [run_bind, run_pure, e], q⟩
  | [r1, r2], h, _, hl =>
    obtain ⟨p1, qs, rfl, h1, h⟩ := cons h
    obtain ⟨p2, qs, rfl, h2, h⟩ := cons h
    cases h
    obtain ⟨f1, v1, e1, q1⟩ := res_run hr h1
    obtain ⟨f2, v2, e2, q2⟩ := res_run hr h2
    exact ⟨.tuple #[v1, v2], by rw [results_eq, hl]; simp [run_bind, run_pure, e1, e2], [v1, v2], rfl, v1, _, rfl, repE_of f1 q1, v2, _, rfl, repE_of f2 q2, rfl⟩
  | [r1, r2, r3], h, _, hl =>
    obtain ⟨p1, qs, rfl, h1, h⟩ := cons h
    obtain ⟨p2, qs, rfl, h2, h⟩ := cons h
    obtain ⟨p3, qs, rfl, h3, h⟩ := cons h
    cases h
    obtain ⟨f1, v1, e1, q1⟩ := res_run hr h1
    obtain ⟨f2, v2, e2, q2⟩ := res_run hr h2
    obtain ⟨f3, v3, e3, q3⟩ := res_run hr h3
    exact ⟨.tuple #[v1, v2, v3], by rw [results_eq, hl]; simp [run_bind, run_pure, e1, e2, e3], [v1, v2, v3], rfl, v1, _, rfl, repE_of f1 q1, v2, _, rfl, repE_of f2 q2, v3, _, rfl, repE_of f3 q3, rfl⟩
  | [r1, r2, r3, r4], h, _, hl =>
    obtain ⟨p1, qs, rfl, h1, h⟩ := cons h
    obtain ⟨p2, qs, rfl, h2, h⟩ := cons h
    obtain ⟨p3, qs, rfl, h3, h⟩ := cons h
    obtain ⟨p4, qs, rfl, h4, h⟩ := cons h
    cases h
    obtain ⟨f1, v1, e1, q1⟩ := res_run hr h1
    obtain ⟨f2, v2, e2, q2⟩ := res_run hr h2
    obtain ⟨f3, v3, e3, q3⟩ := res_run hr h3
    obtain ⟨f4, v4, e4, q4⟩ := res_run hr h4
    exact ⟨.tuple #[v1, v2, v3, v4], by rw [results_eq, hl]; simp [run_bind, run_pure, e1, e2, e3, e4], [v1, v2, v3, v4], rfl, v1, _, rfl, repE_of f1 q1, v2, _, rfl, repE_of f2 q2, v3, _, rfl, repE_of f3 q3, v4, _, rfl, repE_of f4 q4, rfl⟩
  | _ :: _ :: _ :: _ :: _ :: _, _, h4, _ => exfalso; simp only [List.length_cons] at h4; omega
theorem res_in {Q : Nat → Prop} {s : XS S.A} (hw : WF Q F s) {r : ResultVar} {p : AV S.A} (h : resOf C F.N s r = some p) : inV Q p := by
  cases r with
  | tmp t =>
    simp only [resOf] at h
    cases hf : flatA (getN F.N s t) <;> rw [hf] at h <;> cases h
    exact hw.env t
  | cell x t =>
    simp only [resOf] at h
    split at h
    · rename_i b ag n hx ht
      split at h
      · rename_i ps hL
        cases hb : ((Nat.beq ps.length n && (ag || Nat.beq n 1)) && flatA (ofCells ag ps)) <;> rw [hb] at h <;> cases h
        exact inV_ofCells (hw.L b _ hL).2
      · cases h
    · cases h
theorem resAll_in {Q : Nat → Prop} {s : XS S.A} (hw : WF Q F s) : ∀ {l : List ResultVar} {ps : List (AV S.A)}, resAll C F.N s l = some ps → (∀ p ∈ ps, inV Q p ∧ flatA p = true)
  | [], ps, h => by cases h; intro p hp; cases hp
  | r :: rs, ps, h => by
    simp only [resAll] at h
    split at h
    · rename_i p qs h1 h2
      cases h
      intro q hq
      rcases List.mem_cons.1 hq with rfl | hq
      · refine ⟨res_in hw h1, ?_⟩
        cases r with
        | tmp t => simp only [resOf] at h1; cases hf : flatA (getN F.N s t) <;> rw [hf] at h1 <;> cases h1; exact hf
        | cell x t =>
          simp only [resOf] at h1
          split at h1
          · rename_i bb ag n hx ht
            split at h1
            · rename_i ps hL
              cases hb : ((Nat.beq ps.length n && (ag || Nat.beq n 1)) && flatA (ofCells ag ps)) with
              | false => rw [hb] at h1; cases h1
              | true => rw [hb] at h1; cases h1; exact (Bool.and_eq_true _ _ ▸ hb).2
            · cases h1
          · cases h1
      · exact resAll_in hw h2 q hq
    · cases h
theorem tupA_in {Q : Nat → Prop} {ps : List (AV S.A)} (h : ∀ p ∈ ps, inV Q p ∧ flatA p = true) : inV Q (tupA ps) := by
  have key : inV Q (.tup ps) := by
    intro p hp
    have := h p hp
    cases p <;> first | exact this.1 | cases this.2
  match ps, h, key with
  | [], _, key => exact key
  | [p], h, _ => exact (h p (by simp)).1
  | p :: q :: r, _, key => exact key
/-- The frame of a call, with its caller's behind it. -/
def inner (F : Fr S) (N : Nat) (s : XS S.A) : Fr S := { N, ext := fun k => bif Nat.blt k N then .any else (bif Nat.blt (k - N) F.N then s.get (k - N) else F.ext (k - N)) }
def innerB (B : Base) (N : Nat) (a : Act) : Base := { B with ext := fun k => a.tmps.getD (k - N) (B.ext (k - N)), dfr := [] }
theorem getD_ge {xs : Array Value} {k : Nat} {d : Value} (h : xs.size ≤ k) : xs.getD k d = d := by
  rw [Array.getD_eq_getD_getElem?, Array.getElem?_eq_none h]; rfl
theorem xf_sound (hkm : ∀ f W, Ab.look C.K f = some (.tr W) → ∀ args k k', (∀ r, k r → k' r) → W args k → W args k') (hK : ∀ f W, Ab.look C.K f = some W → ConOk C.P f W) (hmx : C.P.follows .mixedOrders = true) : ∀ (n : Nat) (b : XS S.A), CallOk C.P b (Xf C n b)
  | 0, b => fun f args s k kp h => h.elim
  | n + 1, b => by
    intro f args s k kp h hfb hfl B hpin F Q hQ hw ha g a w vs hr hvs
    simp only [Xf] at h
    split at h <;> first | exact h.elim | skip
    rename_i fn hfn
    split at h <;> first | exact h.elim | skip
    rename_i c hbody
    split at h <;> first | exact h.elim | skip
    rename_i hlen
    rw [Bool.and_eq_true] at hlen
    obtain ⟨hla, hl4⟩ := hlen
    have hla := Nat.le_of_ble_eq_true hla
    have hlv : vs.length = args.length := by have := repT_length hvs; simpa using this
    have hC : Ok C (Xf C n) := ⟨fun b f args m k k' kp kp' => xf_mono hkm n b f args m k k' kp kp', hkm, xf_sound hkm hK hmx n, hK, hmx⟩
    generalize hβ : ({ (s.mem.over b) with env := fun i => args[i]? } : XS S.A) = β at h
    have bL : β.L = (s.over b).L := by subst hβ; rfl
    have bT : β.T = (s.over b).T := by subst hβ; rfl
    have bE : β.env = fun i => args[i]? := by subst hβ; rfl
    have eL : ((emp s.mem.c : XS S.A).over β).L = (s.over b).L := by rw [← bL]; rfl
    have eT : ((emp s.mem.c : XS S.A).over β).T = (s.over b).T := by rw [← bT]; rfl
    have eG : ∀ i, ((emp s.mem.c : XS S.A).over β).get i = match args[i]? with | some p => p | none => .any := by
      intro i
      rw [over_get]
      show β.get i = _
      unfold XS.get
      rw [bE]
      cases hp : args[i]? <;> simp only [hp]
    have gB : ∀ i, β.get i = match args[i]? with | some p => p | none => .any := by
      intro i; unfold XS.get; rw [bE]; cases hp : args[i]? <;> simp only [hp]
    refine calls_of_wp hfn hbody ?_
    have hNs : (vs.toArray ++ Array.replicate (fn.ntmps - vs.toArray.size) undef).size = fn.ntmps := by simp; omega
    have hr0 : Rel (innerB B fn.ntmps a) (den (inner F fn.ntmps (s.over b)) ((emp s.mem.c).over β)) g { tmps := vs.toArray ++ Array.replicate (fn.ntmps - vs.toArray.size) undef, defers := [] } w := by
      refine ⟨hNs, fun t => ?_, rfl, hr.imm, ?_, ?_, ?_, ?_, ?_, hr.below, hr.immle, hr.immnew, hr.pin, ?_⟩
      · show Rep (denTT ((emp s.mem.c).over β).T) g (cond (Nat.blt t fn.ntmps) (denV (((emp s.mem.c).over β).get t)) (denV ((inner F fn.ntmps (s.over b)).ext t))) _
        rw [eT]
        cases ht : Nat.blt t fn.ntmps with
        | true =>
          have ht' := blt ht
          have h1 := repT_get hvs t undef
          rw [eG]
          have e1 : (vs.toArray ++ Array.replicate (fn.ntmps - vs.toArray.size) undef).getD t ((innerB B fn.ntmps a).ext t) = vs.getD t undef := by
            rw [Array.getD_eq_getD_getElem?, List.getD_eq_getElem?_getD]
            by_cases ht2 : t < vs.length
            · rw [Array.getElem?_append_left (by simpa using ht2)]; simp [ht2]
            · rw [Array.getElem?_append_right (by simpa using ht2), List.getElem?_eq_none (by omega), Array.getElem?_replicate]
              rw [if_pos (by simp; omega)]; rfl
          show Rep _ g (denV _) ((vs.toArray ++ Array.replicate (fn.ntmps - vs.toArray.size) undef).getD t _)
          rw [e1]
          rw [List.getD_eq_getElem?_getD, List.getElem?_map] at h1
          cases hp : args[t]? with
          | none => trivial
          | some p => rw [hp] at h1; exact h1
        | false =>
          have ht' : fn.ntmps ≤ t := by
            rcases Nat.lt_or_ge t fn.ntmps with h | h
            · have : Nat.blt t fn.ntmps = true := Nat.ble_eq_true_of_le h
              rw [ht] at this; cases this
            · exact h
          show Rep _ g (denV (bif Nat.blt t fn.ntmps then .any else (bif Nat.blt (t - fn.ntmps) F.N then (s.over b).get (t - fn.ntmps) else F.ext (t - fn.ntmps)))) ((vs.toArray ++ Array.replicate (fn.ntmps - vs.toArray.size) undef).getD t _)
          rw [ht, getD_ge (by rw [hNs]; exact ht')]
          have := hr.env (t - fn.ntmps)
          have this : Rep (denTT (s.over b).T) g (cond (Nat.blt (t - fn.ntmps) F.N) (denV ((s.over b).get (t - fn.ntmps))) (denV (F.ext (t - fn.ntmps)))) (a.tmps.getD (t - fn.ntmps) (B.ext (t - fn.ntmps))) := this
          simp only [cond_false]
          show Rep _ g _ (a.tmps.getD (t - fn.ntmps) (B.ext (t - fn.ntmps)))
          cases hk : Nat.blt (t - fn.ntmps) F.N <;> (rw [hk] at this; exact this)
      · intro i ps hi
        exact (show ∃ cs ty, w.heap[g.β i]? = some (.cells cs ty (0, 0)) ∧ RepL (denTT ((emp s.mem.c).over β).T) g ps cs.toList ∧ _ by rw [eT]; exact hr.box i ps (by show ((s.over b).L i).map _ = _; rw [← eL]; exact hi))
      · intro i i' ps ps' h1 h2
        exact hr.apart i i' ps ps' (by show ((s.over b).L i).map _ = _; rw [← eL]; exact h1) (by show ((s.over b).L i').map _ = _; rw [← eL]; exact h2)
      · intro t sz m b' c h1 h2
        exact hr.tip t sz m b' c (by show denTT (s.over b).T t = _; rw [← eT]; exact h1) h2
      · intro t t' x x' b' b'' c c' h1 h2
        exact hr.tips t t' x x' b' b'' c c' (by show denTT (s.over b).T t = _; rw [← eT]; exact h1) (by show denTT (s.over b).T t' = _; rw [← eT]; exact h2)
      · intro i ps t x b' c h1 h2
        exact hr.boxtip i ps t x b' c (by show ((s.over b).L i).map _ = _; rw [← eL]; exact h1) (by show denTT (s.over b).T t = _; rw [← eT]; exact h2)
      · intro t ps hps
        have := hr.prv t ps (by show denM (s.over b).T t = _; rw [← eT]; exact hps)
        exact this.mono (by show denTT ((emp s.mem.c).over β).T t = denTT (s.over b).T t; rw [eT]) rfl (Imm.le_refl _) fun _ _ _ => ⟨fun _ => rfl, rfl⟩
    have argIn : ∀ (i : Nat) (p : AV S.A), args[i]? = some p → inV Q p ∧ noG p := by
      intro i p hp
      have hm := List.mem_of_getElem? hp
      exact ⟨ha p hm, by have := hfl p hm; cases p <;> first | trivial | cases this⟩
    have hw0 : WF (Bd Q s.c (emp s.mem.c : XS S.A).c) (inner F fn.ntmps (s.over b)) ((emp s.mem.c).over β) := by
      refine ⟨fun i => ?_, fun i ps hi => ?_, fun q x hq => ?_, fun i => ?_⟩
      · unfold getN
        cases Nat.blt i (inner F fn.ntmps (s.over b)).N with
        | false => trivial
        | true =>
          simp only [cond_true]
          rw [eG]
          cases hp : args[i]? with
          | none => trivial
          | some p => exact inV_mono (fun _ => .inl) (argIn i p hp).1
      · rw [eL] at hi
        have := hw.L i ps hi
        exact ⟨.inl this.1, fun p hp => in1_mono (fun _ => .inl) (this.2 p hp)⟩
      · rw [eT] at hq; exact .inl (hw.T q x hq)
      · refine inV_mono (fun _ => .inl) ?_
        show inV Q (bif Nat.blt i fn.ntmps then .any else (bif Nat.blt (i - fn.ntmps) F.N then (s.over b).get (i - fn.ntmps) else F.ext (i - fn.ntmps)))
        cases Nat.blt i fn.ntmps with
        | true => trivial
        | false =>
          cases hk : Nat.blt (i - fn.ntmps) F.N with
          | true => exact hw.get hk
          | false => exact hw.ext _
    have hbn : ∀ i, noG (getN (inner F fn.ntmps (s.over b)).N β i) := by
      intro i
      unfold getN
      cases Nat.blt i (inner F fn.ntmps (s.over b)).N with
      | false => trivial
      | true =>
        simp only [cond_true]
        rw [gB]
        cases hp : args[i]? with
        | none => trivial
        | some p => exact (argIn i p hp).2
    have key := xc_sound (F := inner F fn.ntmps (s.over b)) (B := innerB B fn.ntmps a) (K0 := Q) (l0 := s.c) hQ hC ⟨hpin.pin, hpin.gl, hpin.wd⟩ c β (emp s.mem.c) _ hbn (Nat.le_refl _) hw0 h g _ w hr0
    · refine wp_mono key ?_
      rintro e a' w' ⟨σ, g', hr', ⟨s', hc', hws, hmatch⟩, hpay⟩
      -- the state behind the call, as its caller sees it
      have mL : ∀ (m : XS S.A), m.L = (fun i => orE (s'.L i) (s.mem.L i)) → ((s.withM m).over b).L = (s'.over β).L := by
        intro m hm
        funext i
        show orE (m.L i) (b.L i) = orE (s'.L i) (β.L i)
        rw [hm, bL]
        show orE (orE (s'.L i) (s.L i)) (b.L i) = orE (s'.L i) (orE (s.L i) (b.L i))
        cases s'.L i <;> rfl
      have mT : ∀ (m : XS S.A), m.T = (fun i => orE (s'.T i) (s.mem.T i)) → ((s.withM m).over b).T = (s'.over β).T := by
        intro m hm
        funext i
        show orE (m.T i) (b.T i) = orE (s'.T i) (β.T i)
        rw [hm, bT]
        show orE (orE (s'.T i) (s.T i)) (b.T i) = orE (s'.T i) (orE (s.T i) (b.T i))
        cases s'.T i <;> rfl
      have mG : ∀ (m : XS S.A) i, ((s.withM m).over b).get i = (s.over b).get i := fun m i => rfl
      have back : ∀ (m : XS S.A), m.L = (fun i => orE (s'.L i) (s.mem.L i)) → m.T = (fun i => orE (s'.T i) (s.mem.T i)) → Rel (innerB B fn.ntmps a) (den (inner F fn.ntmps (s.over b)) (s'.over β)) g' a' w' → Rel B (den F ((s.withM m).over b)) g' a w' := by
        intro m h1 h2 hr'
        have e1 := mL m h1
        have e2 := mT m h2
        refine ⟨hr.size, fun t => ?_, hr.defers, hr'.imm, ?_, ?_, ?_, ?_, ?_, hr'.below, hr'.immle, hr'.immnew, hr'.pin, ?_⟩
        · have h3 := hr'.env (fn.ntmps + t)
          have hge : a'.tmps.size ≤ fn.ntmps + t := by rw [hr'.size]; exact Nat.le_add_right _ _
          rw [getD_ge hge] at h3
          have hlt : Nat.blt (fn.ntmps + t) fn.ntmps = false := by
            cases hq : Nat.blt (fn.ntmps + t) fn.ntmps with
            | false => rfl
            | true => have := blt hq; omega
          have h3 : Rep (denTT (s'.over β).T) g' (cond (Nat.blt (fn.ntmps + t) fn.ntmps) (denV ((s'.over β).get (fn.ntmps + t))) (denV (bif Nat.blt (fn.ntmps + t) fn.ntmps then .any else (bif Nat.blt (fn.ntmps + t - fn.ntmps) F.N then (s.over b).get (fn.ntmps + t - fn.ntmps) else F.ext (fn.ntmps + t - fn.ntmps))))) (a.tmps.getD (fn.ntmps + t - fn.ntmps) (B.ext (fn.ntmps + t - fn.ntmps))) := h3
          rw [hlt, Nat.add_sub_cancel_left] at h3
          show Rep (denTT ((s.withM m).over b).T) g' (cond (Nat.blt t F.N) (denV ((s.over b).get t)) (denV (F.ext t))) _
          rw [e2]
          simp only [cond_false] at h3
          cases hk : Nat.blt t F.N <;> (rw [hk] at h3; exact h3)
        · intro i ps hi
          have := hr'.box i ps (by show ((s'.over β).L i).map _ = _; rw [← e1]; exact hi)
          show ∃ cs ty, w'.heap[g'.β i]? = some (.cells cs ty (0, 0)) ∧ RepL (denTT ((s.withM m).over b).T) g' ps cs.toList ∧ _
          rw [e2]
          exact this
        · intro i i' ps ps' k1 k2
          exact hr'.apart i i' ps ps' (by show ((s'.over β).L i).map _ = _; rw [← e1]; exact k1) (by show ((s'.over β).L i').map _ = _; rw [← e1]; exact k2)
        · intro t sz m' b' c k1 k2
          exact hr'.tip t sz m' b' c (by show denTT (s'.over β).T t = _; rw [← e2]; exact k1) k2
        · intro t t' x x' b' b'' c c' k1 k2
          exact hr'.tips t t' x x' b' b'' c c' (by show denTT (s'.over β).T t = _; rw [← e2]; exact k1) (by show denTT (s'.over β).T t' = _; rw [← e2]; exact k2)
        · intro i ps t x b' c k1 k2
          exact hr'.boxtip i ps t x b' c (by show ((s'.over β).L i).map _ = _; rw [← e1]; exact k1) (by show denTT (s'.over β).T t = _; rw [← e2]; exact k2)
        · intro t ps hps
          have := hr'.prv t ps (by show denM (s'.over β).T t = _; rw [← e2]; exact hps)
          exact this.mono (by show denTT ((s.withM m).over b).T t = denTT (s'.over β).T t; rw [e2]) rfl (Imm.le_refl _) fun _ _ _ => ⟨fun _ => rfl, rfl⟩
      have wfm : ∀ (m : XS S.A), m.L = (fun i => orE (s'.L i) (s.mem.L i)) → m.T = (fun i => orE (s'.T i) (s.mem.T i)) → WF (Bd Q s.c s'.c) F ((s.withM m).over b) := by
        intro m h1 h2
        have e1 := mL m h1
        have e2 := mT m h2
        exact ⟨fun i => inV_mono (fun _ => .inl) (hw.env i), fun i ps hi => hws.L i ps (by rw [← e1]; exact hi), fun q x hq => hws.T q x (by rw [← e2]; exact hq), fun i => inV_mono (fun _ => .inl) (hw.ext i)⟩
      have ret : ∀ {Ψ : Prop}, σ = den (inner F fn.ntmps (s.over b)) (s'.over β) → (match resAll C fn.ntmps (s'.over β) fn.results.toList with
            | some ps => k (tupA ps) { s.mem with L := fun i => orE (s'.L i) (s.mem.L i), T := fun i => orE (s'.T i) (s.mem.T i), c := s'.c }
            | none => False) → a'.defers = [] ∧ ∃ v, (results fn a'.tmps).run C.P w' = .ok v w' ∧ ∃ r m g', k r m ∧ s.c ≤ m.c ∧ WF (fun n => Q n ∨ (s.c ≤ n ∧ n < m.c)) F ((s.withM m).over b) ∧ inV (fun n => Q n ∨ (s.c ≤ n ∧ n < m.c)) r ∧ Rel B (den F ((s.withM m).over b)) g' a w' ∧ Rep (denTT ((s.withM m).over b).T) g' (denV r) v := by
        intro Ψ hσ hm
        subst hσ
        split at hm <;> first | exact hm.elim | skip
        rename_i ps hps
        obtain ⟨v, hv1, hv2⟩ := results_run (F := inner F fn.ntmps (s.over b)) hr' hps hl4
        refine ⟨hr'.defers, v, hv1, tupA ps, _, g', hm, hc', wfm _ rfl rfl, tupA_in (resAll_in (F := inner F fn.ntmps (s.over b)) hws hps), back _ rfl rfl hr', ?_⟩
        rw [mT _ rfl]
        exact hv2
      cases e with
      | ret => exact ret (Ψ := True) hmatch.1 hmatch.2
      | normal => exact ret (Ψ := True) hmatch.1 hmatch.2
      | exit id => exact hmatch.2.elim
      | goto l => exact hmatch.elim
      | outgrown => exact hmatch.elim
      | panic ch =>
        obtain ⟨p, rfl, hp1, hp2⟩ := hmatch
        obtain ⟨v, hch, hv⟩ := hpay
        have hr2 : Rel (innerB B fn.ntmps a) (den (inner F fn.ntmps (s.over b)) (s'.over β)) g' a' w' := Rel.pay hr' _
        refine ⟨hr'.defers, p, _, g', v, ⟨_, hp2, rfl⟩, hc', wfm _ rfl rfl, hp1, back _ rfl rfl hr2, hch, ?_⟩
        rw [mT _ rfl]
        exact hv
end
end Go.Rx
/-! Contracts. -/
namespace Go.Rx
open Go.Ab Go.RowKit
set_option linter.unusedVariables false
set_option linter.unusedSimpArgs false
section
variable {S : Sys} {C : Cfg S} {P : Program}
/-- A cell of plain data. -/
def PL (p : AV S.A) : Prop := (∃ v, p = .sc v ∧ v.oneCell' = true) ∨ (∃ t l, p = .sl t l) ∨ ∃ b, p = .er b
theorem pl_avs : ∀ (lv : List Leaf) (h : HL S.A lv), ∀ p ∈ avsH lv h, PL p
  | [], _, p, hp => by cases hp
  | x :: xs, h, p, hp => by
    rcases List.mem_cons.1 hp with rfl | hp
    · cases x with
      | sl t => exact .inr (.inl ⟨_, _, rfl⟩)
      | er => exact .inr (.inr ⟨_, rfl⟩)
      | _ => exact .inl ⟨_, rfl, rfl⟩
    · exact pl_avs xs h.2 p hp
theorem pl_av (t : Nat) (x : S.A t) : ∀ p ∈ av S t x, PL p := pl_avs _ _
structure Plain (p : AV S.A) : Prop where
  flat : flatA p = true
  clean : (denV p).clean = true
  clean2 : (den2 p).clean2 = true
  strip : (denV p).strip = denV p
  strip2 : (den2 p).strip2 = den2 p
  ins : inV (fun _ => False) p
  d2 : denV p = den2 p
theorem plain_pl {p : AV S.A} (h : PL p) : Plain p := by
  rcases h with ⟨v, rfl, hv1⟩ | ⟨t, l, rfl⟩ | ⟨b, rfl⟩ <;> exact ⟨rfl, rfl, rfl, rfl, rfl, trivial, rfl⟩
theorem plain_any : Plain (.any : AV S.A) := ⟨rfl, rfl, rfl, rfl, rfl, trivial, rfl⟩
theorem plain_agg {cs : List (AV S.A)} (h : ∀ p ∈ cs, PL p) : Plain (.agg cs) := by
  have h1 : (cs.map den1).all PV.clean1 = true := by
    rw [List.all_map, List.all_eq_true]
    intro p hp
    rcases h p hp with ⟨v, rfl, hv1⟩ | ⟨t, l, rfl⟩ | ⟨b, rfl⟩ <;> rfl
  have h2 : (cs.map den1).map PV.strip1 = cs.map den1 := by
    rw [List.map_map]
    refine List.map_congr_left fun p hp => ?_
    rcases h p hp with ⟨v, rfl, hv1⟩ | ⟨t, l, rfl⟩ | ⟨b, rfl⟩ <;> rfl
  refine ⟨rfl, h1, h1, ?_, ?_, ?_, rfl⟩
  · show PV.agg ((cs.map den1).map PV.strip1) = .agg (cs.map den1); rw [h2]
  · show PV.agg ((cs.map den1).map PV.strip1) = .agg (cs.map den1); rw [h2]
  · intro p hp
    rcases h p hp with ⟨v, rfl, hv1⟩ | ⟨t, l, rfl⟩ | ⟨b, rfl⟩ <;> trivial
theorem plain_arg (t : Nat) (x : S.A t) : Plain (argA P t x) := by
  unfold argA
  split
  · exact plain_agg (pl_av t x)
  · unfold ofCells
    simp only
    split
    · rename_i p hp
      have := pl_av t x p (by rw [hp]; simp)
      have e : oneA p = p := by rcases this with ⟨v, rfl, hv1⟩ | ⟨t, l, rfl⟩ | ⟨b, rfl⟩ <;> rfl
      show Plain (oneA p)
      rw [e]
      exact plain_pl this
    · exact plain_any
theorem oneA_pl {p : AV S.A} (h : PL p) : oneA p = p := by rcases h with ⟨v, rfl, hv1⟩ | ⟨t, l, rfl⟩ | ⟨b, rfl⟩ <;> rfl
theorem dArg_wk {t : Nat} {p : AV S.A} {x : S.A t} (h : dArg P t p = some x) : flatA p = true ∧ Ab.WkA (den2 p).strip2 (den2 (argA P t x)) := by
  unfold dArg at h
  unfold argA
  split at h
  · rename_i n ht
    split at h
    · rename_i cs
      refine ⟨rfl, .agg ?_⟩
      have := dec_wk h
      rw [← av_den] at this
      rw [List.map_map]
      exact this
    · cases h
  · rename_i ht
    have key : ∀ {p : AV S.A}, dec S t [p] = some x → (den2 p) = den1 p → flatA p = true → (den1 p).strip2 = (den1 p).strip1 → flatA p = true ∧ Ab.WkA (den2 p).strip2 (den2 (ofCells false (av S t x))) := by
      intro p hd h2 hf hs
      refine ⟨hf, ?_⟩
      have := dec_wk hd
      rw [← av_den] at this
      cases hav : av S t x with
      | nil => rw [hav] at this; cases this
      | cons q qs =>
        cases qs with
        | cons q2 qs => rw [hav] at this; cases this with | cons _ h => cases h
        | nil =>
          rw [hav] at this
          have hq := pl_av t x q (by rw [hav]; simp)
          cases this with
          | cons hw _ =>
            rw [h2, hs]
            show Ab.WkA _ (den2 (oneA q))
            rw [oneA_pl hq]
            have : den2 q = den1 q := by rcases hq with ⟨v, rfl, hv1⟩ | ⟨u, l, rfl⟩ | ⟨b, rfl⟩ <;> rfl
            rw [this]
            exact .one hw
    split at h <;> first | (cases h; done) | skip
    rename_i n1 n2 n3
    refine key h ?_ ?_ ?_ <;> (cases p <;> first | rfl | exact absurd rfl (n1 _) | exact absurd rfl (n2 _) | exact absurd rfl (n3 _ _ _))
theorem decL_wk : ∀ {rts : List Nat} {ps : List (AV S.A)} {y : HR S rts}, decL P rts ps = some y → Ab.WkT ((ps.map den2).map PV.strip2) ((encL P rts y).map den2)
  | [], [], y, h => .nil
  | [t], [p], y, h => .cons (dArg_wk h).2 .nil
  | t :: u :: r, p :: ps, y, h => by
    simp only [decL] at h
    split at h <;> first | (cases h; done) | skip
    rename_i x hx
    split at h <;> first | (cases h; done) | skip
    rename_i z hz
    cases h
    exact .cons (dArg_wk hx).2 (decL_wk hz)
  | [], _ :: _, y, h => by simp [decL] at h
  | [t], [], y, h => by simp [decL] at h
  | [t], _ :: _ :: _, y, h => by simp [decL] at h
  | t :: u :: r, [], y, h => by simp [decL] at h
theorem encL_plain : ∀ (rts : List Nat) (y : HR S rts), ∀ p ∈ encL P rts y, Plain p
  | [], y, p, hp => by cases hp
  | [t], y, p, hp => by obtain rfl := List.mem_singleton.1 hp; exact plain_arg t y
  | t :: u :: r, y, p, hp => by
    rcases List.mem_cons.1 hp with rfl | hp
    · exact plain_arg t y.1
    · exact encL_plain (u :: r) y.2 p hp
theorem encL_len : ∀ (rts : List Nat) (y : HR S rts), (encL P rts y).length = rts.length
  | [], y => rfl
  | [t], y => rfl
  | t :: u :: r, y => by simp [encL, encL_len (u :: r)]
theorem enc_clean (rts : List Nat) (y : HR S rts) : (denV (tupA (encL P rts y))).clean = true := by
  have h := encL_plain (P := P) rts y
  have ht : (denV (.tup (encL P rts y))).clean = true := by
    show ((encL P rts y).map den2).all PV.clean2 = true
    rw [List.all_map, List.all_eq_true]
    exact fun p hp => (h p hp).clean2
  unfold tupA
  split
  · rename_i p hp; exact (h p (by rw [hp]; simp)).clean
  · exact ht
theorem rep_enc {T : Nat → Option (Nat × Nat)} {g : Gh} {rts : List Nat} {y : HR S rts} {r : AV S.A} {v : Value} (hd : decR P rts r = some y) (hr : Rep T g (denV r) v) : Rep noT (gh g.imm) (denV (tupA (encL P rts y))) v := by
  have hs := rep_strip (Imm.le_refl g.imm) hr
  have tup : ∀ {rts : List Nat} {y : HR S rts} {r : AV S.A}, (∀ p, encL P rts y ≠ [p]) → (∃ ps, r = .tup ps ∧ decL P rts ps = some y) → Rep noT (gh g.imm) (denV r).strip v → Rep noT (gh g.imm) (denV (tupA (encL P rts y))) v := by
    rintro rts y r hne ⟨ps, rfl, hl⟩ ⟨vs, e, hT⟩
    have : tupA (encL P rts y) = .tup (encL P rts y) := by
      unfold tupA
      split
      · rename_i p hp; exact absurd hp (hne p)
      · rfl
    rw [this]
    exact ⟨vs, e, wk_repT (decL_wk hl) hT⟩
  match rts, y, hd with
  | [t], y, hd =>
    obtain ⟨hf, hw⟩ := dArg_wk hd
    have h1 : denV r = den2 r := den2_flat hf
    have h2 := (plain_arg (P := P) t y)
    show Rep noT (gh g.imm) (denV (argA P t y)) v
    rw [h2.d2]
    rw [h1] at hs
    have hne : ∀ vs, (den2 r).strip ≠ .tup vs := by
      have := strip_ne (flat_ne hf)
      rw [h1] at this
      exact this
    have hs2 := rep_E hne hs
    have e : (den2 r).strip = (den2 r).strip2 := strip_other _ (fun cs e => by rw [← h1] at e; exact flat_ne hf cs e)
    rw [e] at hs2
    have := wk_repE hw hs2
    exact rep_ofE this
  | [], y, hd =>
    refine tup (fun p h => by cases h) ?_ hs
    cases r <;> first | exact ⟨_, rfl, hd⟩ | cases hd
  | t :: u :: l, y, hd =>
    refine tup (fun p h => by have := congrArg List.length h; rw [encL_len] at this; simp at this) ?_ hs
    cases r <;> first | exact ⟨_, rfl, hd⟩ | cases hd
/-! ### Contracts out of bodies -/
def ConMon : Con S.A → Prop
  | .tr W => ∀ args k k', (∀ r, k r → k' r) → W args k → W args k'
  | .fn _ => True
  | .srt _ _ _ _ => True
  | .own _ _ => True
  | .bx _ _ => True
structure KOk (P : Program) (K : List (Nat × Con S.A)) : Prop where
  ok : ∀ x ∈ K, ConOk P x.1 x.2
  mon : ∀ x ∈ K, ConMon x.2
theorem kok_nil : KOk P ([] : List (Nat × Con S.A)) := ⟨fun x h => (by cases h), fun x h => (by cases h)⟩
theorem kok_cons {f : Nat} {W : Con S.A} {K : List (Nat × Con S.A)} (h : ConOk P f W ∧ ConMon W) (hs : KOk P K) : KOk P ((f, W) :: K) :=
  ⟨List.forall_mem_cons.2 ⟨h.1, hs.ok⟩, List.forall_mem_cons.2 ⟨h.2, hs.mon⟩⟩
theorem KOk.km {K : List (Nat × Con S.A)} (h : KOk P K) : ∀ f W, Ab.look K f = some (.tr W) → ∀ args k k', (∀ r, k r → k' r) → W args k → W args k' := fun f W hl => h.mon _ (look_mem hl)
theorem KOk.k {K : List (Nat × Con S.A)} (h : KOk P K) : ∀ f W, Ab.look K f = some W → ConOk P f W := fun f W hl => h.ok _ (look_mem hl)
theorem appC_mono {rts : List Nat} : ∀ (ts : List Nat) (W : CT S rts ts) (args : List (AV S.A)) (k k' : AV S.A → Prop), (∀ r, k r → k' r) → appC P rts ts W args k → appC P rts ts W args k'
  | [], W, [], k, k', hk, h => withP_mono (hk _) h
  | [], W, _ :: _, k, k', hk, h => h.elim
  | t :: ts, W, [], k, k', hk, h => h.elim
  | t :: ts, W, p :: ps, k, k', hk, h => by
    simp only [appC] at h ⊢
    split at h
    · exact appC_mono ts _ ps k k' hk h
    · exact h
/-- No list is longer than a slice may be. -/
def OkL {A : Nat → Type} (ok : (t : Nat) → A t → Prop) : (lv : List Leaf) → HL A lv → Prop
  | [], _ => True
  | .sl t :: xs, h => (h.1.length ≤ 9223372036854775807 ∧ ∀ y ∈ h.1, ok t y) ∧ OkL ok xs h.2
  | .int _ :: xs, h => OkL ok xs h.2
  | .bool :: xs, h => OkL ok xs h.2
  | .str :: xs, h => OkL ok xs h.2
  | .er :: xs, h => OkL ok xs h.2
def OkA (S : Sys) : Nat → (t : Nat) → S.A t → Prop
  | 0, _, _ => True
  | n + 1, t, x => OkL (OkA S n) (S.shp t).lv ((S.shp t).toH x)
theorem okL_rep {T : Nat → Option (Nat × Nat)} {g : Gh} {ok : (t : Nat) → S.A t → Prop} (ih : ∀ (t : Nat) (x : S.A t) (vs : List Value) (i : Imm), RepL noT (gh i) ((S.E t).pv x) vs → ok t x) : ∀ (lv : List Leaf) (h : HL S.A lv) (vs : List Value), RepL T g (pvsH S.E lv h) vs → OkL ok lv h
  | [], _, _, _ => trivial
  | .sl t :: xs, h, vs, ⟨v, vs', _, h1, _, h3⟩ => by
    have h1 : sliceH (S.E t) h.1 g.imm v := h1
    refine ⟨⟨lenH h1, fun y hy => ?_⟩, okL_rep ih xs h.2 vs' h3⟩
    obtain ⟨i, hi⟩ := List.getElem?_of_mem hy
    obtain ⟨A, c, _, _, _, _, h4⟩ := h1
    obtain ⟨b, o, _, h5⟩ := h4 (fun e => by rw [e] at hy; cases hy)
    obtain ⟨us, h6, _⟩ := h5 i y hi
    exact ih t y us g.imm h6
  | .int _ :: xs, h, vs, ⟨v, vs', _, _, _, h3⟩ => okL_rep ih xs h.2 vs' h3
  | .bool :: xs, h, vs, ⟨v, vs', _, _, _, h3⟩ => okL_rep ih xs h.2 vs' h3
  | .str :: xs, h, vs, ⟨v, vs', _, _, _, h3⟩ => okL_rep ih xs h.2 vs' h3
  | .er :: xs, h, vs, ⟨v, vs', _, _, _, h3⟩ => okL_rep ih xs h.2 vs' h3
theorem okA_rep : ∀ (n t : Nat) (x : S.A t) (vs : List Value) (T : Nat → Option (Nat × Nat)) (g : Gh), RepL T g ((S.E t).pv x) vs → OkA S n t x
  | 0, _, _, _, _, _, _ => trivial
  | n + 1, t, x, vs, T, g, h => by
    rw [S.law] at h
    exact okL_rep (fun t x vs i h => okA_rep n t x vs _ _ h) _ _ _ h
theorem repT_at {T : Nat → Option (Nat × Nat)} {g : Gh} : ∀ {ps : List PV} {vs : List Value} {i : Nat} {q : PV}, RepT T g ps vs → ps[i]? = some q → ∃ v, RepE T g q v
  | [], _, i, q, _, h => by cases h
  | p :: ps, _, 0, q, ⟨v, vs', e, h1, h2⟩, h => by cases h; exact ⟨v, h1⟩
  | p :: ps, _, i + 1, q, ⟨v, vs', e, h1, h2⟩, h => repT_at h2 (by simpa using h)
theorem okA_arg {T : Nat → Option (Nat × Nat)} {g : Gh} {t : Nat} {p : AV S.A} {x : S.A t} {v : Value} (hx : dArg P t p = some x) (h : RepE T g (den2 (argA P t x)) v) (n : Nat) : OkA S n t x := by
  unfold dArg at hx
  unfold argA at h
  split at h
  · obtain ⟨vs, _, hl⟩ := h
    rw [av_den] at hl
    exact okA_rep n t x vs _ _ hl
  · rename_i hne
    split at hx
    · rename_i m ht; exact absurd ht (hne m)
    · split at hx <;> first | (cases hx; done) | skip
      have := dec_wk hx
      rw [← av_den] at this
      cases hav : av S t x with
      | nil => rw [hav] at this; cases this
      | cons q qs =>
        cases qs with
        | cons q2 qs => rw [hav] at this; cases this with | cons _ h => cases h
        | nil =>
          have hq := pl_av t x q (by rw [hav]; simp)
          rw [hav] at h
          have h : RepE T g (den2 (oneA q)) v := h
          rw [oneA_pl hq] at h
          have hone : v.oneCell' = true := by
            rcases hq with ⟨u, rfl, hv1⟩ | ⟨u, l, rfl⟩ | ⟨b, rfl⟩
            · have h : v = u := h
              rw [h]; exact hv1
            · exact (SL (S.E u) l).one h
            · exact (ER b).one (i := g.imm) h
          refine okA_rep n t x [v] T g ?_
          rw [← av_den, hav]
          refine ⟨v, [], rfl, ?_, hone, rfl⟩
          rcases hq with ⟨u, rfl, hv1⟩ | ⟨u, l, rfl⟩ | ⟨b, rfl⟩ <;> exact h
/-- What is to be shown of a function: its run, from any arguments. -/
def RunC (C : Cfg S) (n f : Nat) (rts : List Nat) : (ts : List Nat) → CT S rts ts → List (Sigma S.A) → Prop
  | [], W, acc => (∀ q, W.1 = some q → q) → Xf C n (emp 0) f (argsA C acc) (emp 0) (fun r _ => isR C.P rts W.2 r) (fun _ _ => False)
  | t :: ts, W, acc => ∀ x, OkA S 5 t x → RunC C n f rts ts (W x) (acc ++ [⟨t, x⟩])
theorem argsA_app (l : List (Sigma S.A)) (t : Nat) (x : S.A t) : argsA C (l ++ [⟨t, x⟩]) = argsA C l ++ [argA C.P t x] := by
  induction l with
  | nil => rfl
  | cons a l ih => obtain ⟨u, y⟩ := a; simp [argsA, ih]
theorem argsA_plain : ∀ (l : List (Sigma S.A)), ∀ p ∈ argsA C l, Plain p
  | [], p, hp => by cases hp
  | ⟨t, x⟩ :: l, p, hp => by
    rcases List.mem_cons.1 hp with rfl | hp
    · exact plain_arg t x
    · exact argsA_plain l p hp
theorem wkT_app {ps qs ps' qs' : List PV} (h : Ab.WkT ps qs) (h' : Ab.WkT ps' qs') : Ab.WkT (ps ++ ps') (qs ++ qs') := by
  induction h with
  | nil => exact h'
  | cons h _ ih => exact .cons h ih
theorem pf_run {n f : Nat} {args : List (AV S.A)} {rts : List Nat} {y : HR S rts} (hKK : KOk C.P C.K) (hmx : C.P.follows .mixedOrders = true) (hf : fnB C.P f = true) (hpl : ∀ p ∈ args, Plain p)
    (h : Xf C n (emp 0) f args (emp 0) (fun r _ => isR C.P rts y r) (fun _ _ => False)) : PFk (S := S) C.P f (args.map stripA) (fun q => q = tupA (encL C.P rts y)) := by
  intro imm w vs hok hgl hargs
  have ha : (args.map stripA) = args.map denV := List.map_congr_left fun p hp => (hpl p hp).strip
  rw [ha] at hargs
  have hr : Rel ⟨w, imm, noF, noPin, fun _ => undef, []⟩ (den (⟨0, fun _ => .any⟩ : Fr S) ((emp 0 : XS S.A).over (emp 0))) (gh imm) { tmps := #[], defers := [] } w := by
    refine { size := rfl, env := ?_, defers := rfl, imm := hok, box := ?_, apart := ?_, tip := ?_, tips := ?_, boxtip := ?_, below := ⟨rfl, rfl, rfl, Nat.le_refl _, fun _ _ _ => rfl⟩, immle := Imm.le_refl _, immnew := fun _ _ _ h => .inl h, pin := ?_, prv := fun _ _ h => by cases h }
    · intro t
      have : Nat.blt t 0 = false := by cases hq : Nat.blt t 0 with | false => rfl | true => have := blt hq; omega
      show Rep noT (gh imm) (cond (Nat.blt t 0) (denV (((emp 0 : XS S.A).over (emp 0)).get t)) (denV (.any : AV S.A))) _
      rw [this]
      trivial
    · intro s ps h; cases h
    · intro s s' ps ps' h; cases h
    · intro t sz m b c h; cases h
    · intro t t' x x' b b' c c' h; cases h
    · intro s ps t x b c h; cases h
    · intro s b h; cases h
  have hw : WF (fun _ => False) (⟨0, fun _ => .any⟩ : Fr S) ((emp 0 : XS S.A).over (emp 0)) := by
    refine ⟨fun k => ?_, fun i ps h => (by cases h), fun q x h => (by cases h), fun k => trivial⟩
    unfold getN
    cases Nat.blt k 0 <;> trivial
  refine (xf_sound hKK.km hKK.k hmx n (emp 0) f args (emp 0) _ _ h hf (fun p hp => (hpl p hp).flat) _ ⟨fun _ => rfl, hgl.1, fun w' h1 h2 => S.gwm w w' h1 (fun b hb => h2 b hb fun h => h) hgl.2⟩ (⟨0, fun _ => .any⟩ : Fr S) (fun _ => False) (fun _ h => h.elim) hw (fun p hp => (hpl p hp).ins) (gh imm) _ w vs hr hargs).mono ?_
  rintro e w' he
  cases e with
  | returned v =>
    obtain ⟨r, m, g', h1, h2, h3, h4, h5, h6⟩ := he
    have hd : decR C.P rts r = some y := by
      unfold isR at h1
      split at h1
      · rename_i z hz; rw [hz, h1]
      · exact h1.elim
    refine ⟨_, v, g'.imm, rfl, enc_clean rts y, rfl, h5.immle, h5.imm, fun b o u hu => ?_, rep_enc hd h6, ?_⟩
    · rcases h5.immnew b o u hu with h | h | h
      · exact .inl h
      · exact .inr h
      · exact h.elim
    · obtain ⟨k1, k2, k3, k4, k5⟩ := h5.below
      exact ⟨k1, k2, k3, k4, fun k hk => k5 k hk (fun h => h)⟩
  | panicked ch =>
    obtain ⟨p, s', g', v, ⟨m, h1, _⟩, _⟩ := he
    exact h1.elim
  | outgrown => exact he.elim
theorem con_of {n f : Nat} {rts : List Nat} (hKK : KOk C.P C.K) (hmx : C.P.follows .mixedOrders = true) (hf : fnB C.P f = true) {k : AV S.A → Prop} {imm : Imm} {w : World} {vs : List Value} (hok : ImmOk imm w) (hgl : GlobW S imm w) : ∀ (ts : List Nat) (W : CT S rts ts) (acc : List (Sigma S.A)) (qs args : List (AV S.A)), RunC C n f rts ts W acc → Ab.WkT (qs.map stripA) ((argsA C acc).map denV) → appC C.P rts ts W args k →
    RepT noT (gh imm) ((qs ++ args).map stripA) vs → Calls C.P f vs.toArray w fun e w' =>
      ∃ r v imm', k r ∧ (denV r).clean = true ∧ e = .returned v ∧ Imm.le imm imm' ∧ ImmOk imm' w' ∧ (∀ b o u, imm' b o = some u → imm b o = some u ∨ w.heap.size ≤ b) ∧ Rep noT (gh imm') (denV r) v ∧ Below w.heap.size w w'
  | [], W, acc, qs, [], hrun, hwk, h, hargs => by
    obtain ⟨hp, hk⟩ := withP_iff h
    rw [List.append_nil] at hargs
    have h1 := pf_run hKK hmx hf (argsA_plain acc) (hrun hp) imm w vs hok hgl (by
      rw [show (argsA C acc).map stripA = (argsA C acc).map denV from List.map_congr_left fun p hp => (argsA_plain acc p hp).strip]
      exact wk_repT hwk hargs)
    refine h1.mono ?_
    rintro e w' ⟨r, v, imm', rfl, h2, h3⟩
    exact ⟨_, v, imm', hk, h2, h3⟩
  | [], W, acc, qs, _ :: _, hrun, hwk, h, _ => h.elim
  | t :: ts, W, acc, qs, [], hrun, hwk, h, _ => h.elim
  | t :: ts, W, acc, qs, p :: ps, hrun, hwk, h, hargs => by
    simp only [appC] at h
    split at h <;> first | exact h.elim | skip
    rename_i x hx
    obtain ⟨hfl, hw⟩ := dArg_wk hx
    have h1 : denV p = den2 p := den2_flat hfl
    have e : (den2 p).strip = (den2 p).strip2 := strip_other _ (fun cs e => by rw [← h1] at e; exact flat_ne hfl cs e)
    have hs : stripA p = (den2 p).strip2 := by show (denV p).strip = _; rw [h1, e]
    have hOk : OkA S 5 t x := by
      obtain ⟨v, hv⟩ := repT_at (i := qs.length) hargs (q := stripA p) (by simp)
      rw [hs] at hv
      exact okA_arg hx (wk_repE hw hv) 5
    refine con_of hKK hmx hf hok hgl ts (W x) (acc ++ [⟨t, x⟩]) (qs ++ [p]) ps (hrun x hOk) (by
      rw [argsA_app, List.map_append, List.map_append]
      refine wkT_app hwk (.cons ?_ .nil)
      rw [(plain_arg (P := C.P) t x).d2, hs]
      exact hw) h (by rw [List.append_assoc]; exact hargs)
/-- **A function keeps a contract.** -/
theorem con_ok {n f : Nat} {ts rts : List Nat} {W : CT S rts ts} (hKK : KOk C.P C.K) (hmx : C.P.follows .mixedOrders = true) (hf : fnB C.P f = true) (h : RunC C n f rts ts W []) : ConOk C.P f (ctr C.P ts rts W) ∧ ConMon (ctr C.P ts rts W) :=
  ⟨fun args k ha imm w vs hok hgl hargs => con_of hKK hmx hf hok hgl ts W [] [] args h .nil ha hargs, fun args k k' hk ha => appC_mono ts W args k k' hk ha⟩
/-- A contract over a box: what is asked; what is handed back; what the box has then. -/
abbrev CTB (S : Sys) (t : Nat) (rts : List Nat) : List Nat → Type
  | [] => Option Prop × HR S rts × S.A t
  | u :: us => S.A u → CTB S t rts us
def appB (P : Program) (t : Nat) (rts : List Nat) : (ts : List Nat) → CTB S t rts ts → List (AV S.A) → Option (Option Prop × AV S.A × S.A t)
  | [], W, [] => some (W.1, tupA (encL P rts W.2.1), W.2.2)
  | u :: ts, W, p :: ps => (match dArg P u p with
    | some x => appB P t rts ts (W x) ps
    | none => none)
  | _, _, _ => none
def ctb (P : Program) (t : Nat) (ts rts : List Nat) (W : S.A t → CTB S t rts ts) : Con S.A := .bx t fun x args => appB P t rts ts (W x) args
/-- The box that a function was handed has z. -/
def isB (t : Nat) (z : S.A t) (m : XS S.A) : Prop := match m.L 0 with
  | some ⟨cs, none⟩ => (match dec S t cs with
    | some y => y = z
    | none => False)
  | _ => False
/-- A state with one box. -/
def boxS (t : Nat) (x : S.A t) : XS S.A := { env := fun _ => none, L := fun k => match k with | 0 => some (.of (av S t x)) | _ => none, T := fun _ => none, c := 1 }
def RunB (C : Cfg S) (n f t : Nat) (rts : List Nat) (x : S.A t) : (ts : List Nat) → CTB S t rts ts → List (Sigma S.A) → Prop
  | [], W, acc => (∀ q, W.1 = some q → q) → Xf C n (emp 1) f (.loc 0 0 :: argsA C acc) (boxS t x) (fun r m => isR C.P rts W.2.1 r ∧ isB t W.2.2 m) (fun _ _ => False)
  | u :: ts, W, acc => ∀ y, OkA S 5 u y → RunB C n f t rts x ts (W y) (acc ++ [⟨u, y⟩])
theorem bx_run {n f t : Nat} {args : List (AV S.A)} {rts : List Nat} {x z : S.A t} {y : HR S rts} (hKK : KOk C.P C.K) (hmx : C.P.follows .mixedOrders = true) (hf : fnB C.P f = true) (hpl : ∀ p ∈ args, Plain p)
    (h : Xf C n (emp 1) f (.loc 0 0 :: args) (boxS t x) (fun r m => isR C.P rts y r ∧ isB t z m) (fun _ _ => False)) : BxOk (S := S) C.P f t (args.map stripA) x (tupA (encL C.P rts y)) z := by
  intro imm w b cs ty vs hok hgl hgw hnone hb hx hargs
  have ha : (args.map stripA) = args.map denV := List.map_congr_left fun p hp => (hpl p hp).strip
  rw [ha] at hargs
  have hlt := (Array.getElem?_eq_some_iff.1 hb).1
  let F : Fr S := ⟨0, fun _ => .loc 0 0⟩
  let B : Base := ⟨w, imm, fun k => k = b, noPin, fun _ => .pointer (some ⟨b, 0, none⟩), []⟩
  let g0 : Gh := { imm := imm, β := fun _ => b, τ := fun _ => none }
  have hL0 : ∀ s ps, (den F ((boxS t x).over (emp 1))).L s = some ps → s = 0 ∧ ps = (av S t x).map den1 := by
    intro s ps h
    cases s with
    | zero => exact ⟨rfl, by cases h; rfl⟩
    | succ s => cases h
  have hr : Rel B (den F ((boxS t x).over (emp 1))) g0 { tmps := #[], defers := [] } w := by
    refine { size := rfl, env := ?_, defers := rfl, imm := hok, box := ?_, apart := ?_, tip := ?_, tips := ?_, boxtip := ?_, below := ⟨rfl, rfl, rfl, Nat.le_refl _, fun _ _ _ => rfl⟩, immle := Imm.le_refl _, immnew := fun _ _ _ h => .inl h, pin := ?_, prv := fun _ _ h => by cases h }
    · intro k
      have : Nat.blt k 0 = false := by cases hq : Nat.blt k 0 with | false => rfl | true => have := blt hq; omega
      show Rep noT g0 (cond (Nat.blt k 0) (denV (((boxS t x).over (emp 1)).get k)) (denV (.loc 0 0 : AV S.A))) _
      rw [this]
      exact rfl
    · intro s ps h
      obtain ⟨rfl, rfl⟩ := hL0 s ps h
      refine ⟨cs, ty, hb, ?_, hnone, .inr rfl⟩
      rw [av_den]
      exact repL_clean (imm := imm) (Imm.le_refl _) (pv_clean t x) hx
    · intro s s' ps ps' h h' hne
      exact absurd ((hL0 s ps h).1.trans (hL0 s' ps' h').1.symm) hne
    · intro k sz m b c h; cases h
    · intro k t' x x' b b' c c' h; cases h
    · intro s ps k x b c hL h; cases h
    · intro s b h; cases h
  have hw : WF (fun n => n = 0) F ((boxS t x).over (emp 1)) := by
    refine ⟨fun k => ?_, fun i ps h => ?_, fun q x h => (by cases h), fun k => rfl⟩
    · unfold getN
      cases Nat.blt k F.N <;> trivial
    · cases i with
      | zero => cases h; exact ⟨rfl, fun p hp => in1_av _ _ p hp⟩
      | succ i => cases h
  refine (xf_sound hKK.km hKK.k hmx n (emp 1) f (.loc 0 0 :: args) (boxS t x) _ _ h hf (List.forall_mem_cons.2 ⟨rfl, fun p hp => (hpl p hp).flat⟩) B ⟨fun _ => rfl, hgl, fun w' h1 h2 => hgw w' h1 h2⟩ F (fun n => n = 0) (fun n h => by subst h; exact Nat.zero_lt_one) hw (List.forall_mem_cons.2 ⟨rfl, fun p hp => inV_mono (fun _ h => h.elim) (hpl p hp).ins⟩) g0 _ w (.pointer (some ⟨b, 0, none⟩) :: vs) hr ⟨_, _, rfl, rfl, ?_⟩).mono ?_
  · exact repT_clean (Imm.le_refl _) (by
      rw [List.all_map, List.all_eq_true]
      intro p hp
      show (denV p).clean2 = true
      rw [(hpl p hp).d2]
      exact (hpl p hp).clean2) hargs
  rintro e w' he
  cases e with
  | returned v =>
    obtain ⟨r, m, g', ⟨h1, hB⟩, h2, h3, h4, h5, h6⟩ := he
    have hd : decR C.P rts r = some y := by
      unfold isR at h1
      split at h1
      · rename_i z hz; rw [hz, h1]
      · exact h1.elim
    have hβ : g'.β 0 = b := by
      have h : (Value.pointer (some ⟨b, 0, none⟩)) = .pointer (some ⟨g'.β 0, 0, none⟩) := h5.env 0
      cases h; rfl
    unfold isB at hB
    split at hB <;> first | exact hB.elim | skip
    rename_i cs1 hm
    split at hB <;> first | exact hB.elim | skip
    rename_i y1 hy1
    subst hB
    have hL1 : (den F (((boxS t x).withM m).over (emp 1))).L 0 = some (cs1.map den1) := by
      show (orE (m.L 0) none).map denB = _
      rw [hm]; rfl
    obtain ⟨cs2, ty2, k1, k2, k3, _⟩ := h5.box 0 _ hL1
    rw [hβ] at k1 k3
    refine ⟨v, g'.imm, cs2, ty2, enc_clean rts y, rfl, h5.immle, h5.imm, fun b' o u hu => ?_, rep_enc hd h6, k1, wk_repL (by have := dec_wk hy1; rw [List.map_map]; exact this) (repL_strip (Imm.le_refl _) k2), ?_⟩
    · rcases h5.immnew b' o u hu with h | h | h
      · exact .inl h
      · exact .inr h
      · have h : b' = b := h
        subst h; rw [k3] at hu; cases hu
    · obtain ⟨j1, j2, j3, j4, j5⟩ := h5.below
      exact ⟨j1, j2, j3, j4, fun k hk hne => j5 k hk hne⟩
  | panicked ch =>
    obtain ⟨p, s', g', v, ⟨m, h1, _⟩, _⟩ := he
    exact h1.elim
  | outgrown => exact he.elim
theorem bx_of {n f t : Nat} {rts : List Nat} {x : S.A t} (hKK : KOk C.P C.K) (hmx : C.P.follows .mixedOrders = true) (hf : fnB C.P f = true) {hp : Option Prop} {r : AV S.A} {z : S.A t} (hh : ∀ q, hp = some q → q) : ∀ (ts : List Nat) (W : CTB S t rts ts) (acc : List (Sigma S.A)) (qs args : List (AV S.A)), RunB C n f t rts x ts W acc → Ab.WkT (qs.map stripA) ((argsA C acc).map denV) → appB C.P t rts ts W args = some (hp, r, z) → BxOk C.P f t ((qs ++ args).map stripA) x r z
  | [], W, acc, qs, [], hrun, hwk, h => by
    simp only [appB, Option.some.injEq, Prod.mk.injEq] at h
    obtain ⟨rfl, rfl, rfl⟩ := h
    rw [List.append_nil]
    intro imm w b cs ty vs hok hgl hgw hnone hb hx hargs
    refine bx_run hKK hmx hf (argsA_plain acc) (hrun hh) imm w b cs ty vs hok hgl hgw hnone hb hx ?_
    rw [show (argsA C acc).map stripA = (argsA C acc).map denV from List.map_congr_left fun p hp => (argsA_plain acc p hp).strip]
    exact wk_repT hwk hargs
  | [], W, acc, qs, _ :: _, hrun, hwk, h => by simp [appB] at h
  | t' :: ts, W, acc, qs, [], hrun, hwk, h => by simp [appB] at h
  | u :: ts, W, acc, qs, p :: ps, hrun, hwk, h => by
    simp only [appB] at h
    split at h <;> first | cases h; done | skip
    rename_i y hx
    intro imm w b cs ty vs hok hgl hgw hnone hb hxx hargs
    obtain ⟨hfl, hw⟩ := dArg_wk hx
    have h1 : denV p = den2 p := den2_flat hfl
    have e : (den2 p).strip = (den2 p).strip2 := strip_other _ (fun cs e => by rw [← h1] at e; exact flat_ne hfl cs e)
    have hs : stripA p = (den2 p).strip2 := by show (denV p).strip = _; rw [h1, e]
    have hOk : OkA S 5 u y := by
      obtain ⟨v, hv⟩ := repT_at (i := qs.length) hargs (q := stripA p) (by simp)
      rw [hs] at hv
      exact okA_arg hx (wk_repE hw hv) 5
    refine bx_of hKK hmx hf hh ts (W y) (acc ++ [⟨u, y⟩]) (qs ++ [p]) ps (hrun y hOk) (by
      rw [argsA_app, List.map_append, List.map_append]
      refine wkT_app hwk (.cons ?_ .nil)
      rw [(plain_arg (P := C.P) u y).d2, hs]
      exact hw) h imm w b cs ty vs hok hgl hgw hnone hb hxx (by rw [List.append_assoc]; exact hargs)
/-- **A function keeps a contract over a box.** -/
theorem bx_ok {n f t : Nat} {ts rts : List Nat} {W : S.A t → CTB S t rts ts} (hKK : KOk C.P C.K) (hmx : C.P.follows .mixedOrders = true) (hf : fnB C.P f = true) (h : ∀ x, OkA S 5 t x → RunB C n f t rts x ts (W x) []) : ConOk C.P f (ctb C.P t ts rts W) ∧ ConMon (ctb C.P t ts rts W) :=
  ⟨fun x args hp r z ha hh imm w b cs ty vs hok hgl hgw hnone hb hx hargs => bx_of hKK hmx hf hh ts (W x) [] [] args (h x (okA_rep 5 t x _ _ _ hx)) .nil ha imm w b cs ty vs hok hgl hgw hnone hb hx hargs, trivial⟩
/-- What a call hands back is a list of its own, or nil. -/
def OwnR (e : Nat) (l : List (S.A e)) (r : AV S.A) (m : XS S.A) : Prop := match r with
  | .nil => l = []
  | .prv k u n => (match m.T k with
    | some ⟨sz, n', some ⟨u', y, _⟩⟩ => if h : Nat.beq u' e = true then sz = szOf S e ∧ n = y.length ∧ n' = y.length ∧ castT h y = l else False
    | _ => False)
  | _ => False
theorem own_run {n f : Nat} {args : List (AV S.A)} {e : Nat} {l : List (S.A e)} (hKK : KOk C.P C.K) (hmx : C.P.follows .mixedOrders = true) (hf : fnB C.P f = true) (hpl : ∀ p ∈ args, Plain p)
    (h : Xf C n (emp 0) f args (emp 0) (OwnR e l) (fun _ _ => False)) : OwnOk (S := S) C.P f (args.map stripA) l := by
  intro imm w vs hok hgl hargs
  have ha : (args.map stripA) = args.map denV := List.map_congr_left fun p hp => (hpl p hp).strip
  rw [ha] at hargs
  have hr : Rel ⟨w, imm, noF, noPin, fun _ => undef, []⟩ (den (⟨0, fun _ => .any⟩ : Fr S) ((emp 0 : XS S.A).over (emp 0))) (gh imm) { tmps := #[], defers := [] } w := by
    refine { size := rfl, env := ?_, defers := rfl, imm := hok, box := ?_, apart := ?_, tip := ?_, tips := ?_, boxtip := ?_, below := ⟨rfl, rfl, rfl, Nat.le_refl _, fun _ _ _ => rfl⟩, immle := Imm.le_refl _, immnew := fun _ _ _ h => .inl h, pin := ?_, prv := fun _ _ h => by cases h }
    · intro t
      have : Nat.blt t 0 = false := by cases hq : Nat.blt t 0 with | false => rfl | true => have := blt hq; omega
      show Rep noT (gh imm) (cond (Nat.blt t 0) (denV (((emp 0 : XS S.A).over (emp 0)).get t)) (denV (.any : AV S.A))) _
      rw [this]
      trivial
    · intro s ps h; cases h
    · intro s s' ps ps' h; cases h
    · intro t sz m b c h; cases h
    · intro t t' x x' b b' c c' h; cases h
    · intro s ps t x b c h; cases h
    · intro s b h; cases h
  have hw : WF (fun _ => False) (⟨0, fun _ => .any⟩ : Fr S) ((emp 0 : XS S.A).over (emp 0)) := by
    refine ⟨fun k => ?_, fun i ps h => (by cases h), fun q x h => (by cases h), fun k => trivial⟩
    unfold getN
    cases Nat.blt k 0 <;> trivial
  refine (xf_sound hKK.km hKK.k hmx n (emp 0) f args (emp 0) _ _ h hf (fun p hp => (hpl p hp).flat) _ ⟨fun _ => rfl, hgl.1, fun w' h1 h2 => S.gwm w w' h1 (fun b hb => h2 b hb fun h => h) hgl.2⟩ (⟨0, fun _ => .any⟩ : Fr S) (fun _ => False) (fun _ h => h.elim) hw (fun p hp => (hpl p hp).ins) (gh imm) _ w vs hr hargs).mono ?_
  rintro x w' he
  cases x with
  | returned v =>
    obtain ⟨r, m, g', h1, h2, h3, h4, h5, h6⟩ := he
    refine ⟨v, g'.imm, rfl, h5.immle, h5.imm, fun b o u hu => ?_, ?_, ?_⟩
    · rcases h5.immnew b o u hu with h | h | h
      · exact .inl h
      · exact .inr h
      · exact h.elim
    · obtain ⟨k1, k2, k3, k4, k5⟩ := h5.below
      exact ⟨k1, k2, k3, k4, fun k hk => k5 k hk (fun h => h)⟩
    · unfold OwnR at h1
      split at h1
      · subst h1
        exact .inl ⟨rfl, h6⟩
      · rename_i k u n1
        split at h1 <;> first | exact h1.elim | skip
        rename_i sz n' u' y pad hT
        split at h1 <;> first | exact h1.elim | skip
        rename_i hu
        obtain rfl := Nat.eq_of_beq_eq_true hu
        obtain ⟨rfl, rfl, rfl, h1⟩ := h1
        have h1 : y = l := h1
        subst h1
        have hT1 : (((emp 0 : XS S.A).withM m).over (emp 0)).T k = some ⟨szOf S u', y.length, some ⟨u', y, pad⟩⟩ := by
          show orE (m.T k) none = _
          rw [hT]; rfl
        have hT2 := den_T (F := (⟨0, fun _ => .any⟩ : Fr S)) hT1
        have hM := den_M (F := (⟨0, fun _ => .any⟩ : Fr S)) hT1
        obtain ⟨j1, _, j4⟩ := rep_prv hT2 h6
        obtain ⟨_, _, hp1, hp2, hp3, hp4⟩ := h5.prv k _ hM
        rw [hT2] at hp1
        simp only [Option.some.injEq, Prod.mk.injEq] at hp1
        obtain ⟨rfl, rfl⟩ := hp1
        rcases j4 rfl with ⟨b, c, hτ, hv⟩ | ⟨hτ, hl0, hv⟩
        · obtain ⟨hnone, cs, ty, hcs, hR⟩ := hp4 b c hτ
          obtain ⟨cs2, ty2, hcs2, hcsz, hmc, _, hF⟩ := h5.tip k _ _ b c hT2 hτ
          rw [hcs] at hcs2
          cases hcs2
          have hc9 : c ≤ 9223372036854775807 := by
            obtain ⟨A1, c1, k1, _, k2, _⟩ := j1
            rw [hv] at k1
            simp only [Value.slice.injEq] at k1
            rw [k1.2.2]; exact k2
          rw [szOf_eq] at hR hcsz
          exact .inr ⟨b, c, cs, ty, hv, hF.elim (fun h => h) (fun h => h.elim), hcs, hmc, hc9, hcsz, hnone, hR⟩
        · obtain rfl : y = [] := List.eq_nil_of_length_eq_zero hl0
          exact .inl ⟨rfl, hv⟩
      · exact h1.elim
  | panicked ch =>
    obtain ⟨p, s', g', v, ⟨m, h1, _⟩, _⟩ := he
    exact h1.elim
  | outgrown => exact he.elim
/-- The contract of a function of one argument that hands back a list of its own. -/
def own1F (P : Program) (t e : Nat) (W : S.A t → Prop × List (S.A e)) : List (AV S.A) → Option (Prop × List (S.A e))
  | [p] => (match dArg P t p with | some x => some (W x) | none => none)
  | _ => none
theorem own1_ok {n f t e : Nat} {W : S.A t → Prop × List (S.A e)} (hKK : KOk C.P C.K) (hmx : C.P.follows .mixedOrders = true) (hf : fnB C.P f = true)
    (h : ∀ x, OkA S 5 t x → (W x).1 → Xf C n (emp 0) f (argsA C [⟨t, x⟩]) (emp 0) (OwnR e (W x).2) (fun _ _ => False)) : ConOk C.P f (.own e (own1F C.P t e W)) ∧ ConMon (.own e (own1F (S := S) C.P t e W)) := by
  refine ⟨fun args hp l hl hh imm w vs hok hgl hargs => ?_, trivial⟩
  unfold own1F at hl
  split at hl
  · rename_i p
    split at hl
    · rename_i x hx
      have hl := Option.some.inj hl
      have el : l = (W x).2 := by rw [hl]
      have eh : hp = (W x).1 := by rw [hl]
      subst el eh
      obtain ⟨hfl, hw⟩ := dArg_wk hx
      have h1 : denV p = den2 p := den2_flat hfl
      have e1 : (den2 p).strip = (den2 p).strip2 := strip_other _ (fun cs e => by rw [← h1] at e; exact flat_ne hfl cs e)
      have hs : stripA p = (den2 p).strip2 := by show (denV p).strip = _; rw [h1, e1]
      have hOk : OkA S 5 t x := by
        obtain ⟨v, hv⟩ := repT_at (i := 0) hargs (q := stripA p) (by simp)
        rw [hs] at hv
        exact okA_arg hx (wk_repE hw hv) 5
      refine own_run hKK hmx hf (argsA_plain [⟨t, x⟩]) (h x hOk hh) imm w vs hok hgl ?_
      rw [show (argsA C [⟨t, x⟩]).map stripA = (argsA C [⟨t, x⟩]).map denV from List.map_congr_left fun p hp => (argsA_plain [⟨t, x⟩] p hp).strip]
      refine wk_repT (.cons ?_ .nil) hargs
      show Ab.WkA (stripA p) (denV (argA C.P t x))
      rw [hs, den2_flat (plain_arg (P := C.P) t x).flat]
      exact hw
    · cases hl
  · cases hl
end
end Go.Rx
/-! Loops that end, and turns of what is left to show. -/
namespace Go.Rx
open Go.Ab Go.RowKit
theorem of_eq {p q : Prop} (h : p = q) (hq : q) : p := h ▸ hq
theorem LOOP.of {ι : Type} {step : ι → (ι → Prop) → Prop} {x : ι} (I : ι → Prop) (μ : ι → Nat) (h0 : I x) (hs : ∀ y, I y → ∀ J : ι → Prop, (∀ z, I z → μ z < μ y → J z) → step y J) : LOOP step x := by
  refine ⟨fun J hJ => ?_⟩
  have key : ∀ n y, μ y = n → I y → J y := by
    intro n
    induction n using Nat.strongRecOn with
    | _ n ih =>
      intro y hn hI
      exact hJ y (hs y hI J fun z hz hlt => ih (μ z) (hn ▸ hlt) z rfl hz)
  exact key _ x rfl h0
theorem bif_of {b : Bool} {p q : Prop} (h1 : b = true → p) (h2 : b = false → q) : bif b then p else q := by
  cases b
  · exact h2 rfl
  · exact h1 rfl
/-- The contract of a function, where the package variables hold what they do. -/
def PFg (S : Sys) (P : Program) (f : FuncId) (args : List PV) (r : PV) : Prop :=
  ∀ (imm : Imm) (w : World) (vs : List Value), ImmOk imm w → GlobW S imm w → RepT noT (gh imm) args vs → Calls P f vs.toArray w fun e w' =>
    ∃ v imm', e = .returned v ∧ Imm.le imm imm' ∧ ImmOk imm' w' ∧ (∀ b o u, imm' b o = some u → imm b o = some u ∨ w.heap.size ≤ b) ∧ Rep noT (gh imm') r v ∧ Below w.heap.size w w'
theorem pf_of_pfk {S : Sys} {P : Program} {f : FuncId} {args : List PV} {r : AV S.A} (h : PFk (S := S) P f args (fun q => q = r)) : PFg S P f args (denV r) := by
  intro imm w vs hok hgl hargs
  refine (h imm w vs hok hgl hargs).mono ?_
  rintro e w' ⟨r', v, imm', rfl, _, rfl, h1, h2, h3, h4, h5⟩
  exact ⟨v, imm', rfl, h1, h2, h3, h4, h5⟩
end Go.Rx
/-! Functions that defer a call. -/
namespace Go.Rx
open Go.Ab Go.RowKit
set_option linter.unusedVariables false
set_option linter.unusedSimpArgs false
section
variable {S : Sys} {C : Cfg S} {B : Base} {F : Fr S} {Q : Nat → Prop}
/-- The state in which a function begins. -/
def entS (s b : XS S.A) (args : List (AV S.A)) : XS S.A := { (s.over b) with env := fun i => args[i]? }
theorem enter_rel {b s : XS S.A} {N : Nat} {args : List (AV S.A)} {vs : List Value} {g : Gh} {a : Act} {w : World} (hr : Rel B (den F (s.over b)) g a w) (hvs : RepT (denTT (s.over b).T) g (args.map denV) vs) (hla : args.length ≤ N) (hfl : ∀ p ∈ args, flatA p = true) (hw : WF Q F (s.over b)) (ha : ∀ p ∈ args, inV Q p) :
    Rel (innerB B N a) (den (inner F N (s.over b)) ((emp s.c).over (entS s b args))) g { tmps := vs.toArray ++ Array.replicate (N - vs.toArray.size) undef, defers := [] } w ∧ WF (Bd Q s.c (emp s.c : XS S.A).c) (inner F N (s.over b)) ((emp s.c).over (entS s b args)) ∧ ∀ i, noG (getN (inner F N (s.over b)).N (entS s b args) i) := by
    have hlv : vs.length = args.length := by have := repT_length hvs; simpa using this
    generalize hβ : entS s b args = β
    unfold entS at hβ
    have bL : β.L = (s.over b).L := by subst hβ; rfl
    have bT : β.T = (s.over b).T := by subst hβ; rfl
    have bE : β.env = fun i => args[i]? := by subst hβ; rfl
    have eL : ((emp s.c : XS S.A).over β).L = (s.over b).L := by rw [← bL]; rfl
    have eT : ((emp s.c : XS S.A).over β).T = (s.over b).T := by rw [← bT]; rfl
    have eG : ∀ i, ((emp s.c : XS S.A).over β).get i = match args[i]? with | some p => p | none => .any := by
      intro i
      rw [over_get]
      show β.get i = _
      unfold XS.get
      rw [bE]
      cases hp : args[i]? <;> simp only [hp]
    have gB : ∀ i, β.get i = match args[i]? with | some p => p | none => .any := by
      intro i; unfold XS.get; rw [bE]; cases hp : args[i]? <;> simp only [hp]
    have hNs : (vs.toArray ++ Array.replicate (N - vs.toArray.size) undef).size = N := by simp; omega
    have hr0 : Rel (innerB B N a) (den (inner F N (s.over b)) ((emp s.c).over β)) g { tmps := vs.toArray ++ Array.replicate (N - vs.toArray.size) undef, defers := [] } w := by
      refine ⟨hNs, fun t => ?_, rfl, hr.imm, ?_, ?_, ?_, ?_, ?_, hr.below, hr.immle, hr.immnew, hr.pin, ?_⟩
      · show Rep (denTT ((emp s.c).over β).T) g (cond (Nat.blt t N) (denV (((emp s.c).over β).get t)) (denV ((inner F N (s.over b)).ext t))) _
        rw [eT]
        cases ht : Nat.blt t N with
        | true =>
          have ht' := blt ht
          have h1 := repT_get hvs t undef
          rw [eG]
          have e1 : (vs.toArray ++ Array.replicate (N - vs.toArray.size) undef).getD t ((innerB B N a).ext t) = vs.getD t undef := by
            rw [Array.getD_eq_getD_getElem?, List.getD_eq_getElem?_getD]
            by_cases ht2 : t < vs.length
            · rw [Array.getElem?_append_left (by simpa using ht2)]; simp [ht2]
            · rw [Array.getElem?_append_right (by simpa using ht2), List.getElem?_eq_none (by omega), Array.getElem?_replicate]
              rw [if_pos (by simp; omega)]; rfl
          show Rep _ g (denV _) ((vs.toArray ++ Array.replicate (N - vs.toArray.size) undef).getD t _)
          rw [e1]
          rw [List.getD_eq_getElem?_getD, List.getElem?_map] at h1
          cases hp : args[t]? with
          | none => trivial
          | some p => rw [hp] at h1; exact h1
        | false =>
          have ht' : N ≤ t := by
            rcases Nat.lt_or_ge t N with h | h
            · have : Nat.blt t N = true := Nat.ble_eq_true_of_le h
              rw [ht] at this; cases this
            · exact h
          show Rep _ g (denV (bif Nat.blt t N then .any else (bif Nat.blt (t - N) F.N then (s.over b).get (t - N) else F.ext (t - N)))) ((vs.toArray ++ Array.replicate (N - vs.toArray.size) undef).getD t _)
          rw [ht, getD_ge (by rw [hNs]; exact ht')]
          have := hr.env (t - N)
          have this : Rep (denTT (s.over b).T) g (cond (Nat.blt (t - N) F.N) (denV ((s.over b).get (t - N))) (denV (F.ext (t - N)))) (a.tmps.getD (t - N) (B.ext (t - N))) := this
          simp only [cond_false]
          show Rep _ g _ (a.tmps.getD (t - N) (B.ext (t - N)))
          cases hk : Nat.blt (t - N) F.N <;> (rw [hk] at this; exact this)
      · intro i ps hi
        exact (show ∃ cs ty, w.heap[g.β i]? = some (.cells cs ty (0, 0)) ∧ RepL (denTT ((emp s.c).over β).T) g ps cs.toList ∧ _ by rw [eT]; exact hr.box i ps (by show ((s.over b).L i).map _ = _; rw [← eL]; exact hi))
      · intro i i' ps ps' h1 h2
        exact hr.apart i i' ps ps' (by show ((s.over b).L i).map _ = _; rw [← eL]; exact h1) (by show ((s.over b).L i').map _ = _; rw [← eL]; exact h2)
      · intro t sz m b' c h1 h2
        exact hr.tip t sz m b' c (by show denTT (s.over b).T t = _; rw [← eT]; exact h1) h2
      · intro t t' x x' b' b'' c c' h1 h2
        exact hr.tips t t' x x' b' b'' c c' (by show denTT (s.over b).T t = _; rw [← eT]; exact h1) (by show denTT (s.over b).T t' = _; rw [← eT]; exact h2)
      · intro i ps t x b' c h1 h2
        exact hr.boxtip i ps t x b' c (by show ((s.over b).L i).map _ = _; rw [← eL]; exact h1) (by show denTT (s.over b).T t = _; rw [← eT]; exact h2)
      · intro t ps hps
        have := hr.prv t ps (by show denM (s.over b).T t = _; rw [← eT]; exact hps)
        exact this.mono (by show denTT ((emp s.c).over β).T t = denTT (s.over b).T t; rw [eT]) rfl (Imm.le_refl _) fun _ _ _ => ⟨fun _ => rfl, rfl⟩
    have argIn : ∀ (i : Nat) (p : AV S.A), args[i]? = some p → inV Q p ∧ noG p := by
      intro i p hp
      have hm := List.mem_of_getElem? hp
      exact ⟨ha p hm, by have := hfl p hm; cases p <;> first | trivial | cases this⟩
    have hw0 : WF (Bd Q s.c (emp s.c : XS S.A).c) (inner F N (s.over b)) ((emp s.c).over β) := by
      refine ⟨fun i => ?_, fun i ps hi => ?_, fun q x hq => ?_, fun i => ?_⟩
      · unfold getN
        cases Nat.blt i (inner F N (s.over b)).N with
        | false => trivial
        | true =>
          simp only [cond_true]
          rw [eG]
          cases hp : args[i]? with
          | none => trivial
          | some p => exact inV_mono (fun _ => .inl) (argIn i p hp).1
      · rw [eL] at hi
        have := hw.L i ps hi
        exact ⟨.inl this.1, fun p hp => in1_mono (fun _ => .inl) (this.2 p hp)⟩
      · rw [eT] at hq; exact .inl (hw.T q x hq)
      · refine inV_mono (fun _ => .inl) ?_
        show inV Q (bif Nat.blt i N then .any else (bif Nat.blt (i - N) F.N then (s.over b).get (i - N) else F.ext (i - N)))
        cases Nat.blt i N with
        | true => trivial
        | false =>
          cases hk : Nat.blt (i - N) F.N with
          | true => exact hw.get hk
          | false => exact hw.ext _
    have hbn : ∀ i, noG (getN (inner F N (s.over b)).N β i) := by
      intro i
      unfold getN
      cases Nat.blt i (inner F N (s.over b)).N with
      | false => trivial
      | true =>
        simp only [cond_true]
        rw [gB]
        cases hp : args[i]? with
        | none => trivial
        | some p => exact (argIn i p hp).2
    exact ⟨hr0, hw0, hbn⟩
/-- The state behind a call, as its caller sees it. -/
theorem leave_rel {b s : XS S.A} {N : Nat} {args : List (AV S.A)} {g g' : Gh} {a a' : Act} {w w' : World} {s' : XS S.A} (hr : Rel B (den F (s.over b)) g a w) (hw : WF Q F (s.over b)) (hws : WF (Bd Q s.c s'.c) (inner F N (s.over b)) (s'.over (entS s b args))) (hr' : Rel (innerB B N a) (den (inner F N (s.over b)) (s'.over (entS s b args))) g' a' w')
    {m : XS S.A} (hmL : m.L = fun i => orE (s'.L i) (s.L i)) (hmT : m.T = fun i => orE (s'.T i) (s.T i)) : Rel B (den F ((s.withM m).over b)) g' a w' ∧ WF (Bd Q s.c s'.c) F ((s.withM m).over b) ∧ ((s.withM m).over b).T = (s'.over (entS s b args)).T := by
    generalize hβ : entS s b args = β at hws hr' ⊢
    unfold entS at hβ
    have bL : β.L = (s.over b).L := by subst hβ; rfl
    have bT : β.T = (s.over b).T := by subst hβ; rfl
    -- the state behind the call, as its caller sees it
    have mL : ∀ (m : XS S.A), m.L = (fun i => orE (s'.L i) (s.L i)) → ((s.withM m).over b).L = (s'.over β).L := by
      intro m hm
      funext i
      show orE (m.L i) (b.L i) = orE (s'.L i) (β.L i)
      rw [hm, bL]
      show orE (orE (s'.L i) (s.L i)) (b.L i) = orE (s'.L i) (orE (s.L i) (b.L i))
      cases s'.L i <;> rfl
    have mT : ∀ (m : XS S.A), m.T = (fun i => orE (s'.T i) (s.T i)) → ((s.withM m).over b).T = (s'.over β).T := by
      intro m hm
      funext i
      show orE (m.T i) (b.T i) = orE (s'.T i) (β.T i)
      rw [hm, bT]
      show orE (orE (s'.T i) (s.T i)) (b.T i) = orE (s'.T i) (orE (s.T i) (b.T i))
      cases s'.T i <;> rfl
    have mG : ∀ (m : XS S.A) i, ((s.withM m).over b).get i = (s.over b).get i := fun m i => rfl
    have back : ∀ (m : XS S.A), m.L = (fun i => orE (s'.L i) (s.L i)) → m.T = (fun i => orE (s'.T i) (s.T i)) → Rel (innerB B N a) (den (inner F N (s.over b)) (s'.over β)) g' a' w' → Rel B (den F ((s.withM m).over b)) g' a w' := by
      intro m h1 h2 hr'
      have e1 := mL m h1
      have e2 := mT m h2
      refine ⟨hr.size, fun t => ?_, hr.defers, hr'.imm, ?_, ?_, ?_, ?_, ?_, hr'.below, hr'.immle, hr'.immnew, hr'.pin, ?_⟩
      · have h3 := hr'.env (N + t)
        have hge : a'.tmps.size ≤ N + t := by rw [hr'.size]; exact Nat.le_add_right _ _
        rw [getD_ge hge] at h3
        have hlt : Nat.blt (N + t) N = false := by
          cases hq : Nat.blt (N + t) N with
          | false => rfl
          | true => have := blt hq; omega
        have h3 : Rep (denTT (s'.over β).T) g' (cond (Nat.blt (N + t) N) (denV ((s'.over β).get (N + t))) (denV (bif Nat.blt (N + t) N then .any else (bif Nat.blt (N + t - N) F.N then (s.over b).get (N + t - N) else F.ext (N + t - N))))) (a.tmps.getD (N + t - N) (B.ext (N + t - N))) := h3
        rw [hlt, Nat.add_sub_cancel_left] at h3
        show Rep (denTT ((s.withM m).over b).T) g' (cond (Nat.blt t F.N) (denV ((s.over b).get t)) (denV (F.ext t))) _
        rw [e2]
        simp only [cond_false] at h3
        cases hk : Nat.blt t F.N <;> (rw [hk] at h3; exact h3)
      · intro i ps hi
        have := hr'.box i ps (by show ((s'.over β).L i).map _ = _; rw [← e1]; exact hi)
        show ∃ cs ty, w'.heap[g'.β i]? = some (.cells cs ty (0, 0)) ∧ RepL (denTT ((s.withM m).over b).T) g' ps cs.toList ∧ _
        rw [e2]
        exact this
      · intro i i' ps ps' k1 k2
        exact hr'.apart i i' ps ps' (by show ((s'.over β).L i).map _ = _; rw [← e1]; exact k1) (by show ((s'.over β).L i').map _ = _; rw [← e1]; exact k2)
      · intro t sz m' b' c k1 k2
        exact hr'.tip t sz m' b' c (by show denTT (s'.over β).T t = _; rw [← e2]; exact k1) k2
      · intro t t' x x' b' b'' c c' k1 k2
        exact hr'.tips t t' x x' b' b'' c c' (by show denTT (s'.over β).T t = _; rw [← e2]; exact k1) (by show denTT (s'.over β).T t' = _; rw [← e2]; exact k2)
      · intro i ps t x b' c k1 k2
        exact hr'.boxtip i ps t x b' c (by show ((s'.over β).L i).map _ = _; rw [← e1]; exact k1) (by show denTT (s'.over β).T t = _; rw [← e2]; exact k2)
      · intro t ps hps
        have := hr'.prv t ps (by show denM (s'.over β).T t = _; rw [← e2]; exact hps)
        exact this.mono (by show denTT ((s.withM m).over b).T t = denTT (s'.over β).T t; rw [e2]) rfl (Imm.le_refl _) fun _ _ _ => ⟨fun _ => rfl, rfl⟩
    have wfm : ∀ (m : XS S.A), m.L = (fun i => orE (s'.L i) (s.L i)) → m.T = (fun i => orE (s'.T i) (s.T i)) → WF (Bd Q s.c s'.c) F ((s.withM m).over b) := by
      intro m h1 h2
      have e1 := mL m h1
      have e2 := mT m h2
      exact ⟨fun i => inV_mono (fun _ => .inl) (hw.env i), fun i ps hi => hws.L i ps (by rw [← e1]; exact hi), fun q x hq => hws.T q x (by rw [← e2]; exact hq), fun i => inV_mono (fun _ => .inl) (hw.ext i)⟩
    exact ⟨back m hmL hmT hr', wfm m hmL hmT, mT m hmT⟩
/-! ### A deferred call that asks for what was thrown -/
theorem wpOpsS_cons {P : Program} {ops : Array Oper} {Qf : Exit → Act → List Frame → World → Prop} {i : Nat} {rest : List Nat} {a : Act} {cs : List Frame} {w : World} {o : Oper} (ho : ops[i]? = some o)
    (h : if Region.wanted o (yielded ops a.tmps) then o.wp P a w (fun a' w' => wpOpsS P ops Qf rest a' cs w') (fun e a' w' => Qf e a' cs w') else wpOpsS P ops Qf rest (a.put o.dst undef) cs w) : wpOpsS P ops Qf (i :: rest) a cs w := by
  simp only [wpOpsS, ho]
  split
  · rename_i hw
    rw [if_pos hw] at h
    unfold Oper.wp at h
    revert h
    generalize (execOp a.eval o).run P w = r
    intro h
    split
    · exact (h : False).elim
    · exact h
  · rename_i hw
    rw [if_neg hw] at h
    exact h
theorem seqS_sound {call : XS S.A → CallT S} {K0 : Nat → Prop} {l0 lo : Nat} {b : XS S.A} (hK0 : ∀ n, K0 n → n < l0) (hC : Ok C call) (hpin : POk S B) {ops : Array Oper} {cs : List Frame} {Qf : Exit → Act → List Frame → World → Prop} {kS : XS S.A → Prop}
    (hkS : ∀ s' g a w, kS s' → lo ≤ s'.c → WF (Bd K0 l0 s'.c) F (s'.over b) → Rel B (den F (s'.over b)) g a w → Qf .normal a cs w) (hl0 : l0 ≤ lo) :
    ∀ (l : List Oper) (i : Nat) (s : XS S.A), (∀ j, l[j]? = ops[i + j]?) → runS C F.N (call b) b ops.toList (fun _ s => s.c) (fun s => { s with c := s.c + 1 }) (fun _ _ => False) (numd i l) s kS → lo ≤ s.c → WF (Bd K0 l0 s.c) F (s.over b) → ∀ g a w, Rel B (den F (s.over b)) g a w → wpOpsS C.P ops Qf (List.range' i l.length) a cs w
  | [], i, s, _, h, hc, hw, g, a, w, hr => hkS s g a w h hc hw hr
  | o :: l, i, s, hl, h, hc, hw, g, a, w, hr => by
    have ho : ops[i]? = some o := by have := hl 0; simpa using this.symm
    show wpOpsS C.P ops Qf (i :: List.range' (i + 1) l.length) a cs w
    refine wpOpsS_cons ho ?_
    refine step_sound (hC.ok b) hC.K hpin (Q := Bd K0 l0 s.c) (id := s.c) (fun n hn => hn.lt hK0 (Nat.le_trans hl0 hc)) (fun hn => Nat.lt_irrefl _ (hn.lt hK0 (Nat.le_trans hl0 hc))) hw h hr _ _ ?_ ?_
    · rintro a' w' ⟨s', g', h1, h2, h3, h4⟩
      refine seqS_sound hK0 hC hpin hkS hl0 l (i + 1) { s' with c := s'.c + 1 } (fun j => by have := hl (j + 1); rw [show i + 1 + j = i + (j + 1) by omega]; simpa using this) h1 (by show lo ≤ s'.c + 1; omega) ?_ g' a' w' h4
      refine WF.setc (h3.mono fun n hn => ?_) _
      show Bd K0 l0 (s'.c + 1) n
      rcases hn with (hn | hn) | hn
      · exact hn.up (by omega)
      · exact .inr ⟨by omega, by omega⟩
      · exact .inr ⟨by omega, by omega⟩
    · rintro e a' w' ⟨ch, rfl, p, s', g', v, h1, _⟩
      exact h1.elim
def isRec : Op → Bool
  | .call c => (match c.callee, c.args with
    | .builtin .recover, ⟨[]⟩ => true
    | _, _ => false)
  | _ => false
theorem isRec_run {P : Program} {o : Oper} (h : isRec o.op = true) (ρ : Operand → Value) (w : World) : (execOp ρ o).run P w = .ok .recover w := by
  unfold isRec at h
  split at h
  · rename_i c hc
    obtain ⟨callee, args, ats⟩ := c
    split at h
    · rename_i h1 h2
      simp only at h1 h2
      subst h1 h2
      simp only [execOp, hc, resolve]
      rw [run_bind, run_pure]
      rfl
    · cases h
  · cases h
def locsOf {A : Nat → Type} (ls : List (Option Nat)) : List (AV A) := ls.map fun o => match o with | some s => .loc s 0 | none => .sc (.pointer none)
/-- The run of a deferred function that begins with recover, which hands it v. -/
def Xd (C : Cfg S) (n fd : Nat) (ls : List (Option Nat)) (b s : XS S.A) (v : AV S.A) (k : XS S.A → Prop) : Prop := match C.P.funcs[fd]? with
  | some fn => (match fn.body, fn.results with
    | some (.seq (.region rid ⟨rc :: l⟩ false) rest), ⟨[]⟩ => (match rc.dst, rc.guard, isRec rc.op with
      | some d, none, true => bif (Nat.blt d fn.ntmps && Nat.ble ls.length fn.ntmps) && regOk (rc :: l) [] (numd 1 l) then
          runM (C.rg ((Ab.look C.ann fd).getD []) rid false) fn.ntmps (Xf C n (entS s b (locsOf ls))) (entS s b (locsOf ls)) (rc :: l) (fun _ s => s.c) (fun s => { s with c := s.c + 1 }) (fun _ _ => False) (numd 1 l) ((emp s.c : XS S.A).put d v) (fun _ => none)
            (fun s' => Xc C ((Ab.look C.ann fd).getD []) fn.ntmps (Xf C n) rest (entS s b (locsOf ls)) (clearG s') (fun e s'' => match e with
              | .normal => k { s with L := fun i => orE (s''.L i) (s.L i), T := fun i => orE (s''.T i) (s.T i), c := s''.c }
              | .ret => k { s with L := fun i => orE (s''.L i) (s.L i), T := fun i => orE (s''.T i) (s.T i), c := s''.c }
              | _ => False))
        else False
      | _, _, _ => False)
    | _, _ => False)
  | none => False
theorem flat_locs (ls : List (Option Nat)) : ∀ p ∈ (locsOf ls : List (AV S.A)), flatA p = true := by
  intro p hp
  obtain ⟨x, _, rfl⟩ := List.mem_map.1 hp
  cases x <;> rfl
theorem repT_locs {T : Nat → Option (Nat × Nat)} {g : Gh} (ls : List (Option Nat)) : RepT T g ((locsOf ls : List (AV S.A)).map denV) (ls.map (cap g.β)) := by
  unfold locsOf
  rw [List.map_map]
  exact repT_caps ls
theorem xd_sound {n fd : Nat} {ls : List (Option Nat)} {b s : XS S.A} {v : AV S.A} {k : XS S.A → Prop} (hC : Ok C (Xf C n)) (h : Xd C n fd ls b s v k) (hpin : POk S B) (hQ : ∀ n, Q n → n < s.c) (hw : WF Q F (s.over b)) (hls : ∀ x, some x ∈ ls → Q x) (hvi : inV Q v) (hvn : noG v)
    {g : Gh} {a : Act} {w : World} (hr : Rel B (den F (s.over b)) g a w) {u u' : FrameMode} {val : Value}
    (hrec : ∀ (c₀ : Frame) (cs : List Frame), c₀.mode = u → recoverD (c₀ :: cs) = some (val, { c₀ with mode := u' } :: cs) ∨ (recoverD (c₀ :: cs) = none ∧ val = .nilIface ∧ u' = u)) (hval : Rep (denTT (s.over b).T) g (denV v) val) :
    CallsD C.P fd (ls.map (cap g.β)).toArray u w fun e u2 w' => (∃ r, e = .returned r) ∧ u2 = u' ∧ ∃ s1 g', k s1 ∧ s.c ≤ s1.c ∧ (∀ i, (s1.over b).get i = (s.over b).get i) ∧ Rel B (den F (s1.over b)) g' a w' ∧ WF (Bd Q s.c s1.c) F (s1.over b) := by
  unfold Xd at h
  split at h <;> first | exact h.elim | skip
  rename_i fn hfn
  split at h <;> first | exact h.elim | skip
  rename_i rid rc l rest hbody hres
  split at h <;> first | exact h.elim | skip
  rename_i d hd hg hisr
  cases hok : ((Nat.blt d fn.ntmps && Nat.ble ls.length fn.ntmps) && regOk (rc :: l) [] (numd 1 l)) with
  | false => rw [hok] at h; exact h.elim
  | true =>
  rw [hok] at h
  simp only [cond_true] at h
  simp only [Bool.and_eq_true] at hok
  obtain ⟨⟨hdN, hlN⟩, hreg⟩ := hok
  have hla := Nat.le_of_ble_eq_true hlN
  have hai : ∀ p ∈ (locsOf ls : List (AV S.A)), inV Q p := by
    intro p hp
    obtain ⟨x, hx, rfl⟩ := List.mem_map.1 hp
    cases x with
    | none => trivial
    | some z => exact hls z hx
  obtain ⟨hr0, hw0, hbn⟩ := enter_rel (N := fn.ntmps) (args := locsOf ls) (vs := ls.map (cap g.β)) hr (repT_locs ls) (by simpa [locsOf] using hla) (flat_locs ls) hw hai
  refine callsD_of_wpS hfn hbody fun c₀ cs hu => ?_
  have eT : ((emp s.c : XS S.A).over (entS s b (locsOf ls))).T = (s.over b).T := rfl
  refine wpS_seq (wpS_region ?_)
  -- recover
  have hrange : List.range (⟨rc :: l⟩ : Array Oper).size = 0 :: List.range' 1 l.length := by
    show List.range (l.length + 1) = _
    rw [List.range_eq_range']
    rfl
  rw [hrange]
  have hput : ∀ a0 : Act, Rel (innerB B fn.ntmps a) (den (inner F fn.ntmps (s.over b)) ((emp s.c).over (entS s b (locsOf ls)))) g a0 w → Rel (innerB B fn.ntmps a) (den (inner F fn.ntmps (s.over b)) (((emp s.c).put d v).over (entS s b (locsOf ls)))) g (a0.put (some d) val) w := by
    intro a0 h0
    rw [over_put, den_put (by exact hdN)]
    exact h0.put (blt hdN) (by exact hval)
  have hwp : WF (Bd Q s.c ((emp s.c : XS S.A).put d v).c) (inner F fn.ntmps (s.over b)) (((emp s.c).put d v).over (entS s b (locsOf ls))) := by
    rw [over_put]
    exact hw0.put (inV_mono (fun _ => .inl) hvi)
  have hng : ∀ i, noG (getN (inner F fn.ntmps (s.over b)).N (((emp s.c).put d v).over (entS s b (locsOf ls))) i) := fun i => noG_in (hwp.env i)
  -- what is behind it
  have main : ∀ cs1 : List Frame, cs1 = { c₀ with mode := u' } :: cs → wpOpsS C.P ⟨rc :: l⟩ (Exit.thenS (rest.wpS C.P (bodyPostS C.P fn c₀ cs fun e u2 w' => (∃ r, e = .returned r) ∧ u2 = u' ∧ ∃ s1 g', k s1 ∧ s.c ≤ s1.c ∧ (∀ i, (s1.over b).get i = (s.over b).get i) ∧ Rel B (den F (s1.over b)) g' a w' ∧ WF (Bd Q s.c s1.c) F (s1.over b)))
      (bodyPostS C.P fn c₀ cs fun e u2 w' => (∃ r, e = .returned r) ∧ u2 = u' ∧ ∃ s1 g', k s1 ∧ s.c ≤ s1.c ∧ (∀ i, (s1.over b).get i = (s.over b).get i) ∧ Rel B (den F (s1.over b)) g' a w' ∧ WF (Bd Q s.c s1.c) F (s1.over b))) (List.range' 1 l.length)
      ({ tmps := (ls.map (cap g.β)).toArray ++ Array.replicate (fn.ntmps - (ls.map (cap g.β)).toArray.size) undef, defers := [] : Act }.put (some d) val) cs1 w := by
    intro cs1 hcs1
    have hrun := run_mg (C := C.rg ((Ab.look C.ann fd).getD []) rid false) (hC.cm (entS s b (locsOf ls))) hC.km (kp := fun _ _ => False) (fun p M s h1 h2 h3 h4 => h4) (N := fn.ntmps) (idf := fun _ s => s.c) (nx := fun s => { s with c := s.c + 1 })
      (kS := fun s' => ∃ M D kn, Mg fn.ntmps (entS s b (locsOf ls)) D kn M s' ∧ Xc C ((Ab.look C.ann fd).getD []) fn.ntmps (Xf C n) rest (entS s b (locsOf ls)) (clearG M) (fun e s'' => match e with
              | .normal => k { s with L := fun i => orE (s''.L i) (s.L i), T := fun i => orE (s''.T i) (s.T i), c := s''.c }
              | .ret => k { s with L := fun i => orE (s''.L i) (s.L i), T := fun i => orE (s''.T i) (s.T i), c := s''.c }
              | _ => False))
      (fun i M s e => e) (fun D kn M s h => h.mem2 (M' := { M with c := M.c + 1 }) (s' := { s with c := s.c + 1 }) rfl rfl h.L h.T (by show M.c + 1 = s.c + 1; rw [h.c])) (fun D kn M s h hk => ⟨M, D, kn, h, hk⟩) (numd 1 l) [] (fun _ => none) _ _ hreg (mg0 (F := inner F fn.ntmps (s.over b)) hng) h
    refine seqS_sound (C := C.rg ((Ab.look C.ann fd).getD []) rid false) (ops := ⟨rc :: l⟩) (F := inner F fn.ntmps (s.over b)) (b := entS s b (locsOf ls)) (lo := s.c) (K0 := Q) (l0 := s.c) hQ (hC.rg _ rid false) (B := innerB B fn.ntmps a) ⟨hpin.pin, hpin.gl, hpin.wd⟩ ?_ (Nat.le_refl _) l 1 _ (fun j => by rw [Nat.add_comm]; simp) hrun (Nat.le_refl _) hwp g _ w (hput _ hr0)
    rintro s' g' a' w' ⟨M, D, kn, hm, hX⟩ hc' hw' hr'
    obtain ⟨k1, k2⟩ := clear_weak hbn hm hw' hr'
    have hcc : (clearG M).c = s'.c := hm.c
    have key := xc_sound (F := inner F fn.ntmps (s.over b)) (B := innerB B fn.ntmps a) (K0 := Q) (l0 := s.c) hQ hC ⟨hpin.pin, hpin.gl, hpin.wd⟩ rest (entS s b (locsOf ls)) (clearG M) _ hbn (by rw [hcc]; exact hc') (by rw [hcc]; exact k1) hX _ a' w' k2
    refine wpS_of_wp (wp_mono key ?_)
    rintro e a2 w2 ⟨σ, g2, hr2, ⟨s2, hc2, hws2, hmatch⟩, hpay⟩
    have fin : σ = den (inner F fn.ntmps (s.over b)) (s2.over (entS s b (locsOf ls))) → k { s with L := fun i => orE (s2.L i) (s.L i), T := fun i => orE (s2.T i) (s.T i), c := s2.c } →
        a2.defers = [] ∧ ∃ u2, cs1 = { c₀ with mode := u2 } :: cs ∧ ∃ v, (results fn a2.tmps).run C.P w2 = .ok v w2 ∧ ((∃ r, Ending.returned v = .returned r) ∧ u2 = u' ∧ ∃ s1 g', k s1 ∧ s.c ≤ s1.c ∧ (∀ i, (s1.over b).get i = (s.over b).get i) ∧ Rel B (den F (s1.over b)) g' a w2 ∧ WF (Bd Q s.c s1.c) F (s1.over b)) := by
      intro hσ hk
      subst hσ
      obtain ⟨j1, j2, _⟩ := leave_rel (m := { s with L := fun i => orE (s2.L i) (s.L i), T := fun i => orE (s2.T i) (s.T i), c := s2.c }) hr hw hws2 hr2 rfl rfl
      refine ⟨hr2.defers, u', hcs1, .tuple #[], by rw [results_eq, hres]; simp [run_bind, run_pure], ⟨_, rfl⟩, rfl, _, g2, hk, ?_, fun i => rfl, j1, j2⟩
      show s.c ≤ s2.c
      rw [hcc] at hc2
      omega
    cases e with
    | normal => exact fin hmatch.1 hmatch.2
    | ret => exact fin hmatch.1 hmatch.2
    | exit id => exact hmatch.2.elim
    | goto l => exact hmatch.elim
    | outgrown => exact hmatch.elim
    | panic ch => obtain ⟨p, _, _, hp⟩ := hmatch; exact hp.elim
  have h0 : (⟨rc :: l⟩ : Array Oper)[0]? = some rc := rfl
  simp only [wpOpsS, h0]
  have hwant : Region.wanted rc (yielded ⟨rc :: l⟩ ((ls.map (cap g.β)).toArray ++ Array.replicate (fn.ntmps - (ls.map (cap g.β)).toArray.size) undef)) = true := by simp [Region.wanted, hg]
  rw [if_pos hwant, isRec_run hisr]
  simp only [hd]
  rcases hrec c₀ cs hu with h1 | ⟨h1, rfl, rfl⟩
  · rw [h1]
    exact main _ rfl
  · rw [h1]
    exact main _ (by subst hu; rfl)
/-! ### A function that defers one call -/
def isDfr (t : Nat) : Op → Bool
  | .defer c => (match c.callee, c.args with
    | .value (.tmp x), ⟨[]⟩ => Nat.beq x t
    | _, _ => false)
  | _ => false
/-- The code of such a function. -/
structure Dfr where
  A : Code
  Bc : Code
  rid : Nat
  mkf : Oper
  df : Oper
  rest : Code
  fd : Nat
  d : Nat
  caps : List Operand
def Dfr.code (D : Dfr) : Code := .seq D.A (.seq D.Bc (.seq (.region D.rid ⟨[D.mkf, D.df]⟩ false) D.rest))
/-- The run of such a function. -/
def Xg (C : Cfg S) (n : Nat) (an : List (Nat × Ann)) (fn : Func) (D : Dfr) (args : List (AV S.A)) (k : AV S.A → Prop) : Prop :=
  Xc C an fn.ntmps (Xf C n) D.A (entS (emp 0) (emp 0) args) (emp 0) (fun e s1 => match e with
    | .normal => Xc C an fn.ntmps (Xf C n) D.Bc (entS (emp 0) (emp 0) args) s1 (fun e s2 => match e with
      | .normal => (match capsA (D.caps.map (evA (getN fn.ntmps (s2.over (entS (emp 0) (emp 0) args))))) with
        | some ls => Xc C an fn.ntmps (Xf C n) D.rest (entS (emp 0) (emp 0) args) (s2.put D.d (.clo D.fd ls)) (fun e s3 => match e with
          | .ret => Xd C n D.fd ls (entS (emp 0) (emp 0) args) s3 (.sc .nilIface) (fun s4 => match resAll C fn.ntmps (s4.over (entS (emp 0) (emp 0) args)) fn.results.toList with
            | some ps => k (tupA ps)
            | none => False)
          | .panic p => Xd C n D.fd ls (entS (emp 0) (emp 0) args) s3 p (fun s4 => match resAll C fn.ntmps (s4.over (entS (emp 0) (emp 0) args)) fn.results.toList with
            | some ps => k (tupA ps)
            | none => False)
          | _ => False)
        | none => False)
      | _ => False)
    | _ => False)
theorem capsA_in {get : Nat → AV S.A} {Q : Nat → Prop} (hg : ∀ x, inV Q (evA get x)) {xs : List Operand} {ls : List (Option Nat)} (h : capsA (xs.map (evA get)) = some ls) : ∀ x, some x ∈ ls → Q x :=
  in_caps (fun p hp => by obtain ⟨x, _, rfl⟩ := List.mem_map.1 hp; exact hg x) h
theorem pf_defer {n f : Nat} {fn : Func} {D : Dfr} {args : List (AV S.A)} {rts : List Nat} {y : HR S rts} (hKK : KOk C.P C.K) (hmx : C.P.follows .mixedOrders = true) (hfn : C.P.funcs[f]? = some fn) (hbody : fn.body = some D.code)
    (hmk : D.mkf.op = .makeFunc (.func D.fd) #[] D.caps.toArray) (hmd : D.mkf.dst = some D.d) (hmg : D.mkf.guard = none) (hdN : Nat.blt D.d fn.ntmps = true) (hdo : isDfr D.d D.df.op = true) (hdg : D.df.guard = none) (hdd : D.df.dst = none) (hfb : fnB C.P D.fd = true)
    (hla : Nat.ble args.length fn.ntmps = true) (hl4 : Nat.ble fn.results.toList.length 4 = true) (hpl : ∀ p ∈ args, Plain p) (an : List (Nat × Ann))
    (h : Xg C n an fn D args (isR C.P rts y)) : PFk (S := S) C.P f (args.map stripA) (fun q => q = tupA (encL C.P rts y)) := by
  intro imm w vs hok hgl hargs
  have hC : Ok C (Xf C n) := ⟨fun b f args m k k' kp kp' => xf_mono hKK.km n b f args m k k' kp kp', hKK.km, xf_sound hKK.km hKK.k hmx n, hKK.k, hmx⟩
  have ha : (args.map stripA) = args.map denV := List.map_congr_left fun p hp => (hpl p hp).strip
  rw [ha] at hargs
  have hrE : Rel ⟨w, imm, noF, noPin, fun _ => undef, []⟩ (den (⟨0, fun _ => .any⟩ : Fr S) ((emp 0 : XS S.A).over (emp 0))) (gh imm) { tmps := #[], defers := [] } w := by
    refine { size := rfl, env := ?_, defers := rfl, imm := hok, box := ?_, apart := ?_, tip := ?_, tips := ?_, boxtip := ?_, below := ⟨rfl, rfl, rfl, Nat.le_refl _, fun _ _ _ => rfl⟩, immle := Imm.le_refl _, immnew := fun _ _ _ h => .inl h, pin := ?_, prv := fun _ _ h => by cases h }
    · intro t
      have : Nat.blt t 0 = false := by cases hq : Nat.blt t 0 with | false => rfl | true => have := blt hq; omega
      show Rep noT (gh imm) (cond (Nat.blt t 0) (denV (((emp 0 : XS S.A).over (emp 0)).get t)) (denV (.any : AV S.A))) _
      rw [this]
      trivial
    · intro s ps h; cases h
    · intro s s' ps ps' h; cases h
    · intro t sz m b c h; cases h
    · intro t t' x x' b b' c c' h; cases h
    · intro s ps t x b c h; cases h
    · intro s b h; cases h
  have hwE : WF (fun _ => False) (⟨0, fun _ => .any⟩ : Fr S) ((emp 0 : XS S.A).over (emp 0)) := by
    refine ⟨fun k => ?_, fun i ps h => (by cases h), fun q x h => (by cases h), fun k => trivial⟩
    unfold getN
    cases Nat.blt k 0 <;> trivial
  obtain ⟨hr0, hw0, hbn⟩ := enter_rel (N := fn.ntmps) hrE hargs (Nat.le_of_ble_eq_true hla) (fun p hp => (hpl p hp).flat) hwE (fun p hp => (hpl p hp).ins)
  generalize hβ : entS (emp 0) (emp 0) args = β at hr0 hw0 hbn
  generalize hB0 : innerB ⟨w, imm, noF, noPin, fun _ => undef, []⟩ fn.ntmps { tmps := #[], defers := [] } = B0 at hr0
  generalize hF0 : inner (⟨0, fun _ => .any⟩ : Fr S) fn.ntmps ((emp 0 : XS S.A).over (emp 0)) = F0 at hr0 hw0 hbn
  have hN0 : F0.N = fn.ntmps := by rw [← hF0]; rfl
  have hpin : POk S B0 := by subst hB0; exact ⟨fun _ => rfl, hgl.1, fun w' h1 h2 => S.gwm w w' h1 (fun b hb => h2 b hb fun h => h) hgl.2⟩
  have hd0 : B0.dfr = [] := by subst hB0; rfl
  have hQ : ∀ n : Nat, (fun _ => False : Nat → Prop) n → n < (emp 0 : XS S.A).c := fun _ h => h.elim
  -- what is there at the end
  have fin : ∀ (B1 : Base) (F1 : Fr S) (s4 : XS S.A) (g4 : Gh) (a4 : Act) (w4 : World), B1.w0 = w → B1.i0 = imm → (∀ k, ¬ B1.F k) → F1.N = fn.ntmps → Rel B1 (den F1 (s4.over β)) g4 a4 w4 → (match resAll C fn.ntmps (s4.over β) fn.results.toList with
            | some ps => isR C.P rts y (tupA ps)
            | none => False) → ∃ v, (results fn a4.tmps).run C.P w4 = .ok v w4 ∧ ∃ r v' imm', (r = tupA (encL C.P rts y)) ∧ (denV r).clean = true ∧ (Ending.returned v : Ending) = .returned v' ∧ Imm.le imm imm' ∧ ImmOk imm' w4 ∧ (∀ b o u, imm' b o = some u → imm b o = some u ∨ w.heap.size ≤ b) ∧ Rep noT (gh imm') (denV r) v' ∧ Below w.heap.size w w4 := by
    intro B1 F1 s4 g4 a4 w4 e1 e2 e3 e4 hr4 hm
    split at hm <;> first | exact hm.elim | skip
    rename_i ps hps
    obtain ⟨v, hv1, hv2⟩ := results_run (F := F1) (C := C) hr4 (by rw [e4]; exact hps) hl4
    have hd : decR C.P rts (tupA ps) = some y := by
      unfold isR at hm
      split at hm
      · rename_i z hz; rw [hz, hm]
      · exact hm.elim
    refine ⟨v, hv1, _, v, g4.imm, rfl, enc_clean rts y, rfl, e2 ▸ hr4.immle, hr4.imm, fun b o u hu => ?_, rep_enc hd hv2, ?_⟩
    · rcases hr4.immnew b o u hu with h | h | h
      · rw [e2] at h; exact .inl h
      · rw [e1] at h; exact .inr h
      · exact absurd h (e3 _)
    · obtain ⟨k1, k2, k3, k4, k5⟩ := hr4.below
      rw [e1] at k1 k2 k3 k4 k5
      exact ⟨k1, k2, k3, k4, fun k hk => k5 k hk (e3 k)⟩
  refine calls_of_wp_defers hfn hbody ?_
  unfold Xg at h
  rw [hβ] at h
  have key := xc_sound (F := F0) (B := B0) (K0 := fun _ => False) (l0 := 0) hQ hC hpin D.A β (emp 0) _ hbn (Nat.le_refl _) hw0 (by rw [hN0]; exact h) _ _ w hr0
  refine wp_seq (wp_mono key ?_)
  rintro e a1 w1 ⟨σ, g1, hr1, ⟨s1, hc1, hw1, hm1⟩, hp1⟩
  cases e with
  | exit id => exact hm1.2.elim
  | goto l => exact hm1.elim
  | outgrown => exact hm1.elim
  | ret => exact hm1.2.elim
  | panic ch => obtain ⟨p, _, _, hp⟩ := hm1; exact hp.elim
  | normal =>
  obtain ⟨rfl, h1⟩ := hm1
  have key := xc_sound (F := F0) (B := B0) (K0 := fun _ => False) (l0 := 0) hQ hC hpin D.Bc β s1 _ hbn (Nat.zero_le _) hw1 (by rw [hN0]; exact h1) _ _ w1 hr1
  refine wp_seq (wp_mono key ?_)
  rintro e a2 w2 ⟨σ, g2, hr2, ⟨s2, hc2, hw2, hm2⟩, hp2⟩
  cases e with
  | exit id => exact hm2.2.elim
  | goto l => exact hm2.elim
  | outgrown => exact hm2.elim
  | ret => exact hm2.2.elim
  | panic ch => obtain ⟨p, _, _, hp⟩ := hm2; exact hp.elim
  | normal =>
  obtain ⟨rfl, h2⟩ := hm2
  simp only at h2
  split at h2 <;> first | exact h2.elim | skip
  rename_i ls hls
  have hdN0 : Nat.blt D.d F0.N = true := by rw [hN0]; exact hdN
  have hlsQ := capsA_in (fun x => hw2.ev x) (by rw [hN0]; exact hls)
  -- the closure, and the deferral
  refine wp_seq (wp_region_list ?_)
  show wpList C.P ⟨[D.mkf, D.df]⟩ _ [D.mkf, D.df] a2 w2
  have hst : VStep C.P B0 F0 (s2.over β) D.mkf D.d (.clo D.fd ls) := v_makeFunc hmd hdN0 hmk rfl (by simpa [hN0] using hls)
  refine wpList_plain hmg fun K hK => hst g2 a2 w2 hr2 K _ fun g3 a3 w3 hr3 => hK _ _ (wpList_plain hdg fun K2 hK2 => ?_)
  have hcl : a3.tmps.getD D.d undef = .func (.func D.fd) #[] (ls.map (cap g3.β)).toArray := by
    have h1 := hr3.tmp (t := D.d) (blt hdN0)
    have h1 : Rep _ g3 (cond (Nat.beq D.d D.d) (denV (.clo D.fd ls)) _) (a3.tmps.getD D.d undef) := h1
    rw [Nat.beq_refl] at h1
    exact h1
  have hdrun : (execOp a3.eval D.df).run C.P w3 = .ok (.defer { target := .fn (.func D.fd) (ls.map (cap g3.β)).toArray, args := #[] }) w3 := by
    unfold isDfr at hdo
    split at hdo
    · rename_i c hc
      obtain ⟨callee, cargs, ats⟩ := c
      split at hdo
      · rename_i x h1 h2
        simp only at h1 h2
        subst h1 h2
        obtain rfl := Nat.eq_of_beq_eq_true hdo
        simp only [execOp, hc, resolve]
        have hev : a3.eval (.tmp D.d) = .func (.func D.fd) #[] (ls.map (cap g3.β)).toArray := hcl
        rw [hev]
        simp [Deferred.ofValue, run_bind, run_pure]
      · cases hdo
    · cases hdo
  unfold Oper.wp
  rw [hdrun]
  show K2 _ w3
  rw [hdd]
  refine hK2 _ _ (wpList_nil ?_)
  show D.rest.wp C.P _ { tmps := a3.tmps, defers := _ :: a3.defers } w3
  have hdf3 : a3.defers = [] := hr3.defers.trans hd0
  rw [hdf3]
  generalize hdv : ({ target := .fn (.func D.fd) (ls.map (cap g3.β)).toArray, args := #[] } : Deferred) = dv
  -- from here on with the deferred call
  have hr4 : Rel { B0 with dfr := [dv], ext := fun k => bif Nat.beq k fn.ntmps then .func (.func D.fd) #[] (ls.map (cap g3.β)).toArray else undef } (den ⟨fn.ntmps, fun k => bif Nat.beq k fn.ntmps then .clo D.fd ls else .any⟩ ((s2.put D.d (.clo D.fd ls)).over β)) g3 { tmps := a3.tmps, defers := [dv] } w3 := by
    have hr3' : Rel B0 (den F0 ((s2.put D.d (.clo D.fd ls)).over β)) g3 a3 w3 := by rw [over_put, den_put hdN0]; exact hr3
    have hsz : a3.tmps.size = fn.ntmps := hr3.size.trans hN0
    refine ⟨hsz, fun t => ?_, rfl, hr3'.imm, hr3'.box, hr3'.apart, hr3'.tip, hr3'.tips, hr3'.boxtip, hr3'.below, hr3'.immle, hr3'.immnew, hr3'.pin, hr3'.prv⟩
    have h9 := hr3'.env t
    have h9 : Rep _ g3 (cond (Nat.blt t F0.N) (denV (((s2.put D.d (.clo D.fd ls)).over β).get t)) (denV (F0.ext t))) (a3.tmps.getD t (B0.ext t)) := h9
    rw [hN0] at h9
    show Rep _ g3 (cond (Nat.blt t fn.ntmps) (denV (((s2.put D.d (.clo D.fd ls)).over β).get t)) (denV (bif Nat.beq t fn.ntmps then .clo D.fd ls else .any))) (a3.tmps.getD t (bif Nat.beq t fn.ntmps then .func (.func D.fd) #[] (ls.map (cap g3.β)).toArray else undef))
    cases ht : Nat.blt t fn.ntmps with
    | true =>
      rw [ht] at h9
      have hlt := blt ht
      have e : ∀ d, a3.tmps.getD t d = a3.tmps[t]'(by omega) := fun d => by rw [Array.getD_eq_getD_getElem?, Array.getElem?_eq_getElem (by omega)]; rfl
      rw [e] at h9 ⊢
      exact h9
    | false =>
      have hge : fn.ntmps ≤ t := by
        rcases Nat.lt_or_ge t fn.ntmps with h | h
        · have : Nat.blt t fn.ntmps = true := Nat.ble_eq_true_of_le h
          rw [ht] at this; cases this
        · exact h
      rw [getD_ge (by omega)]
      cases Nat.beq t fn.ntmps
      · trivial
      · exact rfl
  have hw4 : WF (Bd (fun _ => False) 0 s2.c) (⟨fn.ntmps, fun k => bif Nat.beq k fn.ntmps then .clo D.fd ls else .any⟩ : Fr S) ((s2.put D.d (.clo D.fd ls)).over β) := by
    refine ⟨fun i => ?_, fun i ps hi => ?_, fun q x hq => ?_, fun i => ?_⟩
    · have := (hw2.put (d := D.d) (p := .clo D.fd ls) hlsQ).env i
      rw [hN0] at this
      rw [over_put]
      exact this
    · exact hw2.L i ps hi
    · exact hw2.T q x hq
    · show inV _ (bif Nat.beq i fn.ntmps then .clo D.fd ls else .any)
      cases Nat.beq i fn.ntmps
      · trivial
      · exact hlsQ
  have hpin1 : POk S { B0 with dfr := [dv], ext := fun k => bif Nat.beq k fn.ntmps then .func (.func D.fd) #[] (ls.map (cap g3.β)).toArray else undef } := ⟨hpin.pin, hpin.gl, hpin.wd⟩
  have hbn1 : ∀ k, noG (getN fn.ntmps β k) := by rw [← hN0]; exact hbn
  have key := xc_sound (F := (⟨fn.ntmps, fun k => bif Nat.beq k fn.ntmps then .clo D.fd ls else .any⟩ : Fr S)) (B := { B0 with dfr := [dv], ext := fun k => bif Nat.beq k fn.ntmps then .func (.func D.fd) #[] (ls.map (cap g3.β)).toArray else undef }) (K0 := fun _ => False) (l0 := 0) hQ hC hpin1 D.rest β (s2.put D.d (.clo D.fd ls)) _ hbn1 (Nat.zero_le _) hw4 h2 _ _ w3 hr4
  obtain ⟨fnd, hf1, hf2, hf3⟩ := funcs_of hfb
  generalize hB1 : ({ B0 with dfr := [dv], ext := fun k => bif Nat.beq k fn.ntmps then .func (.func D.fd) #[] (ls.map (cap g3.β)).toArray else undef } : Base) = B1 at hr4 key hpin1
  generalize hF1 : (⟨fn.ntmps, fun k => bif Nat.beq k fn.ntmps then .clo D.fd ls else .any⟩ : Fr S) = F1 at hr4 hw4 key
  have hB1a : B1.w0 = w := by subst hB1 hB0; rfl
  have hB1b : B1.i0 = imm := by subst hB1 hB0; rfl
  have hB1c : ∀ k, ¬ B1.F k := by subst hB1 hB0; exact fun k h => h
  have hB1d : B1.dfr = [dv] := by subst hB1; rfl
  have hB1e : B1.ext fn.ntmps = .func (.func D.fd) #[] (ls.map (cap g3.β)).toArray := by subst hB1; show (bif Nat.beq fn.ntmps fn.ntmps then _ else _) = _; rw [Nat.beq_refl]; rfl
  have hF1N : F1.N = fn.ntmps := by subst hF1; rfl
  have hF1e : F1.ext fn.ntmps = .clo D.fd ls := by subst hF1; show (bif Nat.beq fn.ntmps fn.ntmps then _ else _) = _; rw [Nat.beq_refl]; rfl
  have caps : ∀ (s3 : XS S.A) (g : Gh) (a : Act) (w : World), Rel B1 (den F1 (s3.over β)) g a w → (ls.map (cap g3.β)).toArray = (ls.map (cap g.β)).toArray := by
    intro s3 g a w hr
    have h1 := hr.env fn.ntmps
    have h1 : Rep _ g (cond (Nat.blt fn.ntmps F1.N) (denV ((s3.over β).get fn.ntmps)) (denV (F1.ext fn.ntmps))) (a.tmps.getD fn.ntmps (B1.ext fn.ntmps)) := h1
    have hbl : Nat.blt fn.ntmps F1.N = false := by
      rw [hF1N]
      cases hq : Nat.blt fn.ntmps fn.ntmps with
      | false => rfl
      | true => have := blt hq; omega
    have hsz : a.tmps.size = fn.ntmps := hr.size.trans hF1N
    rw [hbl, hF1e, getD_ge (by omega), hB1e] at h1
    have h1 : (Value.func (.func D.fd) #[] (ls.map (cap g3.β)).toArray) = .func (.func D.fd) #[] (ls.map (cap g.β)).toArray := h1
    injection h1
  have last : ∀ (s3 : XS S.A) (g : Gh) (a : Act) (w3 : World) (v : AV S.A) (val : Value) (u u' : FrameMode), u ≠ .run → settle u' = .returning → Rel B1 (den F1 (s3.over β)) g a w3 → WF (Bd (fun _ => False) 0 s3.c) F1 (s3.over β) → inV (Bd (fun _ => False) 0 s3.c) v → Rep (denTT (s3.over β).T) g (denV v) val →
      (∀ (c₀ : Frame) (cs : List Frame), c₀.mode = u → recoverD (c₀ :: cs) = some (val, { c₀ with mode := u' } :: cs) ∨ (recoverD (c₀ :: cs) = none ∧ val = .nilIface ∧ u' = u)) →
      Xd C n D.fd ls β s3 v (fun s4 => match resAll C fn.ntmps (s4.over β) fn.results.toList with
            | some ps => isR C.P rts y (tupA ps)
            | none => False) → Leaves C.P fn a.tmps (fun e w' => ∃ r v imm', (r = tupA (encL C.P rts y)) ∧ (denV r).clean = true ∧ e = .returned v ∧ Imm.le imm imm' ∧ ImmOk imm' w' ∧ (∀ b o u, imm' b o = some u → imm b o = some u ∨ w.heap.size ≤ b) ∧ Rep noT (gh imm') (denV r) v ∧ Below w.heap.size w w') a.defers u w3 := by
    intro s3 g a w3 v val u u' hu hset hr hw hvi hval hrec hX
    rw [hr.defers.trans hB1d, ← hdv]
    have hls3 : ∀ x, some x ∈ ls → Bd (fun _ => False) 0 s3.c x := by
      have := hw.ext fn.ntmps
      rw [hF1e] at this
      exact this
    refine leaves_cons (f := D.fd) (args := (ls.map (cap g3.β)).toArray) hu (by show (callFunc D.fd (#[] ++ (ls.map (cap g3.β)).toArray)).run C.P w3 = _; rw [Array.empty_append]; exact run_callFunc hf1 hf2 hf3 _ _) ?_
    rw [caps s3 g a w3 hr]
    refine CallsD.mono (xd_sound hC hX hpin1 (fun x hx => hx.lt hQ (Nat.zero_le _)) hw hls3 hvi (noG_in hvi) hr hrec hval) (fun e u2 w' h => ?_)
    obtain ⟨⟨r, rfl⟩, rfl, s4, g4, hk4, hc4, hget4, hr5, hw5⟩ := h
    show Leaves C.P fn a.tmps _ [] (settle u2) w'
    rw [hset]
    exact fin B1 F1 s4 g4 a w' hB1a hB1b hB1c hF1N hr5 hk4
  refine wp_mono key ?_
  rintro e a4 w4 ⟨σ, g4, hr5, ⟨s3, hc3, hw5, hm3⟩, hp3⟩
  cases e with
  | normal => exact hm3.2.elim
  | exit id => exact hm3.2.elim
  | goto l => exact hm3.elim
  | outgrown => exact hm3.elim
  | ret =>
    obtain ⟨rfl, h3⟩ := hm3
    exact last s3 g4 a4 w4 (.sc .nilIface) .nilIface .returning .returning (by simp) rfl hr5 hw5 trivial rfl (fun c₀ cs hc => .inr ⟨by simp [recoverD, hc], rfl, rfl⟩) h3
  | panic ch =>
    obtain ⟨p, rfl, hpi, h3⟩ := hm3
    obtain ⟨v, rfl, hv⟩ := hp3
    exact last s3 g4 a4 w4 p v (.panicking [{ v, recovered := false }]) (.panicking [{ v, recovered := true }]) (by simp) rfl (Rel.pay hr5 (den F1 (s3.over β)).pay) hw5 hpi hv (fun c₀ cs hc => .inl (by simp [recoverD, hc])) h3
/-- What is to be shown of a function, in any way. -/
def RunP (C : Cfg S) (f : Nat) (rts : List Nat) : (ts : List Nat) → CT S rts ts → List (Sigma S.A) → Prop
  | [], W, acc => (∀ q, W.1 = some q → q) → PFk (S := S) C.P f ((argsA C acc).map stripA) (fun q => q = tupA (encL C.P rts W.2))
  | t :: ts, W, acc => ∀ x, OkA S 5 t x → RunP C f rts ts (W x) (acc ++ [⟨t, x⟩])
theorem con_ofP {f : Nat} {rts : List Nat} {k : AV S.A → Prop} {imm : Imm} {w : World} {vs : List Value} (hok : ImmOk imm w) (hgl : GlobW S imm w) : ∀ (ts : List Nat) (W : CT S rts ts) (acc : List (Sigma S.A)) (qs args : List (AV S.A)), RunP C f rts ts W acc → Ab.WkT (qs.map stripA) ((argsA C acc).map denV) → appC C.P rts ts W args k →
    RepT noT (gh imm) ((qs ++ args).map stripA) vs → Calls C.P f vs.toArray w fun e w' =>
      ∃ r v imm', k r ∧ (denV r).clean = true ∧ e = .returned v ∧ Imm.le imm imm' ∧ ImmOk imm' w' ∧ (∀ b o u, imm' b o = some u → imm b o = some u ∨ w.heap.size ≤ b) ∧ Rep noT (gh imm') (denV r) v ∧ Below w.heap.size w w'
  | [], W, acc, qs, [], hrun, hwk, h, hargs => by
    obtain ⟨hp, hk⟩ := withP_iff h
    rw [List.append_nil] at hargs
    have h1 := hrun hp imm w vs hok hgl (by
      rw [show (argsA C acc).map stripA = (argsA C acc).map denV from List.map_congr_left fun p hp => (argsA_plain acc p hp).strip]
      exact wk_repT hwk hargs)
    refine h1.mono ?_
    rintro e w' ⟨r, v, imm', rfl, h2, h3⟩
    exact ⟨_, v, imm', hk, h2, h3⟩
  | [], W, acc, qs, _ :: _, hrun, hwk, h, _ => h.elim
  | t :: ts, W, acc, qs, [], hrun, hwk, h, _ => h.elim
  | t :: ts, W, acc, qs, p :: ps, hrun, hwk, h, hargs => by
    simp only [appC] at h
    split at h <;> first | exact h.elim | skip
    rename_i x hx
    obtain ⟨hfl, hw⟩ := dArg_wk hx
    have h1 : denV p = den2 p := den2_flat hfl
    have e : (den2 p).strip = (den2 p).strip2 := strip_other _ (fun cs e => by rw [← h1] at e; exact flat_ne hfl cs e)
    have hs : stripA p = (den2 p).strip2 := by show (denV p).strip = _; rw [h1, e]
    have hOk : OkA S 5 t x := by
      obtain ⟨v, hv⟩ := repT_at (i := qs.length) hargs (q := stripA p) (by simp)
      rw [hs] at hv
      exact okA_arg hx (wk_repE hw hv) 5
    refine con_ofP hok hgl ts (W x) (acc ++ [⟨t, x⟩]) (qs ++ [p]) ps (hrun x hOk) (by
      rw [argsA_app, List.map_append, List.map_append]
      refine wkT_app hwk (.cons ?_ .nil)
      rw [(plain_arg (P := C.P) t x).d2, hs]
      exact hw) h (by rw [List.append_assoc]; exact hargs)
theorem con_okP {f : Nat} {ts rts : List Nat} {W : CT S rts ts} (h : RunP C f rts ts W []) : ConOk C.P f (ctr C.P ts rts W) ∧ ConMon (ctr C.P ts rts W) :=
  ⟨fun args k ha imm w vs hok hgl hargs => con_ofP hok hgl ts W [] [] args h .nil ha hargs, fun args k k' hk ha => appC_mono ts W args k k' hk ha⟩
end
end Go.Rx
namespace Go.Rx
open Go.Ab
set_option linter.unusedVariables false
def eR : Enc Bool := ⟨1, fun b => [.sem (ER b)], fun _ => rfl⟩
structure api_Prefix where
  fAddr : Int
  fLen : Int
  deriving DecidableEq, Inhabited
structure api_Segment where
  fSet : Bool
  fAS : List Int
  deriving DecidableEq, Inhabited
structure api_Raw where
  fFlags : Int
  fType : Int
  fData : List Int
  deriving DecidableEq, Inhabited
structure api_Attrs where
  fOrigin : Int
  fPath : List api_Segment
  fNext : Int
  fMed : Int
  fPref : Int
  fComms : List Int
  fRaws : List api_Raw
  deriving DecidableEq, Inhabited
structure api_Route where
  fPrefix : api_Prefix
  fPeer : Int
  fAttrs : api_Attrs
  fStale : Int
  deriving DecidableEq, Inhabited
structure api_Hop where
  fPrefix : api_Prefix
  fNext : Int
  fPeer : Int
  fStale : Int
  deriving DecidableEq, Inhabited
structure api_Note where
  fCode : Int
  fSub : Int
  fData : List Int
  deriving DecidableEq, Inhabited
structure row_reader where
  flist : List ByteArray
  fbad : Bool
  deriving DecidableEq, Inhabited
structure attr_one where
  fflags : Int
  ftyp : Int
  fall : List Int
  fb : List Int
  deriving DecidableEq, Inhabited
structure attr_kind where
  fflags : Int
  fsize : Int
  deriving DecidableEq, Inhabited
structure attr_wrong where
  fnote : api_Note
  deriving DecidableEq, Inhabited
def api_Prefix.cells (x : api_Prefix) : List PV := [.sc (.int .u32 x.fAddr), .sc (.int .i64 x.fLen)]
def api_Prefix.enc : Enc api_Prefix := ⟨2, api_Prefix.cells, fun _ => rfl⟩
def api_Segment.cells (x : api_Segment) : List PV := [.sc (.bool x.fSet), .sem (SL (eI .i64) x.fAS)]
def api_Segment.enc : Enc api_Segment := ⟨2, api_Segment.cells, fun _ => rfl⟩
def api_Raw.cells (x : api_Raw) : List PV := [.sc (.int .i64 x.fFlags), .sc (.int .i64 x.fType), .sem (SL (eI .u8) x.fData)]
def api_Raw.enc : Enc api_Raw := ⟨3, api_Raw.cells, fun _ => rfl⟩
def api_Attrs.cells (x : api_Attrs) : List PV := [.sc (.int .i64 x.fOrigin), .sem (SL api_Segment.enc x.fPath), .sc (.int .u32 x.fNext), .sc (.int .i64 x.fMed), .sc (.int .i64 x.fPref), .sem (SL (eI .u32) x.fComms), .sem (SL api_Raw.enc x.fRaws)]
def api_Attrs.enc : Enc api_Attrs := ⟨7, api_Attrs.cells, fun _ => rfl⟩
def api_Route.cells (x : api_Route) : List PV := [.sc (.int .u32 x.fPrefix.fAddr), .sc (.int .i64 x.fPrefix.fLen), .sc (.int .i64 x.fPeer), .sc (.int .i64 x.fAttrs.fOrigin), .sem (SL api_Segment.enc x.fAttrs.fPath), .sc (.int .u32 x.fAttrs.fNext), .sc (.int .i64 x.fAttrs.fMed), .sc (.int .i64 x.fAttrs.fPref), .sem (SL (eI .u32) x.fAttrs.fComms), .sem (SL api_Raw.enc x.fAttrs.fRaws), .sc (.int .i64 x.fStale)]
def api_Route.enc : Enc api_Route := ⟨11, api_Route.cells, fun _ => rfl⟩
def api_Hop.cells (x : api_Hop) : List PV := [.sc (.int .u32 x.fPrefix.fAddr), .sc (.int .i64 x.fPrefix.fLen), .sc (.int .u32 x.fNext), .sc (.int .i64 x.fPeer), .sc (.int .i64 x.fStale)]
def api_Hop.enc : Enc api_Hop := ⟨5, api_Hop.cells, fun _ => rfl⟩
def api_Note.cells (x : api_Note) : List PV := [.sc (.int .i64 x.fCode), .sc (.int .i64 x.fSub), .sem (SL (eI .u8) x.fData)]
def api_Note.enc : Enc api_Note := ⟨3, api_Note.cells, fun _ => rfl⟩
def row_reader.cells (x : row_reader) : List PV := [.sem (SL eS x.flist), .sc (.bool x.fbad)]
def row_reader.enc : Enc row_reader := ⟨2, row_reader.cells, fun _ => rfl⟩
def attr_one.cells (x : attr_one) : List PV := [.sc (.int .i64 x.fflags), .sc (.int .i64 x.ftyp), .sem (SL (eI .u8) x.fall), .sem (SL (eI .u8) x.fb)]
def attr_one.enc : Enc attr_one := ⟨4, attr_one.cells, fun _ => rfl⟩
def attr_kind.cells (x : attr_kind) : List PV := [.sc (.int .i64 x.fflags), .sc (.int .i64 x.fsize)]
def attr_kind.enc : Enc attr_kind := ⟨2, attr_kind.cells, fun _ => rfl⟩
def attr_wrong.cells (x : attr_wrong) : List PV := [.sc (.int .i64 x.fnote.fCode), .sc (.int .i64 x.fnote.fSub), .sem (SL (eI .u8) x.fnote.fData)]
def attr_wrong.enc : Enc attr_wrong := ⟨3, attr_wrong.cells, fun _ => rfl⟩
def TD : Nat → Dat0 := fun t => match t with
  | 2 => ⟨Int, inferInstance⟩
  | 3 => ⟨Int, inferInstance⟩
  | 4 => ⟨Bool, inferInstance⟩
  | 5 => ⟨Int, inferInstance⟩
  | 9 => ⟨ByteArray, inferInstance⟩
  | 12 => ⟨Int, inferInstance⟩
  | 21 => ⟨Int, inferInstance⟩
  | 22 => ⟨Int, inferInstance⟩
  | 24 => ⟨api_Prefix, inferInstance⟩
  | 25 => ⟨List api_Segment, inferInstance⟩
  | 26 => ⟨List Int, inferInstance⟩
  | 27 => ⟨List api_Raw, inferInstance⟩
  | 29 => ⟨api_Attrs, inferInstance⟩
  | 31 => ⟨api_Route, inferInstance⟩
  | 32 => ⟨List Int, inferInstance⟩
  | 34 => ⟨api_Segment, inferInstance⟩
  | 35 => ⟨List Int, inferInstance⟩
  | 37 => ⟨api_Raw, inferInstance⟩
  | 45 => ⟨List ByteArray, inferInstance⟩
  | 49 => ⟨api_Hop, inferInstance⟩
  | 62 => ⟨api_Note, inferInstance⟩
  | 67 => ⟨row_reader, inferInstance⟩
  | 76 => ⟨Bool, inferInstance⟩
  | 85 => ⟨Int, inferInstance⟩
  | 95 => ⟨attr_wrong, inferInstance⟩
  | 100 => ⟨Int, inferInstance⟩
  | 109 => ⟨attr_one, inferInstance⟩
  | 120 => ⟨Int, inferInstance⟩
  | 137 => ⟨attr_kind, inferInstance⟩
  | _ => ⟨Unit, inferInstance⟩
abbrev TA (t : Nat) : Type := (TD t).α
def TB : (t : Nat) → EncShp TA (TA t) := fun t => match t with
  | 2 => ⟨((eI .i64) : Enc (Int)), ({ lv := [.int .i64], toH := fun (x : Int) => (x, ()), ofH := fun h => h.1, eta := fun _ => rfl } : Shp TA (Int))⟩
  | 3 => ⟨((eI .i64) : Enc (Int)), ({ lv := [.int .i64], toH := fun (x : Int) => (x, ()), ofH := fun h => h.1, eta := fun _ => rfl } : Shp TA (Int))⟩
  | 4 => ⟨(eB : Enc (Bool)), ({ lv := [.bool], toH := fun (x : Bool) => (x, ()), ofH := fun h => h.1, eta := fun _ => rfl } : Shp TA (Bool))⟩
  | 5 => ⟨((eI .u8) : Enc (Int)), ({ lv := [.int .u8], toH := fun (x : Int) => (x, ()), ofH := fun h => h.1, eta := fun _ => rfl } : Shp TA (Int))⟩
  | 9 => ⟨(eS : Enc (ByteArray)), ({ lv := [.str], toH := fun (x : ByteArray) => (x, ()), ofH := fun h => h.1, eta := fun _ => rfl } : Shp TA (ByteArray))⟩
  | 12 => ⟨((eI .u64) : Enc (Int)), ({ lv := [.int .u64], toH := fun (x : Int) => (x, ()), ofH := fun h => h.1, eta := fun _ => rfl } : Shp TA (Int))⟩
  | 21 => ⟨((eI .i32) : Enc (Int)), ({ lv := [.int .i32], toH := fun (x : Int) => (x, ()), ofH := fun h => h.1, eta := fun _ => rfl } : Shp TA (Int))⟩
  | 22 => ⟨((eI .u32) : Enc (Int)), ({ lv := [.int .u32], toH := fun (x : Int) => (x, ()), ofH := fun h => h.1, eta := fun _ => rfl } : Shp TA (Int))⟩
  | 24 => ⟨(api_Prefix.enc : Enc (api_Prefix)), ({ lv := [.int .u32, .int .i64], toH := fun (x : api_Prefix) => (x.fAddr, x.fLen, ()), ofH := fun h => ⟨h.1, h.2.1⟩, eta := fun _ => rfl } : Shp TA (api_Prefix))⟩
  | 25 => ⟨((eL api_Segment.enc) : Enc (List api_Segment)), ({ lv := [.sl 34], toH := fun (x : List api_Segment) => (x, ()), ofH := fun h => h.1, eta := fun _ => rfl } : Shp TA (List api_Segment))⟩
  | 26 => ⟨((eL (eI .u32)) : Enc (List Int)), ({ lv := [.sl 22], toH := fun (x : List Int) => (x, ()), ofH := fun h => h.1, eta := fun _ => rfl } : Shp TA (List Int))⟩
  | 27 => ⟨((eL api_Raw.enc) : Enc (List api_Raw)), ({ lv := [.sl 37], toH := fun (x : List api_Raw) => (x, ()), ofH := fun h => h.1, eta := fun _ => rfl } : Shp TA (List api_Raw))⟩
  | 29 => ⟨(api_Attrs.enc : Enc (api_Attrs)), ({ lv := [.int .i64, .sl 34, .int .u32, .int .i64, .int .i64, .sl 22, .sl 37], toH := fun (x : api_Attrs) => (x.fOrigin, x.fPath, x.fNext, x.fMed, x.fPref, x.fComms, x.fRaws, ()), ofH := fun h => ⟨h.1, h.2.1, h.2.2.1, h.2.2.2.1, h.2.2.2.2.1, h.2.2.2.2.2.1, h.2.2.2.2.2.2.1⟩, eta := fun _ => rfl } : Shp TA (api_Attrs))⟩
  | 31 => ⟨(api_Route.enc : Enc (api_Route)), ({ lv := [.int .u32, .int .i64, .int .i64, .int .i64, .sl 34, .int .u32, .int .i64, .int .i64, .sl 22, .sl 37, .int .i64], toH := fun (x : api_Route) => (x.fPrefix.fAddr, x.fPrefix.fLen, x.fPeer, x.fAttrs.fOrigin, x.fAttrs.fPath, x.fAttrs.fNext, x.fAttrs.fMed, x.fAttrs.fPref, x.fAttrs.fComms, x.fAttrs.fRaws, x.fStale, ()), ofH := fun h => ⟨⟨h.1, h.2.1⟩, h.2.2.1, ⟨h.2.2.2.1, h.2.2.2.2.1, h.2.2.2.2.2.1, h.2.2.2.2.2.2.1, h.2.2.2.2.2.2.2.1, h.2.2.2.2.2.2.2.2.1, h.2.2.2.2.2.2.2.2.2.1⟩, h.2.2.2.2.2.2.2.2.2.2.1⟩, eta := fun _ => rfl } : Shp TA (api_Route))⟩
  | 32 => ⟨((eL (eI .i64)) : Enc (List Int)), ({ lv := [.sl 3], toH := fun (x : List Int) => (x, ()), ofH := fun h => h.1, eta := fun _ => rfl } : Shp TA (List Int))⟩
  | 34 => ⟨(api_Segment.enc : Enc (api_Segment)), ({ lv := [.bool, .sl 3], toH := fun (x : api_Segment) => (x.fSet, x.fAS, ()), ofH := fun h => ⟨h.1, h.2.1⟩, eta := fun _ => rfl } : Shp TA (api_Segment))⟩
  | 35 => ⟨((eL (eI .u8)) : Enc (List Int)), ({ lv := [.sl 5], toH := fun (x : List Int) => (x, ()), ofH := fun h => h.1, eta := fun _ => rfl } : Shp TA (List Int))⟩
  | 37 => ⟨(api_Raw.enc : Enc (api_Raw)), ({ lv := [.int .i64, .int .i64, .sl 5], toH := fun (x : api_Raw) => (x.fFlags, x.fType, x.fData, ()), ofH := fun h => ⟨h.1, h.2.1, h.2.2.1⟩, eta := fun _ => rfl } : Shp TA (api_Raw))⟩
  | 45 => ⟨((eL eS) : Enc (List ByteArray)), ({ lv := [.sl 9], toH := fun (x : List ByteArray) => (x, ()), ofH := fun h => h.1, eta := fun _ => rfl } : Shp TA (List ByteArray))⟩
  | 49 => ⟨(api_Hop.enc : Enc (api_Hop)), ({ lv := [.int .u32, .int .i64, .int .u32, .int .i64, .int .i64], toH := fun (x : api_Hop) => (x.fPrefix.fAddr, x.fPrefix.fLen, x.fNext, x.fPeer, x.fStale, ()), ofH := fun h => ⟨⟨h.1, h.2.1⟩, h.2.2.1, h.2.2.2.1, h.2.2.2.2.1⟩, eta := fun _ => rfl } : Shp TA (api_Hop))⟩
  | 62 => ⟨(api_Note.enc : Enc (api_Note)), ({ lv := [.int .i64, .int .i64, .sl 5], toH := fun (x : api_Note) => (x.fCode, x.fSub, x.fData, ()), ofH := fun h => ⟨h.1, h.2.1, h.2.2.1⟩, eta := fun _ => rfl } : Shp TA (api_Note))⟩
  | 67 => ⟨(row_reader.enc : Enc (row_reader)), ({ lv := [.sl 9, .bool], toH := fun (x : row_reader) => (x.flist, x.fbad, ()), ofH := fun h => ⟨h.1, h.2.1⟩, eta := fun _ => rfl } : Shp TA (row_reader))⟩
  | 76 => ⟨(eR : Enc (Bool)), ({ lv := [.er], toH := fun (x : Bool) => (x, ()), ofH := fun h => h.1, eta := fun _ => rfl } : Shp TA (Bool))⟩
  | 85 => ⟨((eI .u64) : Enc (Int)), ({ lv := [.int .u64], toH := fun (x : Int) => (x, ()), ofH := fun h => h.1, eta := fun _ => rfl } : Shp TA (Int))⟩
  | 95 => ⟨(attr_wrong.enc : Enc (attr_wrong)), ({ lv := [.int .i64, .int .i64, .sl 5], toH := fun (x : attr_wrong) => (x.fnote.fCode, x.fnote.fSub, x.fnote.fData, ()), ofH := fun h => ⟨⟨h.1, h.2.1, h.2.2.1⟩⟩, eta := fun _ => rfl } : Shp TA (attr_wrong))⟩
  | 100 => ⟨((eI .u64) : Enc (Int)), ({ lv := [.int .u64], toH := fun (x : Int) => (x, ()), ofH := fun h => h.1, eta := fun _ => rfl } : Shp TA (Int))⟩
  | 109 => ⟨(attr_one.enc : Enc (attr_one)), ({ lv := [.int .i64, .int .i64, .sl 5, .sl 5], toH := fun (x : attr_one) => (x.fflags, x.ftyp, x.fall, x.fb, ()), ofH := fun h => ⟨h.1, h.2.1, h.2.2.1, h.2.2.2.1⟩, eta := fun _ => rfl } : Shp TA (attr_one))⟩
  | 120 => ⟨((eI .i64) : Enc (Int)), ({ lv := [.int .i64], toH := fun (x : Int) => (x, ()), ofH := fun h => h.1, eta := fun _ => rfl } : Shp TA (Int))⟩
  | 137 => ⟨(attr_kind.enc : Enc (attr_kind)), ({ lv := [.int .i64, .int .i64], toH := fun (x : attr_kind) => (x.fflags, x.fsize, ()), ofH := fun h => ⟨h.1, h.2.1⟩, eta := fun _ => rfl } : Shp TA (attr_kind))⟩
  | x => ⟨⟨0, fun _ => [], fun _ => rfl⟩, { lv := [], toH := fun _ => (), ofH := fun _ => (TD x).inh.default, eta := fun _ => rfl }⟩
def TE (t : Nat) : Enc (TA t) := (TB t).E
def TG {α : Type} (e : EncShp TA α) : Prop := ∀ x, e.E.pv x = pvsH TE e.shp.lv (e.shp.toH x)
theorem TL (t : Nat) : TG (TB t) := by
  unfold TB
  split <;> intro x <;> rfl
/-- What the laid variables of the library hold. -/
structure Laid (w : World) : Prop where
  tab : Lib.TabIs Proofs.Tryz.prog w "internal/strconv.uint64pow10" .u64 Lib.pow10Tab
  syn : ∃ t p, w.cell? ⟨2, 0, none⟩ = some (.iface t p)
  rng : ∃ t p, w.cell? ⟨3, 0, none⟩ = some (.iface t p)
theorem cell_ge {w w' : World} (h : ∀ b, b < w.heap.size → w'.heap[b]? = w.heap[b]?) {a : Addr} {v : Value} (hv : w.cell? a = some v) : w'.cell? a = some v := by
  have hb : a.block < w.heap.size := by
    unfold World.cell? at hv
    split at hv
    · rename_i c _ _ hc; exact (Array.getElem?_eq_some_iff.1 hc).1
    · cases hv
  unfold World.cell? at hv ⊢
  rw [h _ hb]; exact hv
theorem var_ge {P : Program} {w w' : World} (h : ∀ b, b < w.heap.size → w'.heap[b]? = w.heap[b]?) {n : String} {v : Array Value} (hv : w.var? P n = some v) : w'.var? P n = some v := by
  unfold World.var? at hv ⊢
  cases hg : P.globalNamed n with
  | none => rw [hg] at hv; cases hv
  | some g =>
    rw [hg] at hv
    simp only [Option.bind_some] at hv ⊢
    have hb : g < w.heap.size := by
      cases hq : w.heap[g]? with
      | none => rw [hq] at hv; cases hv
      | some o => exact (Array.getElem?_eq_some_iff.1 hq).1
    rw [h _ hb]; exact hv
theorem Laid.ge {w w' : World} (_ : w.heap.size ≤ w'.heap.size) (h : ∀ b, b < w.heap.size → w'.heap[b]? = w.heap[b]?) (hl : Laid w) : Laid w' :=
  ⟨var_ge h hl.tab, by obtain ⟨t, p, e⟩ := hl.syn; exact ⟨t, p, cell_ge h e⟩, by obtain ⟨t, p, e⟩ := hl.rng; exact ⟨t, p, cell_ge h e⟩⟩
def S : Sys := { A := TA, inh := fun t => (TD t).inh, E := TE, shp := fun t => (TB t).shp, law := TL, glob := [⟨0, 137, ([⟨0, 0⟩, ⟨64, 1⟩, ⟨64, -1⟩, ⟨64, 4⟩, ⟨128, 4⟩, ⟨64, 4⟩, ⟨64, 0⟩, ⟨192, 8⟩, ⟨192, -1⟩] : List attr_kind)⟩], gw := Laid, gwm := fun _ _ h1 h2 h3 => h3.ge h1 h2 }
end Go.Rx
namespace Go.Rx
noncomputable def P7 : Program := Proofs.Tryz.prog
theorem mx7 : P7.follows .mixedOrders = true := by kernel_rfl
end Go.Rx
namespace Go.L7
end Go.L7
namespace Go.L21
end Go.L21
namespace Go.L21
open Go.Rx Go.Ab
def bs (l : List UInt8) : ByteArray := ⟨l.toArray⟩
def P333 (n : Int) : Prop := -9223372036854775808 ≤ n ∧ n ≤ 9223372036854775807
def S333 (n : Int) : ByteArray := bs (Lib.itoa n)
def P356 (u b : Int) : Prop := b = 10 ∧ 0 ≤ u ∧ u < 18446744073709551616
def S356 (u b : Int) : ByteArray := bs (Lib.itoa u)
def endI : Lib.NumEnd Int → Int → Int × Bool
  | .ok v, _ => (v, false)
  | Lib.NumEnd.syntax, _ => (0, true)
  | .range, m => (m, true)
def endN : Lib.NumEnd Nat → Int → Int × Bool
  | .ok v, _ => (v, false)
  | Lib.NumEnd.syntax, _ => (0, true)
  | .range, m => (m, true)
def P337 (s : ByteArray) : Prop := s.size ≤ 281474976710656
def S337 (s : ByteArray) : Int × Bool := endI (Lib.atoiAll s.data.toList) (Lib.atoiSat s.data.toList)
def P357 (s : ByteArray) (b n : Int) : Prop := s.size ≤ 281474976710656 ∧ b = 10 ∧ (n = 32 ∨ n = 64)
def S357 (s : ByteArray) (b n : Int) : Int × Bool := endN (Lib.parseUintB n.toNat s.data.toList) (2 ^ n.toNat - 1)
def P365 (s t : ByteArray) : Prop := t.size = 1
def S365 (s t : ByteArray) : Int := Lib.indexByte s.data.toList (t.data.toList.headD 0)
/-- Texts as one. -/
def textL (s : ByteArray) : List UInt8 := Lib.itoa s.size ++ 58 :: s.data.toList
def textsL (l : List ByteArray) : List UInt8 := l.flatMap textL
def P314 (l : List ByteArray) : Prop := (textsL l).length ≤ 70368744177664
def S314 (l : List ByteArray) : ByteArray := bs (textsL l)
end Go.L21
namespace Go.L21
open Go.Rx Go.Ab
/-- A row's parts: the number of each ahead of it. -/
def valL (l : List UInt8) : Nat := l.foldl (fun n c => n * 10 + (c.toNat - 48)) 0
def split1 (l : List UInt8) : Option (List UInt8 × List UInt8) :=
  let sz := l.takeWhile (· != 58)
  let b := l.drop (sz.length + 1)
  bif decide (sz.length < l.length) && (sz == Lib.decDigits (valL sz)) && decide (valL sz ≤ b.length) then some (b.take (valL sz), b.drop (valL sz)) else none
def splitN : Nat → List UInt8 → Option (List (List UInt8))
  | 0, _ => some []
  | n + 1, l => if l.isEmpty then some [] else match split1 l with
    | none => none
    | some (x, r) => (splitN n r).map (x :: ·)
def splitL (l : List UInt8) : Option (List (List UInt8)) := splitN l.length l
def P315 (s : ByteArray) : Prop := s.size ≤ 1099511627776
def S315 (s : ByteArray) : List ByteArray × Bool := match splitL s.data.toList with
  | none => ([], false)
  | some l => (l.map bs, true)
def P316 (s : ByteArray) : Prop := P315 s
def S316 (s : ByteArray) : List ByteArray × Bool := S315 s
def P317 (l : List ByteArray) : Prop := P314 l
def S317 (l : List ByteArray) : ByteArray := S314 l
inductive DB (k : Nat) (u : Int) : Prop
  | mk (h0 : 0 ≤ u) (h1 : u < 18446744073709551616) (h2 : (Lib.decDigits u.toNat).length ≤ k) : DB k u
def P355 (u : Int) : Prop := DB 20 u
def S355 (u : Int) : ByteArray := bs (Lib.decDigits u.toNat)
def P338 (n : Int) : Prop := P333 n
def S338 (n : Int) : ByteArray := S333 n
def hopL (h : api_Hop) : List ByteArray := [S333 h.fPrefix.fAddr, S333 h.fPrefix.fLen, S333 h.fNext, S333 h.fPeer, S333 h.fStale]
def okHop (h : api_Hop) : Prop := (0 ≤ h.fPrefix.fAddr ∧ h.fPrefix.fAddr ≤ 4294967295) ∧ P333 h.fPrefix.fLen ∧ (0 ≤ h.fNext ∧ h.fNext ≤ 4294967295) ∧ P333 h.fPeer ∧ P333 h.fStale
def P339 (v : Int) : Prop := 0 ≤ v ∧ v ≤ 4294967295
def S339 (v : Int) : ByteArray := S333 v
def P340 (v : Int) : Prop := P333 v
def S340 (v : Int) : ByteArray := S333 v
def P319 (h : api_Hop) : Prop := okHop h
def P321 (h : api_Hop) : Prop := okHop h
def S319 (h : api_Hop) : ByteArray := S314 (hopL h)
def S321 (h : api_Hop) : ByteArray := S314 (hopL h)
def valI (s : ByteArray) : Int := (S337 s).1
def valU (s : ByteArray) : Int := (S357 s 10 32).1
def hopOf (l : List ByteArray) : api_Hop := ⟨⟨valU (l.getD 0 (bs [])), valI (l.getD 1 (bs []))⟩, valU (l.getD 2 (bs [])), valI (l.getD 3 (bs [])), valI (l.getD 4 (bs []))⟩
/-- What a hop's row is. -/
def P320 (s : ByteArray) : Prop := ∃ h, okHop h ∧ s = S319 h
def S320 (s : ByteArray) : api_Hop × Bool := (hopOf (S315 s).1, true)
def S318 (a b : List ByteArray) : Bool := decide (a = b)
def P312 (a : List ByteArray) : Prop := a.length ≤ 1152921504606846976 ∧ ∀ x ∈ a, x.size ≤ 1152921504606846976
def S312 (a : List ByteArray) : Bool := decide (a.length + (a.map (·.size)).sum < 10000)
def P318 (a b : List ByteArray) : Prop := a.length ≤ 1152921504606846976
/-- The reader's steps. -/
def rText (r : row_reader) : ByteArray × row_reader := match r.flist with
  | [] => (bs [], ⟨[], true⟩)
  | s :: l => (s, ⟨l, r.fbad⟩)
def rNum (r : row_reader) : Int × row_reader := match rText r with
  | (s, q) => (valI s, ⟨q.flist, q.fbad || (S337 s).2⟩)
def rAddr (r : row_reader) : Int × row_reader := match rText r with
  | (s, q) => (valU s, ⟨q.flist, q.fbad || (S357 s 10 32).2⟩)
def rPre (r : row_reader) : api_Prefix × row_reader := match rAddr r with
  | (a, q) => match rNum q with
    | (n, q) => (⟨a, n⟩, q)
/-- The same, but it stays as it stands while nothing is known of the list. -/
def lk {α β : Type} (l : List β) (x : α) : α := match l with
  | [] => x
  | _ :: _ => x
theorem lk_eq {α β : Type} (l : List β) (x : α) : lk l x = x := by cases l <;> rfl
inductive PR (r : row_reader) : Prop
  | mk (h : ∀ s ∈ r.flist, s.size ≤ 1099511627776) : PR r
def S358 (r : row_reader) : ByteArray × row_reader := rText r
def P344 (r : row_reader) : Prop := PR r
def S344 (r : row_reader) : Int × row_reader := lk r.flist (rNum r)
def P343 (r : row_reader) : Prop := PR r
def S343 (r : row_reader) : Int × row_reader := lk r.flist (rAddr r)
def P342 (r : row_reader) : Prop := PR r
def S342 (r : row_reader) : api_Prefix × row_reader := lk r.flist (rPre r)
end Go.L21
namespace Go.L7
open Go.Rx Go.Ab
def S44 (x y : List Int) : Bool := (bsOf x).toList == (bsOf y).toList
def S41 (x y : List Int) : Bool := decide (x = y)
def S40 (x y : List api_Segment) : Bool := decide (x = y)
def S15 (x y : List Int) : Bool := decide (x = y)
def S36 (x y : List api_Segment) : Bool := decide (x = y)
def S18 (a b : api_Attrs) : Bool := decide (a = b)
def rawEq (r s : api_Raw) : Bool := decide (r.fFlags = s.fFlags) && decide (r.fType = s.fType) && S44 r.fData s.fData
def rawsEq : List api_Raw → List api_Raw → Bool
  | [], [] => true
  | r :: x, s :: y => rawEq r s && rawsEq x y
  | _, _ => false
def S21 (a b : api_Attrs) : Bool := decide (a.fOrigin = b.fOrigin) && decide (a.fNext = b.fNext) && decide (a.fMed = b.fMed) && decide (a.fPref = b.fPref) && S40 a.fPath b.fPath && S41 a.fComms b.fComms && rawsEq a.fRaws b.fRaws
def w64 (n : Int) : Int := IntKind.i64.wrap n
def smallP : List api_Segment → Int → Int
  | [], n => n
  | s :: r, n => if n < 3000 then smallP r (w64 (n + s.fAS.length)) else n
def smallR : List api_Raw → Int → Int
  | [], n => n
  | s :: r, n => if n < 3000 then smallR r (w64 (n + s.fData.length)) else n
def S10 (a : api_Attrs) : Bool := decide (smallR a.fRaws (smallP a.fPath (w64 (w64 (a.fPath.length + a.fComms.length) + a.fRaws.length))) < 3000)
def getB (v c : Int) : Int := ior IntKind.u32 (IntKind.u32.wrap (v * 2 ^ 8)) (IntKind.u32.wrap c)
def S66 (b : List Int) : Int := (b.take 4).foldl getB 0
def S27 (n : Int) : Bool := !decide (n = 0) && !decide (n.fdiv (2 ^ 24) = 127) && decide (n.fdiv (2 ^ 24) < 224)
def P62 (x : List Int) : Prop := x.length ≤ 140737488355328
def S62 (x : List Int) : List Int := x
def asOk (n : Int) : Bool := decide (1 ≤ n) && decide (n ≤ 4294967295)
def goodP : List api_Segment → Int → Bool
  | [], n => decide (n ≤ 64)
  | s :: r, n => if s.fAS.length < 1 ∨ 255 < s.fAS.length then false else if s.fAS.all asOk then goodP r (w64 (n + s.fAS.length)) else false
def S26 (p : List api_Segment) : Bool := goodP p 0
def S28 (r : api_Raw) : Bool := if r.fType = 6 then decide (r.fFlags = 64) && decide ((r.fData.length : Int) = 0) else if r.fType = 7 then decide (r.fFlags = 192) && decide ((r.fData.length : Int) = 8)
  else decide (8 < r.fType) && decide (r.fType ≤ 255) && decide (r.fFlags = 224) && decide ((r.fData.length : Int) ≤ 255)
def rawsUp : Option Int → List api_Raw → Bool
  | _, [] => true
  | p, r :: l => S28 r && (match p with | none => true | some t => decide (t < r.fType)) && rawsUp (some r.fType) l
def S13 (a : api_Attrs) : Bool := !(decide (a.fOrigin < 0) || decide (2 < a.fOrigin)) && S26 a.fPath && S27 a.fNext && !decide (32 < (a.fComms.length : Int)) && rawsUp none a.fRaws && (decide (-1 ≤ a.fMed) && decide (a.fMed ≤ 4294967295) && decide (-1 ≤ a.fPref) && decide (a.fPref ≤ 4294967295))
def put4 (n : Int) : List Int := [IntKind.u8.wrap (n.fdiv (2 ^ 24)), IntKind.u8.wrap (n.fdiv (2 ^ 16)), IntKind.u8.wrap (n.fdiv (2 ^ 8)), IntKind.u8.wrap n]
def S25 (n : Int) : List Int := put4 (IntKind.u32.wrap n)
def P23 (p : List api_Segment) : Prop := p.length ≤ 140737488355328
def segB (s : api_Segment) : List Int := (if s.fSet then 1 else 2) :: IntKind.u8.wrap s.fAS.length :: s.fAS.flatMap fun n => put4 (IntKind.u32.wrap n)
def S23 (p : List api_Segment) : List Int := if S26 p then p.flatMap segB else []
def By (b : List Int) : Prop := ∀ c ∈ b, 0 ≤ c ∧ c ≤ 255
def P65 (b : List Int) : Prop := b.length ≤ 1099511627776 ∧ By b
def asN : Nat → List Int → List Int
  | 0, _ => []
  | n + 1, b => w64 (S66 b) :: asN n (b.drop 4)
def decP : Nat → List Int → Option (List api_Segment)
  | 0, _ => some []
  | f + 1, b => if b = [] then some [] else if b.length < 2 ∨ (ix b 0 ≠ 1 ∧ ix b 0 ≠ 2) then none else
    if ((b.length : Int) - 2) < ix b 1 * 4 then none else match decP f (b.drop (2 + 4 * (ix b 1).toNat)) with
      | some r => some (⟨decide (ix b 0 = 1), asN (ix b 1).toNat (b.drop 2)⟩ :: r)
      | none => none
def pathOut (out : List api_Segment) : Option (List api_Segment) → List api_Segment × Bool
  | none => ([], false)
  | some r => if S26 (out ++ r) then (out ++ r, true) else ([], false)
def S65 (b : List Int) : List api_Segment × Bool := pathOut [] (decP b.length b)
def Q52 (l : List api_Raw) : Prop := l.length ≤ 1000 ∧ ∀ r ∈ l, 0 ≤ r.fType ∧ r.fType ≤ 255
def R52 (x y : api_Raw) : Prop := x.fType ≤ y.fType
def kinds : List attr_kind := [⟨0, 0⟩, ⟨64, 1⟩, ⟨64, -1⟩, ⟨64, 4⟩, ⟨128, 4⟩, ⟨64, 4⟩, ⟨64, 0⟩, ⟨192, 8⟩, ⟨192, -1⟩]
/-- Numbers of four bytes each. -/
def words : Nat → List Int → List Int
  | 0, _ => []
  | n + 1, d => if d = [] then [] else S66 d :: words n (d.drop 4)
/-- What an attribute of the first eight types says, or what is wrong with it. -/
def knownA (f t : Int) (all d : List Int) (a : api_Attrs) : (Int × List Int) ⊕ api_Attrs :=
  if iand IntKind.i64 f (if (ix kinds t).fflags = 192 then 192 else 224) ≠ (ix kinds t).fflags then .inl (4, all)
  else if (decide (0 ≤ (ix kinds t).fsize) && !decide ((d.length : Int) = (ix kinds t).fsize)) || (decide (t = 8) && (decide ((d.length : Int) = 0) || !decide ((d.length : Int).tmod 4 = 0))) then .inl (5, all)
  else if t = 1 then (if 2 < ix d 0 then .inl (6, all) else .inr { a with fOrigin := ix d 0 })
  else if t = 2 then (if (S65 d).2 then .inr { a with fPath := (S65 d).1 } else .inl (11, []))
  else if t = 3 then (if S27 (S66 d) then .inr { a with fNext := S66 d } else .inl (8, all))
  else if t = 4 then .inr { a with fMed := w64 (S66 d) }
  else if t = 5 then .inr { a with fPref := w64 (S66 d) }
  else if t = 8 then (if 128 < (d.length : Int) then .inl (9, all) else .inr { a with fComms := a.fComms ++ words d.length d })
  else .inr { a with fRaws := a.fRaws ++ [⟨(ix kinds t).fflags, t, d⟩] }
/-- The same of another attribute. -/
def otherA (f t : Int) (all d : List Int) (a : api_Attrs) : (Int × List Int) ⊕ api_Attrs :=
  if iand IntKind.i64 f 128 = 0 then .inl (2, all) else if iand IntKind.i64 f 64 = 0 then .inr a else if 255 < (d.length : Int) then .inl (9, all)
  else if 8 < t then .inr { a with fRaws := a.fRaws ++ [⟨224, t, d⟩] } else .inr a
def attrA (f t : Int) (all d : List Int) (a : api_Attrs) : (Int × List Int) ⊕ api_Attrs := if 1 ≤ t ∧ t ≤ 8 then knownA f t all d a else otherA f t all d a
def throwN (sub : Int) (data : List Int) : api_Attrs × api_Note := (⟨0, [], 0, 0, 0, [], []⟩, ⟨3, sub, data⟩)
def sortR (l : List api_Raw) : List api_Raw := l.mergeSort fun x y => decide (x.fType ≤ y.fType)
def finA (a : api_Attrs) (seen : List Bool) : api_Attrs × api_Note :=
  if !ix seen 1 then throwN 3 [1] else if !ix seen 2 then throwN 3 [2] else if !ix seen 3 then throwN 3 [3] else ({ a with fRaws := sortR a.fRaws }, ⟨0, 0, []⟩)
def headL (b : List Int) : Nat := if iand IntKind.u8 (ix b 0) 16 = 0 then 3 else 4
def sizeL (b : List Int) : Int := if iand IntKind.u8 (ix b 0) 16 = 0 then ix b 2 else ix b 2 * 256 + ix b 3
/-- Attributes, one by one. -/
def decA : Nat → List Int → api_Attrs → List Bool → api_Attrs × api_Note
  | 0, _, a, seen => finA a seen
  | f + 1, b, a, seen => if b = [] then finA a seen else if b.length < headL b then throwN 1 [] else if (b.length : Int) - headL b < sizeL b then throwN 1 [] else
    if ix seen (ix b 1) then throwN 1 [] else match attrA (ix b 0) (ix b 1) (b.take (headL b + (sizeL b).toNat)) ((b.take (headL b + (sizeL b).toNat)).drop (headL b)) a with
      | .inl (s, x) => throwN s x
      | .inr a' => decA f (b.drop (headL b + (sizeL b).toNat)) a' (seen.set (ix b 1).toNat true)
def a0 : api_Attrs := ⟨0, [], 0, -1, -1, [], []⟩
def P17 (b : List Int) : Prop := b.length ≤ 549755813888 ∧ By b
def S17 (b : List Int) : api_Attrs × api_Note := decA b.length b a0 (List.replicate 256 false)
/-- An attribute's bytes. -/
def putB (fl t : Int) (d : List Int) : List Int := (if 255 < (d.length : Int) then [IntKind.u8.wrap (ior IntKind.i64 fl 16), IntKind.u8.wrap t, IntKind.u8.wrap ((d.length : Int).fdiv (2 ^ 8)), IntKind.u8.wrap d.length] else [IntKind.u8.wrap fl, IntKind.u8.wrap t, IntKind.u8.wrap d.length]) ++ d
def rawsOut (c : List Int) : Bool → List api_Raw → List Int
  | told, [] => if told then [] else putB 192 8 c
  | told, r :: l => if 8 < r.fType ∧ told = false then putB 192 8 c ++ putB r.fFlags r.fType r.fData ++ rawsOut c true l else putB r.fFlags r.fType r.fData ++ rawsOut c told l
def P12 (a : api_Attrs) : Prop := a.fPath.length ≤ 1099511627776 ∧ a.fRaws.length ≤ 1073741824
def commB (l : List Int) : List Int := l.flatMap put4
def S12 (a : api_Attrs) : List Int := if S13 a then putB 64 1 [IntKind.u8.wrap a.fOrigin] ++ putB 64 2 (S23 a.fPath) ++ putB 64 3 (put4 a.fNext) ++ (if 0 ≤ a.fMed then putB 128 4 (S25 a.fMed) else []) ++ (if 0 ≤ a.fPref then putB 64 5 (S25 a.fPref) else []) ++ rawsOut (commB a.fComms) (decide ((commB a.fComms).length = 0)) a.fRaws
  else []
def S11 : Bool := true
def RawsBy (a : api_Attrs) : Prop := ∀ r ∈ a.fRaws, By r.fData
def P5 (a b : api_Attrs) : Prop := RawsBy a ∧ RawsBy b
def S5 (a b : api_Attrs) : Bool := true
end Go.L7
/-! What the document's answer and the laws hand back, and what they ask. -/
namespace Go.L7
open Go.Rx Go.Ab
def S29 (p : List api_Segment) : Bool := S26 p
def S30 (n : Int) : Bool := S27 n
def S14 (a : api_Attrs) : Bool := S13 a
def S20 (a b : api_Note) : Bool := decide (a = b)
def S33 (v : Int) : List Int := put4 v
def P31 (fl t : Int) (d : List Int) : Prop := d.length ≤ 70368744177664
def S31 (fl t : Int) (d : List Int) : List Int := (if 255 < (d.length : Int) then [IntKind.u8.wrap (w64 (fl + 16)), IntKind.u8.wrap t, IntKind.u8.wrap ((d.length : Int).tdiv 256), IntKind.u8.wrap ((d.length : Int).tmod 256)] else [IntKind.u8.wrap fl, IntKind.u8.wrap t, IntKind.u8.wrap d.length]) ++ d
def P32 (p : List api_Segment) : Prop := P23 p
def S32 (p : List api_Segment) : List Int := S23 p
def P16 (a : api_Attrs) : Prop := P12 a
def S16 (a : api_Attrs) : List Int := S12 a
def P55 (b : List Int) : Prop := 4 ≤ b.length ∧ By (b.take 4)
def S55 (b : List Int) : Int := ix b 0 * 16777216 + ix b 1 * 65536 + ix b 2 * 256 + ix b 3
def P54 (b : List Int) : Prop := P65 b
def S54 (b : List Int) : List api_Segment × Bool := S65 b
def P19 (b : List Int) : Prop := P17 b
def S19 (b : List Int) : api_Attrs × api_Note := S17 b
end Go.L7
/-! What arguments are within. -/
namespace Go.Rx
open Go.Ab
def api_Segment.ok (x : api_Segment) : Prop := okB x.fSet ∧ okL (okI .i64) x.fAS
def api_Raw.ok (x : api_Raw) : Prop := okI .i64 x.fFlags ∧ okI .i64 x.fType ∧ okL (okI .u8) x.fData
def api_Attrs.ok (x : api_Attrs) : Prop := okI .i64 x.fOrigin ∧ okL api_Segment.ok x.fPath ∧ okI .u32 x.fNext ∧ okI .i64 x.fMed ∧ okI .i64 x.fPref ∧ okL (okI .u32) x.fComms ∧ okL api_Raw.ok x.fRaws
theorem By.of_ok {l : List Int} (h : okL (okI .u8) l) : L7.By l := fun c hc => by
  have h := h.2 c hc
  unfold okI Lit.wf at h
  simp [IntKind.min, IntKind.max, IntKind.signed, IntKind.bits] at h
  omega
end Go.Rx
/-! What routes' rows are. -/
namespace Go.L21
open Go.Rx Go.Ab Go.L7
/-- A text's bytes as numbers. -/
def toI (s : ByteArray) : List Int := s.data.toList.map fun c => (c.toNat : Int)
def rtL (r : api_Route) : List ByteArray := [S333 r.fPrefix.fAddr, S333 r.fPrefix.fLen, S333 r.fPeer, S333 r.fStale, bsOf (S12 r.fAttrs)]
/-- A route whose attributes' bytes are not too many. -/
inductive OkRt (r : api_Route) : Prop
  | mk (h1 : 0 ≤ r.fPrefix.fAddr ∧ r.fPrefix.fAddr ≤ 4294967295) (h2 : P333 r.fPrefix.fLen) (h3 : P333 r.fPeer) (h4 : P333 r.fStale) (h5 : P12 r.fAttrs) (h6 : (S12 r.fAttrs).length ≤ 400000000 ∧ By (S12 r.fAttrs)) : OkRt r
def P505 (r : api_Route) : Prop := OkRt r
def S505 (r : api_Route) : ByteArray := S314 (rtL r)
def P507 (r : api_Route) : Prop := OkRt r
def S507 (r : api_Route) : ByteArray := S314 (rtL r)
/-- A route as any caller may hold it. -/
inductive FitA (a : api_Attrs) : Prop
  | mk (h1 : a.fPath.length ≤ 1073741824) (h2 : a.fComms.length ≤ 1073741824) (h3 : a.fRaws.length ≤ 1073741824) (h4 : ∀ s ∈ a.fPath, s.fAS.length ≤ 1073741824) (h5 : ∀ r ∈ a.fRaws, r.fData.length ≤ 1073741824) : FitA a
def P593 (l : List Int) : Prop := l.length ≤ 1099511627776
def S593 (l : List Int) : List Int := l
def S592 (l : List Int) : List Int := l
def P569 (l : List Int) : Prop := l.length ≤ 1099511627776
def S569 (l : List Int) : List Int := l
def S568 (l : List Int) : List Int := l
def S594 (l : List api_Segment) : List api_Segment := l
def S571 (l : List api_Raw) : List api_Raw := l
def P567 (l : List api_Segment) : Prop := l.length ≤ 1099511627776 ∧ ∀ s ∈ l, s.fAS.length ≤ 1099511627776
def S567 (l : List api_Segment) : List api_Segment := l
def P544 (a : api_Attrs) : Prop := FitA a
def S544 (a : api_Attrs) : api_Attrs := a
def P522 (r : api_Route) : Prop := FitA r.fAttrs
def S522 (r : api_Route) : api_Route := r
def r0 : api_Route := ⟨⟨0, 0⟩, 0, ⟨0, [], 0, 0, 0, [], []⟩, 0⟩
def rtOf (l : List ByteArray) : api_Route × Bool := bif decide ((S17 (toI (l.getD 4 (bs [])))).2.fCode = 0) then (⟨⟨valU (l.getD 0 (bs [])), valI (l.getD 1 (bs []))⟩, valI (l.getD 2 (bs [])), (S17 (toI (l.getD 4 (bs [])))).1, valI (l.getD 3 (bs []))⟩, true) else (r0, false)
inductive IsRt (s : ByteArray) : Prop
  | mk (r : api_Route) (h : OkRt r) (e : s = S505 r) (ok : api_Attrs.ok r.fAttrs) (sm : S10 r.fAttrs = true) : IsRt s
def P506 (s : ByteArray) : Prop := IsRt s
def S506 (s : ByteArray) : api_Route × Bool := lk s.data.toList (rtOf (S315 s).1)
def S509 (a b : api_Route) : Bool := decide (a = b)
def S313 : Bool := true
def P503 (r : api_Route) : Prop := (0 ≤ r.fPrefix.fAddr ∧ r.fPrefix.fAddr ≤ 4294967295) ∧ P333 r.fPrefix.fLen ∧ P333 r.fPeer ∧ P333 r.fStale ∧ api_Attrs.ok r.fAttrs
def S503 (r : api_Route) : Bool := true
end Go.L21
namespace Go.Rx
open Go.Ab
def api_Prefix.ok (x : api_Prefix) : Prop := okI .u32 x.fAddr ∧ okI .i64 x.fLen
def api_Route.ok (x : api_Route) : Prop := api_Prefix.ok x.fPrefix ∧ okI .i64 x.fPeer ∧ api_Attrs.ok x.fAttrs ∧ okI .i64 x.fStale
end Go.Rx
namespace Go.Proofs.YtadjcpiiagkdeaaGreatDoor
open Go.Ab Go.Rx
set_option linter.unusedSimpArgs false
set_option linter.unusedVariables false
theorem rd22 : Reads Tryz.prog 22 (eI .u32).pv (okI .u32) := reads_int Tryz.underlying22
theorem rd3 : Reads Tryz.prog 3 (eI .i64).pv (okI .i64) := reads_int Tryz.underlying3
theorem cells22 : Program.cellsOf Tryz.prog 22 = 1 := by kernel_rfl
theorem cells3 : Program.cellsOf Tryz.prog 3 = 1 := by kernel_rfl
theorem cells24 : Program.cellsOf Tryz.prog 24 = 2 := by kernel_rfl
theorem rd24 : Reads Tryz.prog 24 api_Prefix.cells api_Prefix.ok := by
  intro H enc w fuel cs d p h hw
  obtain ⟨hl, n, hf⟩ := trod_struct Tryz.underlying24 h hw
  rw [cells24] at hl
  obtain ⟨d0, p0, t0, w0⟩ := hf 0 _ rfl
  obtain ⟨x0, r0, k0⟩ := rd22 H enc w n _ d0 p0 t0 w0
  change RepL noT (gh (immOf w)) _ (List.take (Program.cellsOf Tryz.prog 22) (List.drop 0 cs)) at r0
  rw [cells22] at r0
  obtain ⟨d1, p1, t1, w1⟩ := hf 1 _ rfl
  obtain ⟨x1, r1, k1⟩ := rd3 H enc w n _ d1 p1 t1 w1
  change RepL noT (gh (immOf w)) _ (List.take (Program.cellsOf Tryz.prog 3) (List.drop 1 cs)) at r1
  rw [cells3] at r1
  exact ⟨⟨x0, x1⟩, (repL_chain (o := 0) (n := 1) (m := 1) r0 (repL_chain (o := 1) (n := 1) (m := 2) r1 (repL_end hl) rfl) rfl), k0, k1⟩
theorem rd4 : Reads Tryz.prog 4 eB.pv okB := reads_bool Tryz.underlying4
theorem rd32 : Reads Tryz.prog 32 (eL (eI .i64)).pv (okL (okI .i64)) := reads_slice (E := (eI .i64)) Tryz.underlying32 (by kernel_rfl) (of_decide_eq_true (by kernel_rfl)) (by decide) rd3
theorem cells4 : Program.cellsOf Tryz.prog 4 = 1 := by kernel_rfl
theorem cells32 : Program.cellsOf Tryz.prog 32 = 1 := by kernel_rfl
theorem cells34 : Program.cellsOf Tryz.prog 34 = 2 := by kernel_rfl
theorem rd34 : Reads Tryz.prog 34 api_Segment.cells api_Segment.ok := by
  intro H enc w fuel cs d p h hw
  obtain ⟨hl, n, hf⟩ := trod_struct Tryz.underlying34 h hw
  rw [cells34] at hl
  obtain ⟨d0, p0, t0, w0⟩ := hf 0 _ rfl
  obtain ⟨x0, r0, k0⟩ := rd4 H enc w n _ d0 p0 t0 w0
  change RepL noT (gh (immOf w)) _ (List.take (Program.cellsOf Tryz.prog 4) (List.drop 0 cs)) at r0
  rw [cells4] at r0
  obtain ⟨d1, p1, t1, w1⟩ := hf 1 _ rfl
  obtain ⟨x1, r1, k1⟩ := rd32 H enc w n _ d1 p1 t1 w1
  change RepL noT (gh (immOf w)) _ (List.take (Program.cellsOf Tryz.prog 32) (List.drop 1 cs)) at r1
  rw [cells32] at r1
  exact ⟨⟨x0, x1⟩, (repL_chain (o := 0) (n := 1) (m := 1) r0 (repL_chain (o := 1) (n := 1) (m := 2) r1 (repL_end hl) rfl) rfl), k0, k1⟩
theorem rd25 : Reads Tryz.prog 25 (eL api_Segment.enc).pv (okL api_Segment.ok) := reads_slice (E := api_Segment.enc) Tryz.underlying25 (by kernel_rfl) (of_decide_eq_true (by kernel_rfl)) (by decide) rd34
theorem rd26 : Reads Tryz.prog 26 (eL (eI .u32)).pv (okL (okI .u32)) := reads_slice (E := (eI .u32)) Tryz.underlying26 (by kernel_rfl) (of_decide_eq_true (by kernel_rfl)) (by decide) rd22
theorem rd5 : Reads Tryz.prog 5 (eI .u8).pv (okI .u8) := reads_int Tryz.underlying5
theorem rd35 : Reads Tryz.prog 35 (eL (eI .u8)).pv (okL (okI .u8)) := reads_slice (E := (eI .u8)) Tryz.underlying35 (by kernel_rfl) (of_decide_eq_true (by kernel_rfl)) (by decide) rd5
theorem cells35 : Program.cellsOf Tryz.prog 35 = 1 := by kernel_rfl
theorem cells37 : Program.cellsOf Tryz.prog 37 = 3 := by kernel_rfl
theorem rd37 : Reads Tryz.prog 37 api_Raw.cells api_Raw.ok := by
  intro H enc w fuel cs d p h hw
  obtain ⟨hl, n, hf⟩ := trod_struct Tryz.underlying37 h hw
  rw [cells37] at hl
  obtain ⟨d0, p0, t0, w0⟩ := hf 0 _ rfl
  obtain ⟨x0, r0, k0⟩ := rd3 H enc w n _ d0 p0 t0 w0
  change RepL noT (gh (immOf w)) _ (List.take (Program.cellsOf Tryz.prog 3) (List.drop 0 cs)) at r0
  rw [cells3] at r0
  obtain ⟨d1, p1, t1, w1⟩ := hf 1 _ rfl
  obtain ⟨x1, r1, k1⟩ := rd3 H enc w n _ d1 p1 t1 w1
  change RepL noT (gh (immOf w)) _ (List.take (Program.cellsOf Tryz.prog 3) (List.drop 1 cs)) at r1
  rw [cells3] at r1
  obtain ⟨d2, p2, t2, w2⟩ := hf 2 _ rfl
  obtain ⟨x2, r2, k2⟩ := rd35 H enc w n _ d2 p2 t2 w2
  change RepL noT (gh (immOf w)) _ (List.take (Program.cellsOf Tryz.prog 35) (List.drop 2 cs)) at r2
  rw [cells35] at r2
  exact ⟨⟨x0, x1, x2⟩, (repL_chain (o := 0) (n := 1) (m := 1) r0 (repL_chain (o := 1) (n := 1) (m := 2) r1 (repL_chain (o := 2) (n := 1) (m := 3) r2 (repL_end hl) rfl) rfl) rfl), k0, k1, k2⟩
theorem rd27 : Reads Tryz.prog 27 (eL api_Raw.enc).pv (okL api_Raw.ok) := reads_slice (E := api_Raw.enc) Tryz.underlying27 (by kernel_rfl) (of_decide_eq_true (by kernel_rfl)) (by decide) rd37
theorem cells25 : Program.cellsOf Tryz.prog 25 = 1 := by kernel_rfl
theorem cells26 : Program.cellsOf Tryz.prog 26 = 1 := by kernel_rfl
theorem cells27 : Program.cellsOf Tryz.prog 27 = 1 := by kernel_rfl
theorem cells29 : Program.cellsOf Tryz.prog 29 = 7 := by kernel_rfl
theorem rd29 : Reads Tryz.prog 29 api_Attrs.cells api_Attrs.ok := by
  intro H enc w fuel cs d p h hw
  obtain ⟨hl, n, hf⟩ := trod_struct Tryz.underlying29 h hw
  rw [cells29] at hl
  obtain ⟨d0, p0, t0, w0⟩ := hf 0 _ rfl
  obtain ⟨x0, r0, k0⟩ := rd3 H enc w n _ d0 p0 t0 w0
  change RepL noT (gh (immOf w)) _ (List.take (Program.cellsOf Tryz.prog 3) (List.drop 0 cs)) at r0
  rw [cells3] at r0
  obtain ⟨d1, p1, t1, w1⟩ := hf 1 _ rfl
  obtain ⟨x1, r1, k1⟩ := rd25 H enc w n _ d1 p1 t1 w1
  change RepL noT (gh (immOf w)) _ (List.take (Program.cellsOf Tryz.prog 25) (List.drop 1 cs)) at r1
  rw [cells25] at r1
  obtain ⟨d2, p2, t2, w2⟩ := hf 2 _ rfl
  obtain ⟨x2, r2, k2⟩ := rd22 H enc w n _ d2 p2 t2 w2
  change RepL noT (gh (immOf w)) _ (List.take (Program.cellsOf Tryz.prog 22) (List.drop 2 cs)) at r2
  rw [cells22] at r2
  obtain ⟨d3, p3, t3, w3⟩ := hf 3 _ rfl
  obtain ⟨x3, r3, k3⟩ := rd3 H enc w n _ d3 p3 t3 w3
  change RepL noT (gh (immOf w)) _ (List.take (Program.cellsOf Tryz.prog 3) (List.drop 3 cs)) at r3
  rw [cells3] at r3
  obtain ⟨d4, p4, t4, w4⟩ := hf 4 _ rfl
  obtain ⟨x4, r4, k4⟩ := rd3 H enc w n _ d4 p4 t4 w4
  change RepL noT (gh (immOf w)) _ (List.take (Program.cellsOf Tryz.prog 3) (List.drop 4 cs)) at r4
  rw [cells3] at r4
  obtain ⟨d5, p5, t5, w5⟩ := hf 5 _ rfl
  obtain ⟨x5, r5, k5⟩ := rd26 H enc w n _ d5 p5 t5 w5
  change RepL noT (gh (immOf w)) _ (List.take (Program.cellsOf Tryz.prog 26) (List.drop 5 cs)) at r5
  rw [cells26] at r5
  obtain ⟨d6, p6, t6, w6⟩ := hf 6 _ rfl
  obtain ⟨x6, r6, k6⟩ := rd27 H enc w n _ d6 p6 t6 w6
  change RepL noT (gh (immOf w)) _ (List.take (Program.cellsOf Tryz.prog 27) (List.drop 6 cs)) at r6
  rw [cells27] at r6
  exact ⟨⟨x0, x1, x2, x3, x4, x5, x6⟩, (repL_chain (o := 0) (n := 1) (m := 1) r0 (repL_chain (o := 1) (n := 1) (m := 2) r1 (repL_chain (o := 2) (n := 1) (m := 3) r2 (repL_chain (o := 3) (n := 1) (m := 4) r3 (repL_chain (o := 4) (n := 1) (m := 5) r4 (repL_chain (o := 5) (n := 1) (m := 6) r5 (repL_chain (o := 6) (n := 1) (m := 7) r6 (repL_end hl) rfl) rfl) rfl) rfl) rfl) rfl) rfl), k0, k1, k2, k3, k4, k5, k6⟩
theorem cells31 : Program.cellsOf Tryz.prog 31 = 11 := by kernel_rfl
theorem rd31 : Reads Tryz.prog 31 api_Route.cells api_Route.ok := by
  intro H enc w fuel cs d p h hw
  obtain ⟨hl, n, hf⟩ := trod_struct Tryz.underlying31 h hw
  rw [cells31] at hl
  obtain ⟨d0, p0, t0, w0⟩ := hf 0 _ rfl
  obtain ⟨x0, r0, k0⟩ := rd24 H enc w n _ d0 p0 t0 w0
  change RepL noT (gh (immOf w)) _ (List.take (Program.cellsOf Tryz.prog 24) (List.drop 0 cs)) at r0
  rw [cells24] at r0
  obtain ⟨d1, p1, t1, w1⟩ := hf 1 _ rfl
  obtain ⟨x1, r1, k1⟩ := rd3 H enc w n _ d1 p1 t1 w1
  change RepL noT (gh (immOf w)) _ (List.take (Program.cellsOf Tryz.prog 3) (List.drop 2 cs)) at r1
  rw [cells3] at r1
  obtain ⟨d2, p2, t2, w2⟩ := hf 2 _ rfl
  obtain ⟨x2, r2, k2⟩ := rd29 H enc w n _ d2 p2 t2 w2
  change RepL noT (gh (immOf w)) _ (List.take (Program.cellsOf Tryz.prog 29) (List.drop 3 cs)) at r2
  rw [cells29] at r2
  obtain ⟨d3, p3, t3, w3⟩ := hf 3 _ rfl
  obtain ⟨x3, r3, k3⟩ := rd3 H enc w n _ d3 p3 t3 w3
  change RepL noT (gh (immOf w)) _ (List.take (Program.cellsOf Tryz.prog 3) (List.drop 10 cs)) at r3
  rw [cells3] at r3
  exact ⟨⟨x0, x1, x2, x3⟩, (repL_chain (o := 0) (n := 2) (m := 2) r0 (repL_chain (o := 2) (n := 1) (m := 3) r1 (repL_chain (o := 3) (n := 7) (m := 10) r2 (repL_chain (o := 10) (n := 1) (m := 11) r3 (repL_end hl) rfl) rfl) rfl) rfl), k0, k1, k2, k3⟩
end Go.Proofs.YtadjcpiiagkdeaaGreatDoor
namespace Go.Rx
open Go.Ab Go.Proofs Go.RowKit Go.ChangeShapes
theorem cellsK' : Tryz.prog.cellsOf 137 = 2 := by kernel_rfl
theorem cells3' : Tryz.prog.cellsOf 3 = 1 := by kernel_rfl
/-- What the package variable holds, cell by cell. -/
theorem kindCells {W : World} (h : laidMetH Tryz.prog [("interregnum/attr.kinds", YtadjcpiiagkdeaaGreatDoor.Rows.laid_interregnum_attr_kinds)] W) (i : Nat) (k : attr_kind) (hk : L7.kinds[i]? = some k) :
    W.cell? ⟨0, i * 2 + 0, none⟩ = some (.int .i64 k.fflags) ∧ W.cell? ⟨0, i * 2 + 1, none⟩ = some (.int .i64 k.fsize) := by
  rw [MakeChecks.laidMetH_plain _ _ _ (by kernel_rfl)] at h
  obtain ⟨ps, ⟨g, t, cs, fuel, p, q, hg, ht, hv, hd, _, _⟩, _, _⟩ := h
  obtain rfl := Option.some.inj ((show Tryz.prog.globalNamed "interregnum/attr.kinds" = some 0 by kernel_rfl).symm.trans hg)
  obtain rfl := Option.some.inj ((show (Tryz.prog.globals[0]?).map (·.type) = some 138 by kernel_rfl).symm.trans ht)
  obtain ⟨xs, m, _, ex, hcl, hl, hel⟩ := DataW.trod_array Tryz.underlying138 hd
  have hi : i < 9 := (List.getElem?_eq_some_iff.1 hk).1
  have hE := hel i hi
  rw [cellsK', List.getElem?_eq_getElem (by omega)] at hE
  obtain ⟨ys, n, _, ey, hyl, hyn, hf⟩ := DataW.trod_struct Tryz.underlying137 hE
  have hn : ys.length = 2 := hyn
  have f0 := hf 0 _ rfl
  have f1 := hf 1 _ rfl
  change DataW.trod _ _ _ _ _ _ n 3 (List.take (Tryz.prog.cellsOf 3) (List.drop 0 _)) = _ at f0
  change DataW.trod _ _ _ _ _ _ n 3 (List.take (Tryz.prog.cellsOf 3) (List.drop 1 _)) = _ at f1
  rw [cells3', List.getElem?_eq_getElem (by omega)] at f0 f1
  obtain ⟨z0, a0, b0, _⟩ := DataW.trod_int Tryz.underlying3 f0
  obtain ⟨z1, a1, b1, _⟩ := DataW.trod_int Tryz.underlying3 f1
  have e3 : (xs.map (·.1)) = L7.kinds.map fun k => (.agg [.lit (.int .i64 k.fflags), .lit (.int .i64 k.fsize)] : DataW Unit) := (DataW.agg.inj (Prod.mk.inj ex).1).symm
  have e4 : (xs.map (·.1))[i]? = (L7.kinds.map fun k => (.agg [.lit (.int .i64 k.fflags), .lit (.int .i64 k.fsize)] : DataW Unit))[i]? := by rw [e3]
  rw [List.getElem?_map, List.getElem?_map, hk, List.getElem?_eq_getElem (by omega), ey] at e4
  have e5 : ys = [ys[0], ys[1]] := by
    apply List.ext_getElem
    · simp [hn]
    · intro j h1 h2
      have : j = 0 ∨ j = 1 := by omega
      rcases this with rfl | rfl <;> rfl
  rw [e5] at e4
  simp only [Option.map_some, Option.some.injEq, DataW.agg.injEq, List.map_cons, List.map_nil, List.cons.injEq, b0, b1, DataW.lit.injEq, Lit.int.injEq, true_and, and_true] at e4
  rw [World.var?_cell hg hv _, World.var?_cell hg hv _]
  have g0 : cs.toList[i * 2 + 0]? = some (.int .i64 z0) := by
    have h0 : ((((cs.toList.drop (i * 2)).take 2).drop 0).take 1)[0]? = some (.int .i64 z0) := by rw [a0]; rfl
    simpa using h0
  have g1 : cs.toList[i * 2 + 1]? = some (.int .i64 z1) := by
    have h0 : ((((cs.toList.drop (i * 2)).take 2).drop 1).take 1)[0]? = some (.int .i64 z1) := by rw [a1]; rfl
    simpa using h0
  rw [← e4.1, ← e4.2]
  exact ⟨by simpa using g0, by simpa using g1⟩
theorem glob07 {W : World} (h : laidMetH Tryz.prog [("interregnum/attr.kinds", YtadjcpiiagkdeaaGreatDoor.Rows.laid_interregnum_attr_kinds)] W) : GlobOk S (immOf W) := by
  intro x hx i y hy
  have hx' : x ∈ ([⟨0, 137, L7.kinds⟩] : List (Gv S.A)) := hx
  rw [List.mem_singleton] at hx'
  subst hx'
  obtain ⟨h1, h2⟩ := kindCells h i y hy
  refine ⟨[.int .i64 (show attr_kind from y).fflags, .int .i64 (show attr_kind from y).fsize], ⟨_, _, rfl, rfl, rfl, _, _, rfl, rfl, rfl, rfl⟩, fun j u hu => ?_⟩
  have hs : szOf S 137 = 2 := rfl
  show W.cell? ⟨0, i * szOf S 137 + j, none⟩ = some u
  rw [hs]
  match j with
  | 0 => simp at hu; subst hu; exact h1
  | 1 => simp at hu; subst hu; exact h2
  | j + 2 => simp at hu
theorem starE : "*" ++ "errors.errorString" = "*errors.errorString" := by decide
theorem row169 (u : TypeId) (h : Tryz.prog.typeName? 3 u = some "*errors.errorString") : u = 169 :=
  typeName_ptr_named (nm := "errors.errorString") (by rw [starE]; kernel_rfl) (by kernel_rfl) (by decide) u (by rw [starE]; exact h)
theorem laidOf {W : World} (h : laidMetH Tryz.prog [("math/bits.deBruijn32tab", YtadjcpiiagkdeaaGreatDoor.Rows.laid_math_bits_deBruijn32tab), ("math/bits.deBruijn64tab", YtadjcpiiagkdeaaGreatDoor.Rows.laid_math_bits_deBruijn64tab), ("internal/strconv.uint64pow10", YtadjcpiiagkdeaaGreatDoor.Rows.laid_internal_strconv_uint64pow10), ("strconv.ErrRange", YtadjcpiiagkdeaaGreatDoor.Rows.laid_strconv_ErrRange), ("strconv.ErrSyntax", YtadjcpiiagkdeaaGreatDoor.Rows.laid_strconv_ErrSyntax), ("interregnum/attr.kinds", YtadjcpiiagkdeaaGreatDoor.Rows.laid_interregnum_attr_kinds)] W) : Laid W := by
  rw [MakeChecks.laidMetH_plain _ _ _ (by kernel_rfl)] at h
  have h2 := h.tail.tail
  obtain ⟨a1, s1, hv1, _⟩ := laid_sentinel (g := 3) (ti := 76) (tp := 169) (te := 171) (ts := 9) h2.tail (by kernel_rfl) (by kernel_rfl) Tryz.underlying76 row169 Tryz.underlying169 Tryz.underlying171 rfl rfl Tryz.underlying9 (by kernel_rfl) (by kernel_rfl)
  obtain ⟨a2, s2, hv2, _⟩ := laid_sentinel (g := 2) (ti := 76) (tp := 169) (te := 171) (ts := 9) h2.tail.tail (by kernel_rfl) (by kernel_rfl) Tryz.underlying76 row169 Tryz.underlying169 Tryz.underlying171 rfl rfl Tryz.underlying9 (by kernel_rfl) (by kernel_rfl)
  refine ⟨?_, ⟨169, .pointer (some a2), ?_⟩, ⟨169, .pointer (some a1), ?_⟩⟩
  · exact Lib.tabIs_of_head (g := 4) (t := 152) (e := 85) (n := 20) (by kernel_rfl) (by kernel_rfl) Tryz.underlying152 Tryz.underlying85 (by kernel_rfl) (by kernel_rfl) h2
  · simpa using World.var?_cell (show Tryz.prog.globalNamed "strconv.ErrSyntax" = some 2 by kernel_rfl) hv2 0
  · simpa using World.var?_cell (show Tryz.prog.globalNamed "strconv.ErrRange" = some 3 by kernel_rfl) hv1 0
theorem kindsOf {W : World} (h : laidMetH Tryz.prog [("math/bits.deBruijn32tab", YtadjcpiiagkdeaaGreatDoor.Rows.laid_math_bits_deBruijn32tab), ("math/bits.deBruijn64tab", YtadjcpiiagkdeaaGreatDoor.Rows.laid_math_bits_deBruijn64tab), ("internal/strconv.uint64pow10", YtadjcpiiagkdeaaGreatDoor.Rows.laid_internal_strconv_uint64pow10), ("strconv.ErrRange", YtadjcpiiagkdeaaGreatDoor.Rows.laid_strconv_ErrRange), ("strconv.ErrSyntax", YtadjcpiiagkdeaaGreatDoor.Rows.laid_strconv_ErrSyntax), ("interregnum/attr.kinds", YtadjcpiiagkdeaaGreatDoor.Rows.laid_interregnum_attr_kinds)] W) : laidMetH Tryz.prog [("interregnum/attr.kinds", YtadjcpiiagkdeaaGreatDoor.Rows.laid_interregnum_attr_kinds)] W := by
  rw [MakeChecks.laidMetH_plain _ _ _ (by kernel_rfl)] at h ⊢
  exact h.tail.tail.tail.tail.tail
theorem okU32 {n : Int} (h : okI .u32 n) : 0 ≤ n ∧ n ≤ 4294967295 := by
  unfold okI Lit.wf at h
  simp [IntKind.min, IntKind.max, IntKind.signed, IntKind.bits] at h
  omega
theorem okI64 {n : Int} (h : okI .i64 n) : L21.P333 n := by
  unfold okI Lit.wf at h
  simp [IntKind.min, IntKind.max, IntKind.signed, IntKind.bits] at h
  unfold L21.P333
  omega
theorem rt_ok {r : api_Route} (o : api_Route.ok r) : L21.P503 r := ⟨okU32 o.1.1, okI64 o.1.2, okI64 o.2.1, okI64 o.2.2.2, o.2.2.1⟩
end Go.Rx
/-! Numbers and texts, with no program in sight. -/
namespace Go.L21
open Go.Rx Go.Ab Go
set_option linter.unusedVariables false
def Digs (l : List UInt8) : Prop := ∀ c ∈ l, 48 ≤ c.toNat ∧ c.toNat ≤ 57
def valF (acc : Nat) (l : List UInt8) : Nat := l.foldl (fun n c => n * 10 + (c.toNat - 48)) acc
theorem toNat_dig {d : Nat} (h : d < 10) : (UInt8.ofNat (48 + d)).toNat = 48 + d := by
  rw [UInt8.toNat_ofNat']; omega
theorem digs_dec (u : Nat) : Digs (Lib.decDigits u) := by
  induction u using Nat.strongRecOn with
  | _ u ih =>
    rw [Lib.decDigits]
    split
    · intro c hc
      have hc := List.mem_singleton.1 hc
      rw [hc, toNat_dig (by omega)]; omega
    · intro c hc
      rcases List.mem_append.1 hc with hc | hc
      · exact ih (u / 10) (by omega) c hc
      · have hc := List.mem_singleton.1 hc
        rw [hc, toNat_dig (by omega)]; omega
theorem val_dec (u : Nat) : valF 0 (Lib.decDigits u) = u := by
  induction u using Nat.strongRecOn with
  | _ u ih =>
    rw [Lib.decDigits]
    split
    · show 0 * 10 + ((UInt8.ofNat (48 + u)).toNat - 48) = u
      rw [toNat_dig (by omega)]; omega
    · unfold valF
      rw [List.foldl_append]
      have := ih (u / 10) (by omega)
      unfold valF at this
      rw [this]
      show u / 10 * 10 + ((UInt8.ofNat (48 + u % 10)).toNat - 48) = u
      rw [toNat_dig (by omega)]; omega
theorem dec_ne (u : Nat) : Lib.decDigits u ≠ [] := by
  rw [Lib.decDigits]; split <;> simp
theorem valF_ge (l : List UInt8) (acc : Nat) : acc ≤ valF acc l := by
  induction l generalizing acc with
  | nil => exact Nat.le_refl _
  | cons c r ih => exact Nat.le_trans (by omega) (ih (acc * 10 + (c.toNat - 48)))
theorem parseM {M : Nat} (hM : M < 18446744073709551616) {l : List UInt8} (hd : Digs l) {acc : Nat} (h : valF acc l ≤ M) : Lib.parseUintM M acc l = .ok (valF acc l) := by
  induction l generalizing acc with
  | nil => rfl
  | cons c r ih =>
    have hc := hd c List.mem_cons_self
    have hg := valF_ge r (acc * 10 + (c.toNat - 48))
    have h : valF (acc * 10 + (c.toNat - 48)) r ≤ M := h
    rw [Lib.parseUintM, if_pos hc, if_neg (by omega), if_neg (by omega)]
    exact ih (fun x hx => hd x (List.mem_cons_of_mem _ hx)) h
theorem parse10 {l : List UInt8} (hd : Digs l) {acc : Nat} (h : valF acc l < 18446744073709551616) : Lib.parseUint10 acc l = .ok (valF acc l) := by
  induction l generalizing acc with
  | nil => rfl
  | cons c r ih =>
    have hc := hd c List.mem_cons_self
    have hg := valF_ge r (acc * 10 + (c.toNat - 48))
    have h : valF (acc * 10 + (c.toNat - 48)) r < 18446744073709551616 := h
    rw [Lib.parseUint10, if_pos hc, if_neg (by omega), if_neg (by omega)]
    exact ih (fun x hx => hd x (List.mem_cons_of_mem _ hx)) h
theorem uint_dec (B : Nat) (hB : B ≤ 64) (u : Nat) (h : u < 2 ^ B) : Lib.parseUintB B (Lib.decDigits u) = .ok u := by
  have h2 : 2 ^ B ≤ 2 ^ 64 := Nat.pow_le_pow_right (by omega) hB
  have h3 : (2 : Nat) ^ 64 = 18446744073709551616 := by decide
  rw [Lib.parseUintB, if_neg (dec_ne u)]
  have := parseM (M := 2 ^ B - 1) (by omega) (digs_dec u) (acc := 0) (by rw [val_dec]; omega)
  rw [val_dec] at this
  exact this
theorem mag_dec (u : Nat) (h : u < 18446744073709551616) : Lib.parseMag (Lib.decDigits u) = .ok u := by
  rw [Lib.parseMag, if_neg (dec_ne u)]
  have := parse10 (digs_dec u) (acc := 0) (by rw [val_dec]; omega)
  rw [val_dec] at this
  exact this
theorem atoi_dec (u : Nat) (h : u < 9223372036854775808) : Lib.atoiAll (Lib.decDigits u) = .ok u := by
  have hm := mag_dec u (by omega)
  have hd := digs_dec u
  have hn := dec_ne u
  revert hm hd hn
  generalize Lib.decDigits u = l
  intro hm hd hn
  match l, hn with
  | c :: r, _ =>
    have hc := hd c List.mem_cons_self
    have h43 : ¬ c.toNat = 43 := by omega
    have h45 : ¬ c.toNat = 45 := by omega
    have h1 : ¬ (9223372036854775808 ≤ u) := by omega
    simp only [Lib.atoiAll, h43, hm, h45, h1, or_self, not_false_eq_true, true_and, false_and, if_false]
theorem atoi_itoa (n : Int) (h : P333 n) : Lib.atoiAll (Lib.itoa n) = .ok n := by
  by_cases hn : n < 0
  · obtain ⟨u, rfl⟩ : ∃ u : Nat, n = -(u : Int) := ⟨n.natAbs, by omega⟩
    have h0 := h.1
    rw [Lib.itoa_neg u (by omega)]
    have hm := mag_dec u (by omega)
    have h1 : ¬ (9223372036854775808 < u) := by omega
    have e45 : (45 : UInt8).toNat = 45 := rfl
    simp only [Lib.atoiAll, e45, or_true, if_true, hm, h1, not_true_eq_false, false_and, and_false, if_false]
  · obtain ⟨u, rfl⟩ : ∃ u : Nat, n = (u : Int) := ⟨n.toNat, by omega⟩
    have h1 := h.2
    rw [Lib.itoa_nonneg]
    exact atoi_dec u (by omega)
theorem take58 {l r : List UInt8} (h : ∀ c ∈ l, c ≠ 58) : (l ++ 58 :: r).takeWhile (· != 58) = l := by
  induction l with
  | nil => rfl
  | cons c t ih =>
    have hc : (c != 58) = true := by simpa using h c List.mem_cons_self
    rw [List.cons_append, List.takeWhile_cons, hc]
    simp only [if_true]
    rw [ih fun x hx => h x (List.mem_cons_of_mem _ hx)]
theorem digs58 {l : List UInt8} (h : Digs l) : ∀ c ∈ l, c ≠ 58 := fun c hc e => by
  have := h c hc
  rw [e] at this
  exact absurd this (by decide)
theorem split1_text (s : ByteArray) (r : List UInt8) : split1 (textL s ++ r) = some (s.data.toList, r) := by
  have e : textL s ++ r = Lib.decDigits s.size ++ 58 :: (s.data.toList ++ r) := by
    rw [textL, Lib.itoa_nonneg]; simp
  have ht : (textL s ++ r).takeWhile (· != 58) = Lib.decDigits s.size := by
    rw [e]; exact take58 (digs58 (digs_dec _))
  have hv : valL (Lib.decDigits s.size) = s.size := val_dec _
  have hb : (textL s ++ r).drop ((Lib.decDigits s.size).length + 1) = s.data.toList ++ r := by
    rw [e, List.drop_append]; simp
  have hl : s.data.toList.length = s.size := (Lib.size_eq s).symm
  unfold split1
  simp only [ht, hv, hb]
  have h1 : (Lib.decDigits s.size).length < (textL s ++ r).length := by rw [e]; simp
  have h2 : s.size ≤ (s.data.toList ++ r).length := by rw [List.length_append, hl]; omega
  simp only [h1, h2, decide_true, beq_self_eq_true, Bool.and_true, cond_true]
  rw [← hl, List.take_left, List.drop_left]
theorem split1_lt {l x r : List UInt8} (h : split1 l = some (x, r)) : r.length < l.length := by
  by_cases hl : l = []
  · subst hl; cases h
  · have : 0 < l.length := List.length_pos_iff.2 hl
    unfold split1 at h
    simp only [] at h
    revert h
    generalize (decide ((l.takeWhile (· != 58)).length < l.length) && (l.takeWhile (· != 58) == Lib.decDigits (valL (l.takeWhile (· != 58)))) && decide (valL (l.takeWhile (· != 58)) ≤ (l.drop ((l.takeWhile (· != 58)).length + 1)).length)) = b
    intro h
    cases b
    · cases h
    · simp only [cond_true, Option.some.injEq, Prod.mk.injEq] at h
      rw [← h.2]
      simp only [List.length_drop]
      omega
theorem splitN_ge (n m : Nat) (l : List UInt8) (hn : l.length ≤ n) (hm : l.length ≤ m) : splitN n l = splitN m l := by
  induction n generalizing m l with
  | zero =>
    have : l = [] := List.length_eq_zero_iff.1 (by omega)
    subst this
    cases m <;> rfl
  | succ n ih =>
    cases m with
    | zero =>
      have : l = [] := List.length_eq_zero_iff.1 (by omega)
      subst this; rfl
    | succ m =>
      unfold splitN
      cases hs : split1 l with
      | none => rfl
      | some p =>
        obtain ⟨x, r⟩ := p
        have := split1_lt hs
        simp only []
        rw [ih m r (by omega) (by omega)]
theorem splitL_eq (l : List UInt8) : splitL l = if l.isEmpty then some [] else match split1 l with
    | none => none
    | some (x, r) => (splitL r).map (x :: ·) := by
  unfold splitL
  cases hl : l with
  | nil => rfl
  | cons c t =>
    show splitN (t.length + 1) (c :: t) = _
    rw [splitN]
    cases hs : split1 (c :: t) with
    | none => rfl
    | some p =>
      obtain ⟨x, r⟩ := p
      have := split1_lt hs
      simp only [List.length_cons] at this
      simp only []
      rw [splitN_ge t.length r.length r (by omega) (by omega)]
theorem splitL_nil : splitL [] = some [] := rfl
theorem splitL_none {l : List UInt8} (hl : l ≠ []) (h : split1 l = none) : splitL l = none := by
  rw [splitL_eq, h]
  cases l with
  | nil => exact absurd rfl hl
  | cons c t => rfl
theorem splitL_some {l x r : List UInt8} (h : split1 l = some (x, r)) : splitL l = (splitL r).map (x :: ·) := by
  rw [splitL_eq, h]
  cases l with
  | nil => cases h
  | cons c t => rfl
theorem splitL_texts (l : List ByteArray) : splitL (textsL l) = some (l.map (·.data.toList)) := by
  induction l with
  | nil => rfl
  | cons s r ih =>
    show splitL (textL s ++ textsL r) = _
    rw [splitL_some (split1_text s _), ih]
    rfl
theorem bs_data (s : ByteArray) : bs s.data.toList = s := rfl
theorem data_bs (l : List UInt8) : (bs l).data.toList = l := rfl
theorem size_bs (l : List UInt8) : (bs l).size = l.length := List.size_toArray
theorem split_texts (l : List ByteArray) : S315 (S314 l) = (l, true) := by
  unfold S315 S314
  rw [data_bs, splitL_texts]
  simp only [List.map_map]
  have : bs ∘ (fun x : ByteArray => x.data.toList) = id := rfl
  rw [this, List.map_id]
end Go.L21
/-! Facts that both halves use. -/
namespace Go.Rx
open Go.Ab
theorem wrap64 {n : Int} (h : -9223372036854775808 ≤ n ∧ n ≤ 9223372036854775807) : IntKind.i64.wrap n = n := wrap64_id h
theorem kk1 {P : Program} {f : Nat} {W : Con S.A} (h : ConOk P f W ∧ ConMon W) : KOk P [(f, W)] := kok_cons h kok_nil
theorem sub_drop {α : Type} (l : List α) {k : Int} {n : Nat} (h : k.toNat = n) : sub l k (l.length : Int) = l.drop n := by
  unfold sub; rw [h, Int.toNat_natCast, List.take_of_length_le (Nat.le_refl _)]
end Go.Rx
