import Derived.Test.YtadjcpiiagkdeaaDoorV4
import Derived.Test.YtadjcpiiagkdeaaDoorProg
import Derived.KernelRfl
import Derived.Lib.LaidTab
import Derived.Lib.ItoaNum
import Derived.Lib.AtoiAll
import Derived.Lib.ParseIntB
import Derived.Lib.Bytealg
import Derived.Test.YtadjcpiiagkdeaaDoorRows
import Derived.OpenShut
import Derived.ProofKit
import Derived.LaidMore
import Derived.Lay
import GoSem.ClaimJoined
import Derived.JoinedTies
import Derived.ChangeArms
import Derived.Stop.LaidErr
import Derived.Lib.Split
import Derived.Lib.Join
import Derived.Lib.Itoa
import Derived.Lib.ItoaMem
import Derived.Lib.Strings
import Derived.Shelf.Strings.Builder1
import Derived.Shelf.Strconv.Itoa3
import Derived.Shelf.Strconv.AtoiAll
import Derived.Ground.MpProg
import Derived.Shelf.Pu.ParseUintPublic10
import Derived.Shelf.Strings.Search1
import Derived.Shelf.Strings.Search2
import Derived.Sort.Grow
import Derived.Shelf.Strconv.Itoa2
import Derived.Lib.AppendIntMem
import Derived.Lib.ItoaWalk
import Derived.WalkKit
import Derived.BigCall
import Derived.BigGuard
import Derived.Lib.Builder
set_option linter.unusedVariables false
set_option linter.unusedSimpArgs false
/-! Code is sound. -/
namespace Go.Rx
open Go.Ab Go.RowKit
set_option linter.unusedVariables false
set_option linter.unusedSimpArgs false
/-! ### Loops -/
def LoopIn (P : Program) (c : Code) (Q : Exit → Act → World → Prop) (a : Act) (w : World) : Prop :=
  ∀ b k cs, ∃ e a' w', Q e a' w' ∧ Arrives P (lone (b.at a (.code c :: .inLoop c :: k)) cs w) b k cs e a' w'
theorem loopIn_wp {P : Program} {c : Code} {Q : Exit → Act → World → Prop} {a : Act} {w : World} (h : LoopIn P c Q a w) : (Code.loop c).wp P Q a w := by
  intro b k cs
  obtain ⟨e, a', w', hq, harr⟩ := h b k cs
  exact ⟨e, a', w', hq, .of_steps (.one step_loop) harr⟩
theorem loopIn_step {P : Program} {c : Code} {Q : Exit → Act → World → Prop} {a : Act} {w : World} (h : c.wp P (Exit.then (LoopIn P c Q) Q) a w) : LoopIn P c Q a w := by
  intro b k cs
  obtain ⟨e, a₁, w₁, hq, harr⟩ := h b (.inLoop c :: k) cs
  cases e with
  | normal =>
    obtain ⟨e₂, a₂, w₂, hq₂, harr₂⟩ := hq b k cs
    exact ⟨e₂, a₂, w₂, hq₂, .of_steps (Steps.trans harr (.one step_inLoop)) harr₂⟩
  | exit id => exact ⟨_, a₁, w₁, hq, .pass (x := .inLoop c) rfl (fun _ _ => .inl (by simp)) harr⟩
  | goto l => exact ⟨_, a₁, w₁, hq, .pass (x := .inLoop c) rfl (fun _ _ => .inl (by simp)) harr⟩
  | ret => exact ⟨_, a₁, w₁, hq, .pass (x := .inLoop c) rfl (fun _ _ => .inl (by simp)) harr⟩
  | panic ch => exact ⟨_, a₁, w₁, hq, .pass (x := .inLoop c) rfl (fun _ _ => .inl (by simp)) harr⟩
  | outgrown => exact ⟨_, a₁, w₁, hq, .pass (x := .inLoop c) rfl (fun _ _ => .inl (by simp)) harr⟩
section code
variable {S : Sys} {C : Cfg S} {call : XS S.A → CallT S} {B : Base} {F : Fr S} {K0 : Nat → Prop} {l0 : Nat}
structure Ok (C : Cfg S) (call : XS S.A → CallT S) : Prop where
  cm : ∀ b f args m k k' kp kp', (∀ r m, k r m → k' r m) → (∀ r m, kp r m → kp' r m) → call b f args m k kp → call b f args m k' kp'
  km : ∀ f W, Ab.look C.K f = some (.tr W) → ∀ args k k', (∀ r, k r → k' r) → W args k → W args k'
  ok : ∀ b, CallOk C.P b (call b)
  K : ∀ f W, Ab.look C.K f = some W → ConOk C.P f W
  mx : C.P.follows .mixedOrders = true
theorem Ok.rg (hC : Ok C call) (an : List (Nat × Ann)) (i : Nat) (d : Bool) : Ok (C.rg an i d) call := ⟨hC.cm, hC.km, hC.ok, hC.K, hC.mx⟩
theorem Rel.pay {σ : St} {g : Gh} {a : Act} {w : World} (hr : Rel B σ g a w) (p : PV) : Rel B { σ with pay := p } g a w :=
  ⟨hr.size, hr.env, hr.defers, hr.imm, hr.box, hr.apart, hr.tip, hr.tips, hr.boxtip, hr.below, hr.immle, hr.immnew, hr.pin, hr.prv⟩
theorem tok_refl {Q : Nat → Prop} {T : Nat → Option (Nat × Nat)} (h : ∀ q x, T q = some x → Q q) : TOk Q (fun _ => false) T T :=
  ⟨fun n h => by (cases h), fun _ _ => rfl, fun q x hx => .inl (h q x hx)⟩
/-- Guards are forgotten. -/
theorem clear_weak {b M s : XS S.A} {D : List Nat} {kn : Kn} {Q : Nat → Prop} {g : Gh} {a : Act} {w : World} (hb : ∀ k, noG (getN F.N b k)) (h : Mg F.N b D kn M s) (hw : WF Q F (s.over b)) (hr : Rel B (den F (s.over b)) g a w) :
    WF Q F ((clearG M).over b) ∧ Rel B (den F ((clearG M).over b)) (unτ (fun _ => false) g) a w := by
  have hL : ((clearG M).over b).L = (s.over b).L := h.overL
  have hT : ((clearG M).over b).T = (s.over b).T := h.overT
  have hcl : ∀ k, ((clearG M).over b).get k = (match M.env k with | some (.grd _ _ _) => .any | some p => p | none => b.get k) := by
    intro k
    rw [over_get]
    unfold clearG
    simp only
    cases M.env k with
    | none => rfl
    | some p => cases p <;> rfl
  have key : ∀ k, Nat.blt k F.N = true → Wv Q (fun _ => false) (denTT (s.over b).T) ((s.over b).get k) (((clearG M).over b).get k) ∧ inV Q (((clearG M).over b).get k) := by
    intro k hk
    have h1 := h.slot k
    have hin := hw.get hk
    unfold getN at h1
    rw [hk] at h1
    simp only [cond_true] at h1
    rw [hcl]
    rw [over_get M b] at h1
    cases hm : M.env k with
    | none =>
      rw [hm] at h1
      simp only at h1 ⊢
      have hbk : noG (b.get k) := by have := hb k; unfold getN at this; rw [hk] at this; exact this
      revert h1 hbk
      generalize b.get k = m
      intro h1 hbk
      cases m with
      | grd g w p => exact hbk.elim
      | _ => have h1 : (s.over b).get k = _ := h1; rw [h1] at hin ⊢; exact ⟨.same _ hin, hin⟩
    | some m =>
      rw [hm] at h1
      cases m with
      | grd g w p => exact ⟨.one (.any _) rfl, trivial⟩
      | _ => have h1 : (s.over b).get k = _ := h1; rw [h1] at hin ⊢; exact ⟨.same _ hin, hin⟩
  have hc : (clearG M).c = s.c := h.c
  refine ⟨?_, ?_⟩
  · refine ⟨fun k => ?_, fun i ps hi => hw.L i ps (by rw [← hL]; exact hi), fun q x hq => hw.T q x (by rw [← hT]; exact hq), hw.ext⟩
    unfold getN
    cases hk : Nat.blt k F.N with
    | false => trivial
    | true => exact (key k hk).2
  · have hTT : ∀ q x, denTT (s.over b).T q = some x → Q q := fun q x hx => by
      unfold denTT at hx
      cases hs : (s.over b).T q with
      | none => rw [hs] at hx; cases hx
      | some y => exact hw.T q y hs
    have hMM : ∀ q ps, denM (s.over b).T q = some ps → Q q := fun q ps hx => by
      rw [denM_eq] at hx
      cases hs : (s.over b).T q with
      | none => rw [hs] at hx; cases hx
      | some y => exact hw.T q y hs
    refine rel_weak (Q := Q) (by rw [hT]; exact tok_refl hTT) (fun q _ => by rw [hT]) (fun q ps h => by rw [hT] at h; exact .inl (hMM q ps h)) hw.ext (fun k hk => by rw [hT]; exact (key k hk).1) (fun i us hi => ?_) hr
    rw [hL] at hi
    exact ⟨us, hi, w1L_refl (hw.L i us hi).2, rfl⟩
variable {b s : XS S.A} {Φ : XE S.A → XS S.A → Prop} {lo : Nat}
/-- What a region wrote is forgotten. -/
theorem frg_get {s : XS S.A} {ds : List Nat} {e0 : Nat → Option (AV S.A)} (he : ∀ j, j ∉ ds → s.env j = e0 j) (k : Nat) : ((s.frg ds e0).over b).get k = bif memN k ds then .any else (s.over b).get k := by
  rw [over_get, over_get]
  show (match (bif memN k ds then some .any else e0 k : Option (AV S.A)) with | some p => p | none => b.get k) = _
  cases hm : memN k ds with
  | true => rfl
  | false => rw [cond_false, ← he k (fun hi => by rw [memN_mem.2 hi] at hm; cases hm)]; rfl
theorem frg_wf {Q : Nat → Prop} {s : XS S.A} {ds : List Nat} {e0 : Nat → Option (AV S.A)} (he : ∀ j, j ∉ ds → s.env j = e0 j) (hw : WF Q F (s.over b)) : WF Q F ((s.frg ds e0).over b) := by
  refine ⟨fun k => ?_, hw.L, hw.T, hw.ext⟩
  have h := hw.env k
  unfold getN at h ⊢
  rw [frg_get he]
  cases hk : Nat.blt k F.N with
  | false => trivial
  | true =>
    rw [hk] at h
    cases hm : memN k ds with
    | true => trivial
    | false => exact h
theorem frg_rel {s : XS S.A} {ds : List Nat} {e0 : Nat → Option (AV S.A)} {g : Gh} {a : Act} {w : World} (he : ∀ j, j ∉ ds → s.env j = e0 j) (hr : Rel B (den F (s.over b)) g a w) : Rel B (den F ((s.frg ds e0).over b)) g a w := by
  refine ⟨hr.size, fun k => ?_, hr.defers, hr.imm, hr.box, hr.apart, hr.tip, hr.tips, hr.boxtip, hr.below, hr.immle, hr.immnew, hr.pin, hr.prv⟩
  have h := hr.env k
  have h : Rep (denTT (s.over b).T) g (cond (Nat.blt k F.N) (denV ((s.over b).get k)) (denV (F.ext k))) (a.tmps.getD k (B.ext k)) := h
  show Rep (denTT (s.over b).T) g (cond (Nat.blt k F.N) (denV (((s.frg ds e0).over b).get k)) (denV (F.ext k))) (a.tmps.getD k (B.ext k))
  rw [frg_get he]
  cases hk : Nat.blt k F.N with
  | false => rw [hk] at h; exact h
  | true =>
    rw [hk] at h
    cases hm : memN k ds with
    | true => trivial
    | false => exact h
theorem dsts_mem {ops : List Oper} {o : Oper} {x : Nat} (h : o ∈ ops) (hx : o.dst = some x) : x ∈ dstsOf ops := List.mem_filterMap.2 ⟨o, h, hx⟩
theorem fin_normal {s' : XS S.A} {g : Gh} {a : Act} {w : World} (hb : ∀ k, noG (getN F.N b k)) (h : ∃ M D kn, Mg F.N b D kn M s' ∧ Φ .normal (clearG M)) (hc : lo ≤ s'.c) (hw : WF (Bd K0 l0 s'.c) F (s'.over b)) (hr : Rel B (den F (s'.over b)) g a w) : lift B (LΦ K0 l0 F b lo Φ) .normal a w := by
  obtain ⟨M, D, kn, hm, hΦ⟩ := h
  obtain ⟨h1, h2⟩ := clear_weak hb hm hw hr
  have hcc : (clearG M).c = s'.c := hm.c
  exact ⟨_, _, h2, ⟨clearG M, by omega, by rw [hcc]; exact h1, rfl, hΦ⟩, trivial⟩
theorem fin_panic {ds : List Nat} {e0 : Nat → Option (AV S.A)} {s' : XS S.A} {p : AV S.A} {g : Gh} {a : Act} {w : World} {v : Value} (h : Φ (.panic p) (s'.frg ds e0)) (he : ∀ j, j ∉ ds → s'.env j = e0 j) (hc : lo ≤ s'.c) (hw : WF (Bd K0 l0 s'.c) F (s'.over b)) (hp : inV (Bd K0 l0 s'.c) p) (hr : Rel B (den F (s'.over b)) g a w) (hv : Rep (denTT (s'.over b).T) g (denV p) v) : lift B (LΦ K0 l0 F b lo Φ) (.panic [{ v, recovered := false }]) a w :=
  ⟨_, g, Rel.pay (frg_rel he hr) (denV p), ⟨s'.frg ds e0, hc, frg_wf he hw, p, rfl, hp, h⟩, v, rfl, hv⟩
theorem seq_sound {ds : List Nat} {e0 : Nat → Option (AV S.A)} (hK0 : ∀ n, K0 n → n < l0) (hC : Ok C call) (hpin : POk S B) {ops : Array Oper} {kS : XS S.A → Prop} (hkS : ∀ s' g a w, kS s' → lo ≤ s'.c → WF (Bd K0 l0 s'.c) F (s'.over b) → Rel B (den F (s'.over b)) g a w → lift B (LΦ K0 l0 F b lo Φ) .normal a w) (hl0 : l0 ≤ lo) :
    ∀ (l : List Oper) (i : Nat) (s : XS S.A), (∀ o ∈ l, ∀ x, o.dst = some x → x ∈ ds) → (∀ j, j ∉ ds → s.env j = e0 j) → runS C F.N (call b) b ops.toList (fun _ s => s.c) (fun s => { s with c := s.c + 1 }) (fun p s => Φ (.panic p) (s.frg ds e0)) (numd i l) s kS → lo ≤ s.c → WF (Bd K0 l0 s.c) F (s.over b) → AL C.P B ops (LΦ K0 l0 F b lo Φ) l (den F (s.over b))
  | [], i, s, _, _, h, hc, hw => fun g a w hr => hkS s g a w h hc hw hr
  | o :: l, i, s, hds, he, h, hc, hw => by
    intro g a w hr
    refine wpList_step fun K hK => ?_
    refine step_sound (hC.ok b) hC.K hpin (Q := Bd K0 l0 s.c) (id := s.c) (fun n hn => hn.lt hK0 (Nat.le_trans hl0 hc)) (fun hn => Nat.lt_irrefl _ (hn.lt hK0 (Nat.le_trans hl0 hc))) hw (step_env (hC.cm b) hC.km (hds o (by simp)) he h) hr K _ ?_ ?_
    · rintro a' w' ⟨s', g', ⟨h1, h1e⟩, h2, h3, h4⟩
      refine hK _ _ (seq_sound hK0 hC hpin hkS hl0 l (i + 1) { s' with c := s'.c + 1 } (fun o ho => hds o (by simp [ho])) h1e h1 (by show lo ≤ s'.c + 1; omega) ?_ g' a' w' h4)
      refine WF.setc (h3.mono fun n hn => ?_) _
      show Bd K0 l0 (s'.c + 1) n
      rcases hn with (hn | hn) | hn
      · exact hn.up (by omega)
      · exact .inr ⟨by omega, by omega⟩
      · exact .inr ⟨by omega, by omega⟩
    · rintro e a' w' ⟨ch, rfl, p, s', g', v, ⟨h1, h1e⟩, h2, h3, h4, h5, rfl, h6⟩
      have hle : ∀ n, Bd K0 l0 s.c n ∨ s.c ≤ n ∧ n < s'.c → Bd K0 l0 s'.c n := by
        rintro n (hn | hn)
        · exact hn.up h2
        · exact .inr ⟨by omega, hn.2⟩
      exact fin_panic h1 h1e (by omega) (h3.mono hle) (inV_mono hle h4) h5 h6
theorem noG_in {Q : Nat → Prop} {p : AV S.A} (h : inV Q p) : noG p := by cases p <;> first | trivial | exact h
theorem mg0 {s : XS S.A} (h : ∀ k, noG (getN F.N (s.over b) k)) : Mg F.N b [] (fun _ => none) s s :=
  ⟨rfl, rfl, rfl, fun k => slot_eq (h k), fun k g w p e => by have := h k; rw [e] at this; exact this.elim, fun g v e => by cases e⟩
theorem reg_sound (hK0 : ∀ n, K0 n → n < l0) (hC : Ok C call) (hpin : POk S B) {an : List (Nat × Ann)} {rid : Nat} {ops : Array Oper} {draw : Bool} (hb : ∀ k, noG (getN F.N b k)) (hl0 : l0 ≤ s.c) (hw : WF (Bd K0 l0 s.c) F (s.over b)) (h : Xc C an F.N call (.region rid ops draw) b s Φ) : AW C.P B (.region rid ops draw) (LΦ K0 l0 F b s.c Φ) (den F (s.over b)) := by
  have hng : ∀ k, noG (getN F.N (s.over b) k) := fun k => noG_in (hw.env k)
  have hΦ : ∀ p (M' s' : XS S.A), M'.L = s'.L → M'.T = s'.T → M'.c = s'.c → Φ (.panic p) (M'.frg (dstsOf ops.toList) s.env) → Φ (.panic p) (s'.frg (dstsOf ops.toList) s.env) := by
    rintro p ⟨e1, L1, T1, c1⟩ ⟨e2, L2, T2, c2⟩ h1 h2 h3 h
    simp only at h1 h2 h3
    subst h1 h2 h3
    exact h
  cases draw with
  | false =>
    simp only [Xc] at h
    cases hok : regOk ops.toList [] (numd 0 ops.toList) with
    | false => rw [hok] at h; exact h.elim
    | true =>
      rw [hok] at h
      simp only [Bool.not_true, cond_false] at h
      refine aw_region (P := (C.rg an rid false).P) ?_
      refine seq_sound (C := C.rg an rid false) hK0 (hC.rg an rid false) hpin (kS := fun s' => ∃ M D kn, Mg F.N b D kn M s' ∧ Φ .normal (clearG M)) (fun s' g a w h hc hw hr => fin_normal hb h hc hw hr) hl0 ops.toList 0 s (fun o ho x hx => dsts_mem ho hx) (fun j _ => rfl) ?_ (Nat.le_refl _) hw
      exact run_mg (C := C.rg an rid false) (hC.cm b) hC.km hΦ (fun i M s e => e) (fun D kn M s h => h.mem2 (M' := { M with c := M.c + 1 }) (s' := { s with c := s.c + 1 }) rfl rfl h.L h.T (by show M.c + 1 = s.c + 1; rw [h.c])) (fun D kn M s h hk => ⟨M, D, kn, h, hk⟩) _ [] (fun _ => none) s s hok (mg0 hng) h
  | true =>
    simp only [Xc] at h
    rcases Bool.eq_false_or_eq_true (lookW an rid) with hW | hW
    · rw [hW] at h
      simp only [cond_true] at h
      rcases Bool.eq_false_or_eq_true ((numd 0 ops.toList).all (fun x => (depsN x.2).all fun j => Nat.blt j x.1)) with hbk | hbk
      · rw [hbk] at h
        exact drawA_sound (C := C.rg an rid false) (s := { s with c := s.c + ops.toList.length }) (c0 := s.c) (hC.cm b) hC.km rfl hC.mx (hC.ok b) hC.K hpin hK0 hl0 (by show s.c + ops.toList.length = s.c + ops.size; simp) ⟨hw.env, hw.L, hw.T, hw.ext⟩ hbk (ds := dstsOf ops.toList) (e0 := s.env) (fun i o ho x hx => dsts_mem (by have := List.mem_of_getElem? (l := ops.toList) (i := i) (a := o) (by simpa using ho); exact this) hx) (fun j _ => rfl) h
          (fun s' g a w h hc hw hr => ⟨_, g, hr, ⟨s', hc, hw, rfl, h⟩, trivial⟩) (fun p s' g a w v h he hc hw hp hr hv => fin_panic h he hc hw hp hr hv)
      · rw [hbk] at h; exact h.elim
    rw [hW] at h
    simp only [cond_false] at h
    split at h
    · rename_i E t hE
      rcases Bool.eq_false_or_eq_true ((numd 0 ops.toList).all (fun x => (depsN x.2).all fun j => Nat.blt j x.1) && (eagOk (C.rg an rid true) ops.toList E && schOk E false t (numd 0 ops.toList))) with hbk | hbk
      · rw [hbk] at h
        rw [Bool.and_eq_true, Bool.and_eq_true] at hbk
        exact drawH_sound (C := C.rg an rid true) (s := { s with c := s.c + ops.toList.length }) (c0 := s.c) (hC.cm b) hC.km hΦ rfl rfl hC.mx (hC.ok b) hC.K hpin hK0 hl0 (by show s.c + ops.toList.length = s.c + ops.size; simp) ⟨hw.env, hw.L, hw.T, hw.ext⟩ hbk.1 (hE := hbk.2.1) (hS := hbk.2.2) (ds := dstsOf ops.toList) (e0 := s.env) (fun i o ho x hx => dsts_mem (by have := List.mem_of_getElem? (l := ops.toList) (i := i) (a := o) (by simpa using ho); exact this) hx) (fun j _ => rfl) h
          (fun s' g a w h hc hw hr => ⟨_, g, hr, ⟨s', hc, hw, rfl, h⟩, trivial⟩) (fun p s' g a w v h he hc hw hp hr hv => fin_panic h he hc hw hp hr hv)
      · rw [hbk] at h; exact h.elim
    generalize hπ : canon ops.toList.length [] (numd 0 ops.toList) = π at h
    cases hok : (drawnOk (C.rg an rid true) ops.toList π && regOk ops.toList [] π) with
    | false => rw [hok] at h; exact h.elim
    | true =>
      rw [hok] at h
      rw [Bool.and_eq_true] at hok
      simp only [cond_true] at h
      have hrun := run_mg (C := C.rg an rid true) (hC.cm b) hC.km hΦ (idf := fun i _ => s.c + i) (nx := fun s => s) (kS := fun s' => ∃ M D kn, Mg F.N b D kn M s' ∧ Φ .normal (clearG M)) (fun i M s e => rfl) (fun D kn M s h => h) (fun D kn M s h hk => ⟨M, D, kn, h, hk⟩) π [] (fun _ => none) { s with c := s.c + ops.toList.length } { s with c := s.c + ops.toList.length } hok.2 (mg0 hng) h
      exact draw_sound (C := C.rg an rid true) (s := { s with c := s.c + ops.toList.length }) (c0 := s.c) (hC.cm b) hC.km hΦ rfl rfl hC.mx (hC.ok b) hC.K hpin hK0 hl0 (by show s.c + ops.toList.length = s.c + ops.size; simp) ⟨hw.env, hw.L, hw.T, hw.ext⟩ hok.1 (fun x hx => canon_mem (hπ ▸ hx)) (ds := dstsOf ops.toList) (e0 := s.env) (fun i o ho x hx => dsts_mem (by have := List.mem_of_getElem? (l := ops.toList) (i := i) (a := o) (by simpa using ho); exact this) hx) (fun j _ => rfl) hrun
        (fun s' g a w h hc hw hr => fin_normal hb h hc hw hr) (fun p s' g a w v h he hc hw hp hr hv => fin_panic h he hc hw hp hr hv)
/-! ### What varies -/
theorem over_over (s' s b : XS S.A) : (s'.over s).over b = s'.over (s.over b) := by
  refine xs_ext (fun k => ?_) (fun k => ?_) (fun k => ?_) rfl
  · show orE (orE (s'.env k) (s.env k)) (b.env k) = orE (s'.env k) (orE (s.env k) (b.env k))
    cases s'.env k <;> rfl
  · show orE (orE (s'.L k) (s.L k)) (b.L k) = orE (s'.L k) (orE (s.L k) (b.L k))
    cases s'.L k <;> rfl
  · show orE (orE (s'.T k) (s.T k)) (b.T k) = orE (s'.T k) (orE (s.T k) (b.T k))
    cases s'.T k <;> rfl
theorem onlyB_spec {α : Type} {N : Nat} {ds : List Nat} {f : Nat → Option α} (h : onlyB N ds f = true) {k : Nat} (hk : k < N) (hd : k ∉ ds) : f k = none := by
  have := List.all_eq_true.1 h k (List.mem_range.2 hk)
  cases hf : f k with
  | none => rfl
  | some x => rw [hf] at this; exact absurd (memN_mem.1 this) hd
theorem box_ent {i : Nat} : ∀ {V : RV}, i ∈ boxV V → ∃ rp rk, (rp, rk) ∈ V ∧ BoxAt rp i
  | (rp, rk) :: V, h => by
    have go : i ∈ boxV V → ∃ rp' rk', (rp', rk') ∈ (rp, rk) :: V ∧ BoxAt rp' i := fun h => by
      obtain ⟨rp, rk, h1, h2⟩ := box_ent (V := V) h; exact ⟨rp, rk, List.mem_cons_of_mem _ h1, h2⟩
    cases rp with
    | sl d => exact go h
    | ce x j =>
      rcases List.mem_cons.1 h with rfl | h
      · exact ⟨_, _, List.mem_cons_self, .inr (.inl ⟨j, rfl⟩)⟩
      · exact go h
    | bx x =>
      rcases List.mem_cons.1 h with rfl | h
      · exact ⟨_, _, List.mem_cons_self, .inl rfl⟩
      · exact go h
    | tl x =>
      rcases List.mem_cons.1 h with rfl | h
      · exact ⟨_, _, List.mem_cons_self, .inr (.inr rfl)⟩
      · exact go h
theorem tip_ent {q : Nat} : ∀ {V : RV}, q ∈ tipV V → ∃ rp rk, (rp, rk) ∈ V ∧ ∃ u, rk = RK.own q u ∨ rk = RK.prv q u
  | (rp, rk) :: r, h => by
    have later : q ∈ tipV r → ∃ rp' rk', (rp', rk') ∈ (rp, rk) :: r ∧ ∃ u, rk' = RK.own q u ∨ rk' = RK.prv q u := fun h => by
      obtain ⟨rp', rk', hm, hu⟩ := tip_ent h
      exact ⟨rp', rk', List.mem_cons_of_mem _ hm, hu⟩
    cases rk with
    | own q' u =>
      rcases List.mem_cons.1 h with rfl | h
      · exact ⟨rp, _, List.mem_cons_self, u, .inl rfl⟩
      · exact later h
    | prv q' u =>
      rcases List.mem_cons.1 h with rfl | h
      · exact ⟨rp, _, List.mem_cons_self, u, .inr rfl⟩
      · exact later h
    | _ => exact later h
/-- A list of its own that a value is. -/
def OQ (Q : Nat → Prop) : AV S.A → Prop
  | .own k _ _ => Q k
  | .prv k _ _ => Q k
  | _ => True
theorem oq_inV {Q : Nat → Prop} {p : AV S.A} (h : inV Q p) : OQ Q p := by cases p <;> first | exact h | trivial
theorem oq_in1 {Q : Nat → Prop} {p : AV S.A} (h : in1 Q p) : OQ Q p := by cases p <;> first | exact h | trivial
theorem all_of {φ : RPl → (rk : RK) → rk.ty S.A → Prop} {rp : RPl} {rk : RK} : ∀ {V : RV} {h : HV S.A V}, AllV φ V h → (rp, rk) ∈ V → ∃ x, φ rp rk x
  | [], _, _, hm => by cases hm
  | [(rp', rk')], x, ha, hm => by obtain e := List.mem_singleton.1 hm; cases e; exact ⟨x, ha⟩
  | (rp', rk') :: y :: r, h, ha, hm => by
    rcases List.mem_cons.1 hm with e | hm
    · cases e; exact ⟨_, ha.1⟩
    · exact all_of (V := y :: r) ha.2 hm
theorem rawAt_spec {N : Nat} {β : XS S.A} {Q : Nat → Prop} (hw : WF Q F β) (hN : N = F.N) {pl : Pl} {rp : RPl} {cs : List (AV S.A)} (h : rawAt N β pl = some (rp, cs)) : rawR β rp = some cs ∧ (∀ d, rp = .sl d → Nat.blt d N = true) ∧ (∀ i, BoxAt rp i → Q i) ∧ ∀ p, cs = [p] → OQ Q p := by
  subst hN
  have one : ∀ {rp : RPl} {x : Nat}, (rp = .bx x ∨ (∃ j, rp = .ce x j) ∨ rp = .tl x) → Q x → ∀ i, BoxAt rp i → Q i := by
    rintro rp x h1 h2 i h3
    rcases h1 with rfl | ⟨j, rfl⟩ | rfl <;> rcases h3 with e | ⟨j', e⟩ | e <;> cases e <;> exact h2
  cases pl with
  | sl d =>
    simp only [rawAt] at h
    cases hd : Nat.blt d F.N with
    | false => rw [hd] at h; cases h
    | true =>
      rw [hd] at h
      cases h
      refine ⟨rfl, fun d' e => (by cases e; exact hd), fun i e => (by rcases e with e | ⟨j, e⟩ | e <;> cases e), fun p e => ?_⟩
      have := hw.get hd
      have e : β.get d = p := (List.cons.inj e).1
      rw [e] at this
      exact oq_inV this
  | ce d i =>
    simp only [rawAt] at h
    split at h <;> first | (cases h; done) | skip
    rename_i x hx
    split at h <;> first | (cases h; done) | skip
    rename_i ps hps
    split at h <;> first | (cases h; done) | skip
    rename_i p hp
    cases h
    have hL := hw.L x ps hps
    refine ⟨by simp only [rawR, hps, hp], fun d' e => (by cases e), one (.inr (.inl ⟨i, rfl⟩)) hL.1, fun p' e => ?_⟩
    have := hL.2 p (List.mem_of_getElem? hp)
    have e : p = p' := (List.cons.inj e).1
    rw [e] at this
    exact oq_in1 this
  | bx d =>
    simp only [rawAt] at h
    split at h <;> first | (cases h; done) | skip
    rename_i x hx
    split at h <;> first | (cases h; done) | skip
    rename_i ps hps
    cases h
    have hL := hw.L x _ hps
    refine ⟨by simp only [rawR, hps], fun d' e => (by cases e), one (.inl rfl) hL.1, fun p e => ?_⟩
    have := hL.2 p (by rw [e]; simp)
    exact oq_in1 this
  | tl d =>
    simp only [rawAt] at h
    split at h <;> first | (cases h; done) | skip
    rename_i x hx
    split at h <;> first | (cases h; done) | skip
    rename_i cs u l pad hps
    cases h
    have hL := hw.L x _ hps
    refine ⟨by simp only [rawR, hps], fun d' e => (by cases e), one (.inr (.inr rfl)) hL.1, fun p e => ?_⟩
    rw [← (List.cons.inj e).1]; trivial
theorem initV_spec {N : Nat} {β : XS S.A} {Q : Nat → Prop} (hw : WF Q F β) (hN : N = F.N) : ∀ {V0 : List (Pl × LK)} {id : Nat} {V : RV}, initV N β id V0 = some V → ∀ rp rk, (rp, rk) ∈ V → (∃ cs, rawR β rp = some cs ∧ (∀ p, cs = [p] → OQ Q p)) ∧ (∀ d, rp = .sl d → Nat.blt d N = true) ∧ (∀ i, BoxAt rp i → Q i) ∧ (∀ q u, (rk = .own q u ∨ rk = .prv q u) → Q q ∨ (id ≤ q ∧ q < id + V.length))
  | [], id, V, h => by cases h; intro rp rk hm; cases hm
  | (pl, lk) :: r, id, V, h => by
    simp only [initV] at h
    split at h <;> first | cases h | skip
    rename_i rp0 cs0 hraw
    split at h <;> first | cases h | skip
    rename_i rk0 V' hk hV'
    obtain ⟨s1, s2, s3, s4⟩ := rawAt_spec hw hN hraw
    intro rp rk hm
    rcases List.mem_cons.1 hm with e | hm
    · cases e
      refine ⟨⟨cs0, s1, s4⟩, s2, s3, fun q u e => ?_⟩
      unfold initK at hk
      split at hk <;> first | (cases hk; done) | skip
      all_goals (cases hk; rcases e with e | e <;> cases e)
      · exact .inr ⟨Nat.le_refl _, by simp only [List.length_cons]; omega⟩
      · exact .inl (s4 _ rfl)
      · exact .inr ⟨Nat.le_refl _, by simp only [List.length_cons]; omega⟩
      · exact .inl (s4 _ rfl)
    · obtain ⟨k1, k2, k3, k4⟩ := initV_spec hw hN hV' rp rk hm
      refine ⟨k1, k2, k3, fun q u e => (k4 q u e).imp (fun h => h) fun h => ?_⟩
      simp only [List.length_cons]
      omega
theorem lay_c : ∀ (V : RV) (h : HV S.A V) (s : XS S.A), (layV s V h).c = s.c
  | [], _, s => rfl
  | [(rp, rk)], x, s => by
    show (layK s rp rk x).c = s.c
    rw [layK_eq]
    have := (tipS_env s rk x).2.2
    cases rp with
    | sl d => exact this
    | bx i => simp only []; split <;> exact this
    | tl i => simp only []; split <;> exact this
    | ce i j => simp only []; split <;> exact this
  | (rp, rk) :: y :: r, h, s => by
    show (layV (layK s rp rk h.1) (y :: r) h.2).c = s.c
    rw [lay_c (y :: r) h.2, layK_eq]
    have := (tipS_env s rk h.1).2.2
    cases rp with
    | sl d => exact this
    | bx i => simp only []; split <;> exact this
    | tl i => simp only []; split <;> exact this
    | ce i j => simp only []; split <;> exact this
theorem withP_iff {p : Option Prop} {q : Prop} (h : withP p q) : (∀ r, p = some r → r) ∧ q := by
  cases p with
  | none => exact ⟨fun r e => (by cases e), h⟩
  | some p => exact ⟨fun r e => (by cases e; exact h.1), h.2⟩
section heads
variable {β : XS S.A} {c0 : Nat} {V0 : List (Pl × LK)} {V : RV} {cl : List Nat}
theorem owns_sub {e : RPl × RK} : ∀ {V : RV}, e ∈ ownsV V → e ∈ V
  | (rp, rk) :: V, h => by
    cases rk with
    | own q t =>
      rcases List.mem_cons.1 h with rfl | h
      · exact List.mem_cons_self
      · exact List.mem_cons_of_mem _ (owns_sub h)
    | prv q t =>
      rcases List.mem_cons.1 h with rfl | h
      · exact List.mem_cons_self
      · exact List.mem_cons_of_mem _ (owns_sub h)
    | _ => exact List.mem_cons_of_mem _ (owns_sub (V := V) h)
/-- Into a head. -/
theorem head_init {V' : RV} {c : Nat} (hsub : ∀ e, e ∈ V' → e ∈ V) (hK0 : ∀ n, K0 n → n < l0) (hl0 : l0 ≤ c0) (hw : WF (Bd K0 l0 c0) F β) (hV : initV F.N β c0 V0 = some V) {p0 : Option Prop} {x0 : HV S.A V'} (hx : backV (some c0) β V' = some (p0, x0)) (hp : ∀ r, p0 = some r → r) {g : Gh} {a : Act} {w : World} (hr : Rel B (den F β) g a w) :
    ∃ g', Rel B (den F ((headV β V' cl c x0).over β)) g' a w := by
  have hall := back_all V' p0 x0 hx hp
  have spec := initV_spec hw rfl hV
  refine ⟨_, head_weak (ini := some c0) (Q := Bd K0 l0 c0) (fr := fun n => Nat.ble c0 n) hw (fun n h => h) (fun n h hn => by have := Nat.le_of_ble_eq_true h; have := hn.lt hK0 hl0; omega) hall (fun c' e rp rk q _ _ _ hc => by cases e; exact Nat.ble_eq_true_of_le hc) ?_ ?_ (fun k _ _ => rfl) ?_ (fun i _ _ => rfl) (fun q _ _ => rfl) hr⟩
  · intro rp q u u' l hm hraw
    obtain ⟨⟨cs, h1, h2⟩, _⟩ := spec rp _ (hsub _ hm)
    rw [hraw] at h1
    exact h2 _ (Option.some.inj h1).symm
  · intro rp q u u' l hm hraw
    obtain ⟨⟨cs, h1, h2⟩, _⟩ := spec rp _ (hsub _ hm)
    rw [hraw] at h1
    exact h2 _ (Option.some.inj h1).symm
  · intro i hi
    obtain ⟨rp, rk, hm, hrp⟩ := box_ent hi
    obtain ⟨⟨cs, h1, _⟩, _⟩ := spec rp rk (hsub _ hm)
    rcases hrp with rfl | ⟨j, rfl⟩ | rfl
    · simp only [rawR] at h1
      split at h1 <;> first | (cases h1; done) | skip
      rename_i ps hps
      exact ⟨ps, ps, hps, hps, rfl, .inr rfl⟩
    · simp only [rawR] at h1
      split at h1 <;> first | (cases h1; done) | skip
      rename_i ps hps
      exact ⟨ps, ps, hps, hps, rfl, .inr rfl⟩
    · simp only [rawR] at h1
      split at h1 <;> first | (cases h1; done) | skip
      rename_i ps _ _ _ hps
      exact ⟨_, _, hps, hps, rfl, .inr rfl⟩
/-- Back to a head. -/
theorem head_back (hK0 : ∀ n, K0 n → n < l0) (hl0 : l0 ≤ c0) (hw : WF (Bd K0 l0 c0) F β) (hV : initV F.N β c0 V0 = some V) {s' : XS S.A} (ho : (onlyV F.N (c0 + V.length) cl V β s' && nilOk (s'.over β) V) = true) {p : Option Prop} {h : HV S.A V} (hx : backV (some c0) (s'.over β) V = some (p, h)) (hp : ∀ r, p = some r → r) {g : Gh} {a : Act} {w : World} (hr : Rel B (den F (s'.over β)) g a w) :
    ∃ g', Rel B (den F ((headV β V cl (c0 + V.length) h).over β)) g' a w := by
  have hall := back_all V p h hx hp
  have spec := initV_spec hw rfl hV
  simp only [onlyV, Bool.and_eq_true] at ho
  obtain ⟨⟨o1, o2, o3, o4⟩, o5⟩ := ho
  rw [List.all_eq_true] at o4
  have nn : ∀ {rp : RPl} {rk : RK} {q : Nat}, (rp, rk) ∈ V → tipK rk = some q → isNilR (rawR (s'.over β) rp) = false → nilV (s'.over β) V q = false := fun {rp rk q} hm ht hn => by
    have := List.all_eq_true.1 o5 _ hm
    simp only [ht, hn, Bool.false_or, Bool.not_eq_true'] at this
    exact this
  refine ⟨_, head_weak (ini := some c0) (Q := fun n => Bd K0 l0 (c0 + V.length) n ∧ (Nat.ble c0 n && nilV (s'.over β) V n) = false) (fr := fun n => Nat.ble c0 n && nilV (s'.over β) V n) hw (fun n h => ⟨h.up (Nat.le_add_right _ _), by
      have := h.lt hK0 hl0
      have : Nat.ble c0 n = false := by
        cases hq : Nat.ble c0 n with
        | false => rfl
        | true => have := Nat.le_of_ble_eq_true hq; omega
      rw [this]; rfl⟩) (fun n h hn => by rw [hn.2] at h; cases h) hall (fun c' e rp rk q hm ht hn hc => by
      cases e
      rw [Bool.and_eq_true]
      refine ⟨Nat.ble_eq_true_of_le hc, List.any_eq_true.2 ⟨_, hm, ?_⟩⟩
      simp only [ht, hn]
      rw [Bool.and_eq_true]
      exact ⟨Nat.beq_refl q, rfl⟩) ?_ ?_ ?_ ?_ ?_ ?_ hr⟩
  · intro rp q u u' l hm hraw
    refine ⟨?_, by rw [nn hm rfl (by rw [hraw]; rfl), Bool.and_false]⟩
    rcases (spec rp _ hm).2.2.2 q u (.inl rfl) with h | h
    · exact h.up (Nat.le_add_right _ _)
    · exact .inr ⟨by omega, h.2⟩
  · intro rp q u u' l hm hraw
    refine ⟨?_, by rw [nn hm rfl (by rw [hraw]; rfl), Bool.and_false]⟩
    rcases (spec rp _ hm).2.2.2 q u (.inr rfl) with h | h
    · exact h.up (Nat.le_add_right _ _)
    · exact .inr ⟨by omega, h.2⟩
  · intro k hk hd
    rw [over_get, onlyB_spec o1 (blt hk) hd]
  · intro i hi
    have := o4 i hi
    split at this
    · rename_i x y h1 h2
      rw [Bool.and_eq_true] at this
      refine ⟨x, y, h1, h2, Nat.eq_of_beq_eq_true this.1, ?_⟩
      have h3 := this.2
      split at h3
      · rename_i e1 e2; exact .inr (by rw [e1, e2])
      · exact .inl (memN_mem.1 h3)
      · cases h3
    · cases this
  · intro i hi hd
    show orE (s'.L i) (β.L i) = _
    rw [onlyB_spec o2 (Nat.lt_of_lt_of_le (hi.lt hK0 hl0) (Nat.le_add_right _ _)) hd]; rfl
  · intro q hq hd
    show orE (s'.T q) (β.T q) = _
    rw [onlyB_spec o3 (hq.1.lt hK0 (by omega)) hd]; rfl
theorem head_ok {V' : RV} (hsub : ∀ e, e ∈ V' → e ∈ V) (hK0 : ∀ n, K0 n → n < l0) (hl0 : l0 ≤ c0) (hw : WF (Bd K0 l0 c0) F β) (hV : initV F.N β c0 V0 = some V) (h : HV S.A V') : WF (Bd K0 l0 (headV β V' cl (c0 + V.length) h).c) F ((headV β V' cl (c0 + V.length) h).over β) := by
  have spec := initV_spec hw rfl hV
  have hc : (headV β V' cl (c0 + V.length) h).c = c0 + V.length := lay_c _ _ _
  rw [hc]
  refine head_wf hw (fun n h => h.up (Nat.le_add_right _ _)) (fun q hq => ?_) (fun i hi => ?_)
  · obtain ⟨rp, rk, hm, u, hu⟩ := tip_ent hq
    rcases (spec rp _ (hsub _ hm)).2.2.2 q u hu with h | h
    · exact h.up (Nat.le_add_right _ _)
    · exact .inr ⟨by omega, h.2⟩
  · obtain ⟨rp, rk, hm, hrp⟩ := box_ent hi
    exact ((spec rp rk (hsub _ hm)).2.2.1 i hrp).up (Nat.le_add_right _ _)
end heads
theorem LΦ_lo {lo lo' : Nat} (h : lo ≤ lo') {e : Exit} {σ : St} (hl : LΦ K0 l0 F b lo' Φ e σ) : LΦ K0 l0 F b lo Φ e σ := by
  obtain ⟨s', h1, h2, h3⟩ := hl
  exact ⟨s', Nat.le_trans h h1, h2, h3⟩
theorem aw_weaken {P : Program} {c : Code} {Ψ : Exit → St → Prop} {σ σ' : St} (h : ∀ g a w, Rel B σ g a w → ∃ g', Rel B σ' g' a w) (h' : AW P B c Ψ σ') : AW P B c Ψ σ := by
  intro g a w hr
  obtain ⟨g', hr'⟩ := h g a w hr
  exact h' g' a w hr'
/-- Ends that are seen from further out. -/
theorem LΦ_out {Φi : XE S.A → XS S.A → Prop} {lo lo' : Nat} (hlo : lo ≤ lo') {e : Exit} {σ : St} (hΦ : ∀ e s', e ≠ .normal → Φi e s' → Φ e (s'.over s)) (he : e ≠ .normal) (h : LΦ K0 l0 F (s.over b) lo' Φi e σ) : LΦ K0 l0 F b lo Φ e σ := by
  obtain ⟨s', h1, h2, h3⟩ := h
  refine ⟨s'.over s, Nat.le_trans hlo h1, by rw [over_over]; exact h2, ?_⟩
  cases e with
  | normal => exact absurd rfl he
  | exit id => exact ⟨by rw [over_over]; exact h3.1, hΦ _ _ (fun e => by cases e) h3.2⟩
  | ret => exact ⟨by rw [over_over]; exact h3.1, hΦ _ _ (fun e => by cases e) h3.2⟩
  | panic ch => obtain ⟨p, k1, k2, k3⟩ := h3; exact ⟨p, by rw [over_over]; exact k1, k2, hΦ _ _ (fun e => by cases e) k3⟩
  | goto l => exact h3
  | outgrown => exact h3
theorem repL_set {T T' : Nat → Option (Nat × Nat)} {g g' : Gh} (hm : ∀ q v, Rep1 T g q v → Rep1 T' g' q v) : ∀ {ps : List PV} {vs : List Value} {j : Nat} {p p' : PV}, RepL T g ps vs → ps[j]? = some p → (∀ v, Rep1 T g p v → Rep1 T' g' p' v) → RepL T' g' (ps.set j p') vs
  | [], vs, j, p, p', _, h, _ => by cases h
  | q :: ps, vs, 0, p, p', ⟨v, vs', e, h1, h2, h3⟩, h, hp => by cases h; exact ⟨v, vs', e, hp v h1, h2, RepL.carry hm h3⟩
  | q :: ps, vs, j + 1, p, p', ⟨v, vs', e, h1, h2, h3⟩, h, hp => ⟨v, vs', e, hm q v h1, h2, repL_set hm h3 (by simpa using h) hp⟩
/-- A list that will not be written again. -/
theorem frz1_sound {Q : Nat → Prop} {s : XS S.A} {p : AV S.A} {k : XS S.A → AV S.A → Prop} (hw : WF Q F (s.over b)) (h : frz1 b s p k) : ∃ s1 p', k s1 p' ∧ s1.c = s.c ∧ s1.env = s.env ∧ s1.L = s.L ∧ (inV Q p → inV Q p') ∧ (in1 Q p → in1 Q p') ∧ WF Q F (s1.over b) ∧ denV p' = den1 p' ∧
    ∀ g a w, Rel B (den F (s.over b)) g a w → ∃ g', Rel B (den F (s1.over b)) g' a w ∧ g'.β = g.β ∧ (∀ q v, Rep1 (den F (s.over b)).T g q v → Rep1 (den F (s1.over b)).T g' q v) ∧ ∀ v, Rep1 (den F (s.over b)).T g (den1 p) v → Rep1 (den F (s1.over b)).T g' (den1 p') v := by
  unfold frz1 at h
  split at h
  · rename_i q t n
    split at h <;> first | exact h.elim | skip
    rename_i sz m u l pad hT
    split at h <;> first | exact h.elim | skip
    rename_i hu
    obtain rfl := Nat.eq_of_beq_eq_true hu
    cases hs : Nat.beq sz (szOf S u) with
    | false => rw [hs] at h; exact h.elim
    | true =>
      rw [hs] at h
      obtain rfl := Nat.eq_of_beq_eq_true hs
      obtain ⟨⟨h1, h2⟩, h3⟩ := h
      subst h1 h2
      have hT2 := den_T (F := F) hT
      have hM := den_M (F := F) hT
      have hTf : (den F ((s.setT q (szOf S u) l.length).over b)).T = (den F (s.over b)).T := by
        rw [over_setT, den_setT]
        funext j
        show cond (Nat.beq j q) _ ((den F (s.over b)).T j) = _
        cases hq : Nat.beq j q with
        | false => rfl
        | true => rw [Nat.eq_of_beq_eq_true hq, hT2]; rfl
      refine ⟨_, _, h3, rfl, rfl, rfl, fun h => h, fun h => h, by rw [over_setT]; exact hw.setT (hw.T _ _ hT), rfl, fun g a w hr => ?_⟩
      have hT3 := hT2
      rw [szOf_eq] at hT3
      obtain ⟨g', k1, kβ, k2, k3⟩ := hr.prvFreeze (E := S.E u) (l := l) hT3 hM
      refine ⟨g', ?_, kβ, ?_, ?_⟩
      · have e0 : den F ((s.setT q (szOf S u) l.length).over b) = (den F (s.over b)).setM q none := by
          have := hTf
          rw [over_setT, den_setT] at this ⊢
          refine St.ext' rfl (fun _ => rfl) (fun _ => rfl) this rfl
        rw [e0]; exact k1
      · intro q v hv; rw [hTf]; exact k2 q v hv
      · intro v hv; rw [hTf]; exact k3 v hv
  · exact ⟨_, _, h, rfl, rfl, rfl, fun h => h, fun h => h, hw, rfl, fun g a w hr => ⟨g, hr, rfl, fun _ _ h => h, fun _ h => h⟩⟩
  · exact h.elim
theorem frzP_sound {Q : Nat → Prop} {s : XS S.A} {pl : Pl} {k : XS S.A → Prop} (hw : WF Q F (s.over b)) (h : frzP F.N b s pl k) : ∃ s1, k s1 ∧ s1.c = s.c ∧ WF Q F (s1.over b) ∧ ∀ g a w, Rel B (den F (s.over b)) g a w → ∃ g', Rel B (den F (s1.over b)) g' a w := by
  cases pl with
  | sl d =>
    simp only [frzP] at h
    cases hd : Nat.blt d F.N with
    | false => rw [hd] at h; exact h.elim
    | true =>
      rw [hd] at h
      obtain ⟨s1, p', h1, h2, h3, h4, h5, h5', h6, h7, h8⟩ := frz1_sound (B := B) hw h
      refine ⟨_, h1, h2, by rw [over_put]; exact h6.put (h5 (hw.get hd)), fun g a w hr => ?_⟩
      obtain ⟨g', k1, _, k2, k3⟩ := h8 g a w hr
      refine ⟨g', ?_⟩
      rw [over_put, den_put hd]
      refine { k1 with env := fun j => ?_ }
      show Rep _ _ (cond (Nat.beq j d) _ _) _
      cases hq : Nat.beq j d with
      | false => exact k1.env j
      | true =>
        obtain rfl := Nat.eq_of_beq_eq_true hq
        rw [h7]
        have hv := hr.env j
        rw [show (den F (s.over b)).env j = denV ((s.over b).get j) by show cond (Nat.blt j F.N) _ _ = _; rw [hd]; rfl] at hv
        exact rep_of1' (k3 _ (rep_den1 hv))
  | ce d j =>
    simp only [frzP] at h
    split at h <;> first | exact h.elim | skip
    rename_i x hx
    split at h <;> first | exact h.elim | skip
    rename_i bx hbx
    split at h <;> first | exact h.elim | skip
    rename_i p hp
    obtain ⟨s1, p', h1, h2, h3, h4, h5, h5', h6, h7, h8⟩ := frz1_sound (B := B) hw h
    have hL := hw.L x bx hbx
    have hL1 : (s1.over b).L = (s.over b).L := by show (fun k => orE (s1.L k) (b.L k)) = _; rw [h4]; rfl
    refine ⟨_, h1, h2, ?_, fun g a w hr => ?_⟩
    · rw [over_setL]
      refine h6.setL hL.1 fun q hq => ?_
      rcases List.mem_or_eq_of_mem_set hq with hq | rfl
      · exact hL.2 q hq
      · exact h5' (hL.2 p (List.mem_of_getElem? hp))
    · obtain ⟨g', k1, kβ, k2, k3⟩ := h8 g a w hr
      refine ⟨g', ?_⟩
      rw [over_setL, den_setL]
      have hold : ∀ i, (den F (s1.over b)).L i = (den F (s.over b)).L i := fun i => by show ((s1.over b).L i).map _ = ((s.over b).L i).map _; rw [hL1]
      have live : ∀ i ps, ((den F (s1.over b)).setL x (some (denB { bx with cs := bx.cs.set j p' }))).L i = some ps → ∃ qs, (den F (s1.over b)).L i = some qs := by
        intro i ps hi
        have hi : cond (Nat.beq i x) (some _) ((den F (s1.over b)).L i) = some ps := hi
        cases hq : Nat.beq i x with
        | false => rw [hq] at hi; exact ⟨ps, hi⟩
        | true => rw [Nat.eq_of_beq_eq_true hq, hold]; exact ⟨_, by show ((s.over b).L x).map _ = _; rw [hbx]; rfl⟩
      refine { k1 with box := ?_, apart := ?_, boxtip := ?_ }
      · intro i ps hi
        have hi : cond (Nat.beq i x) (some (denB { bx with cs := bx.cs.set j p' })) ((den F (s1.over b)).L i) = some ps := hi
        cases hq : Nat.beq i x with
        | false => rw [hq] at hi; exact k1.box i ps hi
        | true =>
          rw [hq] at hi
          cases hi
          obtain rfl := Nat.eq_of_beq_eq_true hq
          obtain ⟨cs, ty, j1, j2, j3, j4⟩ := hr.box i (denB bx) (by show ((s.over b).L i).map _ = _; rw [hbx]; rfl)
          obtain ⟨cs', ty', i1, _, i3, _⟩ := k1.box i (denB bx) (by rw [hold]; show ((s.over b).L i).map _ = _; rw [hbx]; rfl)
          refine ⟨cs, ty, by rw [kβ]; exact j1, ?_, i3, by rw [kβ]; exact j4⟩
          obtain ⟨tl, e1, e2⟩ := denB_cs bx
          rw [e2]
          rw [e1] at j2
          have hj : j < bx.cs.length := (List.getElem?_eq_some_iff.1 hp).1
          have := repL_set (j := j) (p' := den1 p') k2 j2 (by rw [List.getElem?_append_left (by rw [List.length_map]; exact hj), List.getElem?_map, hp]; rfl) k3
          rw [List.set_append_left _ _ (by rw [List.length_map]; exact hj)] at this
          rw [List.map_set]
          exact this
      · intro i i' ps ps' h1 h2 hne
        obtain ⟨_, h1⟩ := live i ps h1
        obtain ⟨_, h2⟩ := live i' ps' h2
        exact k1.apart i i' _ _ h1 h2 hne
      · intro i ps t y b' c h1 h2 h3
        obtain ⟨_, h1⟩ := live i ps h1
        exact k1.boxtip i _ t y b' c h1 h2 h3
  | bx d => exact h.elim
  | tl d => exact h.elim
theorem frzV_sound {P : Program} {Q : Nat → Prop} {y : Code} {Ψ : Exit → St → Prop} {k : XS S.A → Prop} : ∀ (V : List Pl) (s : XS S.A), frzV F.N b V s k → WF Q F (s.over b) → (∀ s1, k s1 → s1.c = s.c → WF Q F (s1.over b) → AW P B y Ψ (den F (s1.over b))) → AW P B y Ψ (den F (s.over b))
  | [], s, h, hw, hy => hy s h rfl hw
  | pl :: V, s, h, hw, hy => by
    obtain ⟨s1, h1, h2, h3, h4⟩ := frzP_sound (B := B) hw h
    exact aw_weaken h4 (frzV_sound V s1 h1 h3 fun s2 k1 k2 k3 => hy s2 k1 (k2.trans h2) k3)
/-- **Code that the executor runs is sound.** -/
theorem xc_sound (hK0 : ∀ n, K0 n → n < l0) (hC : Ok C call) (hpin : POk S B) {an : List (Nat × Ann)} : ∀ (c : Code) (b s : XS S.A) (Φ : XE S.A → XS S.A → Prop), (∀ k, noG (getN F.N b k)) → l0 ≤ s.c → WF (Bd K0 l0 s.c) F (s.over b) → Xc C an F.N call c b s Φ → AW C.P B c (LΦ K0 l0 F b s.c Φ) (den F (s.over b)) := by
  intro c
  induction c with
  | skip => intro b s Φ hb hl0 hw h; exact aw_skip ⟨s, Nat.le_refl _, hw, rfl, h⟩
  | ret => intro b s Φ hb hl0 hw h; exact aw_ret ⟨s, Nat.le_refl _, hw, rfl, h⟩
  | exit id => intro b s Φ hb hl0 hw h; exact aw_exit ⟨s, Nat.le_refl _, hw, rfl, h⟩
  | region id ops draw => intro b s Φ hb hl0 hw h; exact reg_sound hK0 hC hpin hb hl0 hw h
  | cond x c1 c2 ih1 ih2 =>
    intro b s Φ hb hl0 hw h
    simp only [Xc] at h
    split at h <;> first | exact h.elim | skip
    rename_i v hv
    refine aw_cond (b := v) (by rw [ev_den, hv]; rfl) (fun e => ?_) (fun e => ?_)
    · subst e; exact ih1 b s Φ hb hl0 hw h
    · subst e; exact ih2 b s Φ hb hl0 hw h
  | block id c ih =>
    intro b s Φ hb hl0 hw h
    simp only [Xc] at h
    refine aw_block (aw_mono (ih b s _ hb hl0 hw h) ?_)
    rintro e σ ⟨s', h1, h2, h3⟩
    cases e with
    | exit id' =>
      obtain ⟨rfl, h3⟩ := h3
      simp only [blockΦ]
      cases hq : Nat.beq id' id with
      | true =>
        simp only [hq, cond_true] at h3
        rw [if_pos (Nat.eq_of_beq_eq_true hq)]
        exact ⟨s', h1, h2, rfl, h3⟩
      | false =>
        simp only [hq, cond_false] at h3
        rw [if_neg (fun e => by subst e; rw [Nat.beq_refl] at hq; cases hq)]
        exact ⟨s', h1, h2, rfl, h3⟩
    | normal => exact ⟨s', h1, h2, h3⟩
    | ret => exact ⟨s', h1, h2, h3⟩
    | panic ch => exact ⟨s', h1, h2, h3⟩
    | goto l => exact ⟨s', h1, h2, h3⟩
    | outgrown => exact ⟨s', h1, h2, h3⟩
  | seq x y ihx ihy =>
    intro b s Φ hb hl0 hw h
    simp only [Xc] at h
    split at h
    · rename_i V0 han
      split at h <;> first | exact h.elim | skip
      rename_i V hV
      split at h <;> first | exact h.elim | skip
      rename_i p0 x0 hx0
      obtain ⟨hp0, ⟨h⟩⟩ := withP_iff h
      have hb2 : ∀ k, noG (getN F.N (s.over b) k) := fun k => noG_in (hw.env k)
      refine aw_seq (aw_weaken (fun g a w hr => head_init (cl := []) (c := s.c + V.length) (fun e => owns_sub) hK0 hl0 hw hV hx0 hp0 hr) (aw_mono (ihx (s.over b) _ _ hb2 (by rw [show (headV (s.over b) (ownsV V) [] (s.c + V.length) x0).c = s.c + V.length from lay_c _ _ _]; omega) (head_ok (fun e => owns_sub) hK0 hl0 hw hV x0) h) ?_))
      · intro e σ hl
        have hlo : s.c ≤ (headV (s.over b) (ownsV V) [] (s.c + V.length) x0).c := by rw [show (headV (s.over b) (ownsV V) [] (s.c + V.length) x0).c = s.c + V.length from lay_c _ _ _]; omega
        cases e with
        | normal =>
          obtain ⟨s', h1, h2, rfl, h3⟩ := hl
          simp only at h3
          split at h3 <;> first | exact h3.elim | skip
          rename_i p hh ho hbk
          obtain ⟨hp, h3⟩ := withP_iff h3
          refine aw_weaken (σ' := den F (((headV (s.over b) V (asg x) (s.c + V.length) hh).over s).over b)) (fun g a w hr => by rw [over_over]; exact head_back hK0 hl0 hw hV ho hbk hp hr) ?_
          refine aw_mono (ihy b _ Φ hb (by show l0 ≤ (headV (s.over b) V (asg x) (s.c + V.length) hh).c; rw [show (headV (s.over b) V (asg x) (s.c + V.length) hh).c = s.c + V.length from lay_c _ _ _]; omega) (by rw [over_over]; exact head_ok (fun e h => h) hK0 hl0 hw hV hh) h3) fun e σ hl => LΦ_lo ?_ hl
          show s.c ≤ (headV (s.over b) V (asg x) (s.c + V.length) hh).c
          rw [show (headV (s.over b) V (asg x) (s.c + V.length) hh).c = s.c + V.length from lay_c _ _ _]; omega
        | exit id => exact LΦ_out hlo (fun e s' he h => by cases e <;> first | exact absurd rfl he | exact h) (fun e => by cases e) hl
        | ret => exact LΦ_out hlo (fun e s' he h => by cases e <;> first | exact absurd rfl he | exact h) (fun e => by cases e) hl
        | panic ch => exact LΦ_out hlo (fun e s' he h => by cases e <;> first | exact absurd rfl he | exact h) (fun e => by cases e) hl
        | goto l => exact LΦ_out hlo (fun e s' he h => by cases e <;> first | exact absurd rfl he | exact h) (fun e => by cases e) hl
        | outgrown => exact LΦ_out hlo (fun e s' he h => by cases e <;> first | exact absurd rfl he | exact h) (fun e => by cases e) hl
    · refine aw_seq (aw_mono (ihx b s _ hb hl0 hw h) ?_)
      rintro e σ ⟨s', h1, h2, h3⟩
      cases e with
      | normal =>
        obtain ⟨rfl, h3⟩ := h3
        exact frzV_sound _ s' h3 h2 fun s1 k1 k2 k3 => aw_mono (ihy b s1 Φ hb (by rw [k2]; exact Nat.le_trans hl0 h1) (by rw [k2]; exact k3) k1) fun e σ hl => LΦ_lo (by rw [k2]; exact h1) hl
      | exit id => exact ⟨s', h1, h2, h3⟩
      | ret => exact ⟨s', h1, h2, h3⟩
      | panic ch => exact ⟨s', h1, h2, h3⟩
      | goto l => exact ⟨s', h1, h2, h3⟩
      | outgrown => exact ⟨s', h1, h2, h3⟩
  | loop c ih =>
    intro b s Φ hb hl0 hw h
    simp only [Xc] at h
    split at h <;> first | exact h.elim | skip
    rename_i V0 han
    split at h <;> first | exact h.elim | skip
    rename_i V hV
    split at h <;> first | exact h.elim | skip
    rename_i p0 x0 hx0
    obtain ⟨hp0, ⟨h⟩⟩ := withP_iff h
    have hb2 : ∀ k, noG (getN F.N (s.over b) k) := fun k => noG_in (hw.env k)
    have hJ := h (fun y => ∀ g a w, Rel B (den F ((headV (s.over b) V (asg c) (s.c + V.length) y).over (s.over b))) g a w → LoopIn C.P c (lift B (LΦ K0 l0 F b s.c Φ)) a w) ?_
    · intro g a w hr
      obtain ⟨g', hr'⟩ := head_init (cl := asg c) (c := s.c + V.length) (fun e h => h) hK0 hl0 hw hV hx0 hp0 hr
      exact loopIn_wp (hJ g' a w hr')
    · intro y hy g a w hr
      have hlo : s.c ≤ (headV (s.over b) V (asg c) (s.c + V.length) y).c := by rw [show (headV (s.over b) V (asg c) (s.c + V.length) y).c = s.c + V.length from lay_c _ _ _]; omega
      have := ih (s.over b) _ _ hb2 (Nat.le_trans hl0 hlo) (head_ok (fun e h => h) hK0 hl0 hw hV y) hy g a w hr
      · refine loopIn_step (wp_mono this ?_)
        rintro e a' w' ⟨σ', g', hr', hl, hpay⟩
        cases e with
        | normal =>
          obtain ⟨s', h1, h2, rfl, h3⟩ := hl
          simp only at h3
          split at h3 <;> first | exact h3.elim | skip
          rename_i p hh ho hbk
          obtain ⟨hp, h3⟩ := withP_iff h3
          obtain ⟨g2, hr2⟩ := head_back hK0 hl0 hw hV ho hbk hp hr'
          exact h3 g2 a' w' hr2
        | exit id => exact ⟨σ', g', hr', LΦ_out hlo (fun e s' he h => by cases e <;> first | exact absurd rfl he | exact h) (fun e => by cases e) hl, hpay⟩
        | ret => exact ⟨σ', g', hr', LΦ_out hlo (fun e s' he h => by cases e <;> first | exact absurd rfl he | exact h) (fun e => by cases e) hl, hpay⟩
        | panic ch => exact ⟨σ', g', hr', LΦ_out hlo (fun e s' he h => by cases e <;> first | exact absurd rfl he | exact h) (fun e => by cases e) hl, hpay⟩
        | goto l => exact ⟨σ', g', hr', LΦ_out hlo (fun e s' he h => by cases e <;> first | exact absurd rfl he | exact h) (fun e => by cases e) hl, hpay⟩
        | outgrown => exact ⟨σ', g', hr', LΦ_out hlo (fun e s' he h => by cases e <;> first | exact absurd rfl he | exact h) (fun e => by cases e) hl, hpay⟩
  | _ => intro b s Φ hb hl0 hw h; exact h.elim
end code
end Go.Rx
/-! What is asked may be less. -/
namespace Go.Rx
open Go.Ab Go.RowKit
set_option linter.unusedVariables false
set_option linter.unusedSimpArgs false
section
variable {S : Sys} {C : Cfg S}
theorem split_mono {get : Nat → AV S.A} {koff koff' : Kn → Prop} (h2 : ∀ kn, koff kn → koff' kn) : ∀ {ch : List (Nat × Bool)} {kon kon' : Kn → Prop} {kn : Kn}, (∀ kn, kon kn → kon' kn) → splitG get kon koff ch kn → splitG get kon' koff' ch kn
  | [], kon, kon', kn, h1, h => h1 kn h
  | (g, w) :: r, kon, kon', kn, h1, h => by
    refine split_mono h2 (ch := r) (fun kn hk => ?_) h
    revert hk
    generalize gval get g = gv
    intro hk
    cases gv with
    | none => cases w <;> exact hk
    | some v =>
      cases w <;> cases v
      · exact h1 _ hk
      · exact h2 _ hk
      · exact h2 _ hk
      · exact h1 _ hk
section run
variable {N : Nat} {call : CallT S} {b : XS S.A} {ops : List Oper} {idf : Nat → XS S.A → Nat} {nx : XS S.A → XS S.A} {kp kp' : AV S.A → XS S.A → Prop} {k k' : XS S.A → Prop}
theorem run_mono (hcm : ∀ f args m k k' kp kp', (∀ r m, k r m → k' r m) → (∀ r m, kp r m → kp' r m) → call f args m k kp → call f args m k' kp') (hkm : ∀ f W, Ab.look C.K f = some (.tr W) → ∀ args k k', (∀ r, k r → k' r) → W args k → W args k')
    (hk : ∀ s, k s → k' s) (hp : ∀ p s, kp p s → kp' p s) : ∀ (l : List (Nat × Oper)) (s : XS S.A) (kn : Kn), runM C N call b ops idf nx kp l s kn k → runM C N call b ops idf nx kp' l s kn k'
  | [], s, kn, h => hk s h
  | (i, o) :: r, s, kn, h => by
    have ih := run_mono hcm hkm hk hp r
    simp only [runM] at h ⊢
    cases hN : dstB N o.dst with
    | false => rw [hN] at h; exact h.elim
    | true =>
    rw [hN] at h
    simp only [Bool.not_true, cond_false] at h ⊢
    have ex : ∀ {kn : Kn} {rq : Rq S.A}, exec C call b (idf i s) o.dst s (fun s' => runM C N call b ops idf nx kp r (nx s') kn k) kp o.op rq → exec C call b (idf i s) o.dst s (fun s' => runM C N call b ops idf nx kp' r (nx s') kn k') kp' o.op rq :=
      fun h => exec_mono hcm hkm (fun s h => ih _ _ h) hp h
    cases hg : o.guard with
    | none => rw [hg] at h; exact ex h
    | some jw =>
      obtain ⟨j, w⟩ := jw
      rw [hg] at h
      simp only at h ⊢
      cases hj : dstOf ops j with
      | none => rw [hj] at h; exact h.elim
      | some g =>
        cases hd : o.dst with
        | none => rw [hj, hd] at h; exact h.elim
        | some d =>
          rw [hj, hd] at h
          rw [hd] at ex
          simp only at h ⊢
          cases hc : gcond (getN N (s.over b)) kn g w ops.length with
          | on => rw [hc] at h; exact ex h
          | off => rw [hc] at h; exact ih _ _ h
          | bad => rw [hc] at h; exact h.elim
          | cond ch =>
            rw [hc] at h
            simp only at h ⊢
            cases hrq : rqP (ptLoad C.P ops o.op) (rqM C (getN N (s.over b)) kn ch o.op) with
            | v p => rw [hrq] at h; exact ih _ _ h
            | vc c p => rw [hrq] at h; exact ⟨h.1, ih _ _ h.2⟩
            | ld x off n ag =>
              rw [hrq] at h
              simp only at h ⊢
              split at h
              · rename_i ps _ _
                cases hb : (Nat.beq ((ps.cs.drop off).take n).length n && (ag || Nat.beq n 1)) with
                | false => rw [hb] at h; exact h.elim
                | true => rw [hb] at h; exact ih _ _ h
              · exact h
            | bad => rw [hrq] at h; exact split_mono (fun kn h => ih _ _ h) (fun kn h => ex h) h
            | box cs => rw [hrq] at h; exact split_mono (fun kn h => ih _ _ h) (fun kn h => ex h) h
            | st x off n cs => rw [hrq] at h; exact split_mono (fun kn h => ih _ _ h) (fun kn h => ex h) h
            | tip t l => rw [hrq] at h; exact split_mono (fun kn h => ih _ _ h) (fun kn h => ex h) h
            | app q t bytes l ext => rw [hrq] at h; exact split_mono (fun kn h => ih _ _ h) (fun kn h => ex h) h
            | app0 t bytes ext => rw [hrq] at h; exact split_mono (fun kn h => ih _ _ h) (fun kn h => ex h) h
            | call f args => rw [hrq] at h; exact split_mono (fun kn h => ih _ _ h) (fun kn h => ex h) h
            | panic p => rw [hrq] at h; exact split_mono (fun kn h => ih _ _ h) (fun kn h => ex h) h
            | ch c => rw [hrq] at h; exact split_mono (fun kn h => ih _ _ h) (fun kn h => ex h) h
            | eld x off e' i ag => rw [hrq] at h; exact split_mono (fun kn h => ih _ _ h) (fun kn h => ex h) h
            | est x off e' i v => rw [hrq] at h; exact split_mono (fun kn h => ih _ _ h) (fun kn h => ex h) h
            | tld q n e' i ag => rw [hrq] at h; exact split_mono (fun kn h => ih _ _ h) (fun kn h => ex h) h
            | tst q n e' i v => rw [hrq] at h; exact split_mono (fun kn h => ih _ _ h) (fun kn h => ex h) h
            | papp q t bytes n ext => rw [hrq] at h; exact split_mono (fun kn h => ih _ _ h) (fun kn h => ex h) h
end run
theorem frz1_mono {b s : XS S.A} {p : AV S.A} {k k' : XS S.A → AV S.A → Prop} (hk : ∀ s p, k s p → k' s p) (h : frz1 b s p k) : frz1 b s p k' := by
  unfold frz1 at h ⊢
  split at h
  · split at h <;> first | exact h | skip
    split at h <;> first | exact h.elim | skip
    rename_i hu
    rw [dif_pos hu]
    exact bif_imp (fun e => ⟨e.1, hk _ _ e.2⟩) h
  · exact hk _ _ h
  · exact h
theorem frzP_mono {N : Nat} {b s : XS S.A} {pl : Pl} {k k' : XS S.A → Prop} (hk : ∀ s, k s → k' s) (h : frzP N b s pl k) : frzP N b s pl k' := by
  cases pl with
  | sl d => exact bif_imp (fun e => frz1_mono (fun s p h => hk _ h) e) h
  | ce d j =>
    simp only [frzP] at h ⊢
    split at h <;> first | exact h | skip
    split at h <;> first | exact h | skip
    split at h <;> first | exact h | skip
    exact frz1_mono (fun s p h => hk _ h) h
  | bx d => exact h
  | tl d => exact h
theorem frzV_mono {N : Nat} {b : XS S.A} {k k' : XS S.A → Prop} (hk : ∀ s, k s → k' s) : ∀ (V : List Pl) (s : XS S.A), frzV N b V s k → frzV N b V s k'
  | [], s, h => hk s h
  | pl :: V, s, h => frzP_mono (fun s h => frzV_mono hk V s h) h
theorem xc_mono {call : XS S.A → CallT S} (hcm : ∀ b f args m k k' kp kp', (∀ r m, k r m → k' r m) → (∀ r m, kp r m → kp' r m) → call b f args m k kp → call b f args m k' kp') (hkm : ∀ f W, Ab.look C.K f = some (.tr W) → ∀ args k k', (∀ r, k r → k' r) → W args k → W args k')
    {an : List (Nat × Ann)} {N : Nat} : ∀ (c : Code) (b s : XS S.A) (Φ Φ' : XE S.A → XS S.A → Prop), (∀ e s, Φ e s → Φ' e s) → Xc C an N call c b s Φ → Xc C an N call c b s Φ' := by
  intro c
  induction c with
  | skip => intro b s Φ Φ' hΦ h; exact hΦ _ _ h
  | ret => intro b s Φ Φ' hΦ h; exact hΦ _ _ h
  | exit id => intro b s Φ Φ' hΦ h; exact hΦ _ _ h
  | cond x c1 c2 ih1 ih2 =>
    intro b s Φ Φ' hΦ h
    simp only [Xc] at h ⊢
    split at h
    · rename_i v _
      cases v
      · exact ih2 b s Φ Φ' hΦ h
      · exact ih1 b s Φ Φ' hΦ h
    · exact h
  | block id c ih =>
    intro b s Φ Φ' hΦ h
    simp only [Xc] at h ⊢
    refine ih b s _ _ (fun e s' h => ?_) h
    cases e with
    | exit id' =>
      simp only at h ⊢
      cases hq : Nat.beq id' id <;> rw [hq] at h <;> exact hΦ _ _ h
    | _ => exact hΦ _ _ h
  | region id ops draw =>
    intro b s Φ Φ' hΦ h
    cases draw with
    | false =>
      simp only [Xc] at h ⊢
      cases hok : regOk ops.toList [] (numd 0 ops.toList) with
      | false => rw [hok] at h; exact h.elim
      | true =>
        rw [hok] at h
        exact run_mono (C := C.rg an id false) (hcm b) hkm (fun s h => hΦ _ _ h) (fun p s h => hΦ _ _ h) _ _ _ h
    | true =>
      simp only [Xc] at h ⊢
      rcases Bool.eq_false_or_eq_true (lookW an id) with hW | hW
      · rw [hW] at h ⊢
        simp only [cond_true] at h ⊢
        rcases Bool.eq_false_or_eq_true ((numd 0 ops.toList).all (fun x => (depsN x.2).all fun j => Nat.blt j x.1)) with hbk | hbk
        · rw [hbk] at h ⊢
          exact runA_mono (C := C.rg an id false) (hcm b) hkm (fun s h => hΦ _ _ h) (fun p s h => hΦ _ _ h) _ _ _ h
        · rw [hbk] at h; exact h.elim
      rw [hW] at h ⊢
      simp only [cond_false] at h ⊢
      split at h
      · rename_i E t hE
        rcases Bool.eq_false_or_eq_true ((numd 0 ops.toList).all (fun x => (depsN x.2).all fun j => Nat.blt j x.1) && (eagOk (C.rg an id true) ops.toList E && schOk E false t (numd 0 ops.toList))) with hbk | hbk
        · rw [hbk] at h ⊢
          exact runH_mono (C := C.rg an id true) (hcm b) hkm (fun s h => hΦ _ _ h) (fun p s h => hΦ _ _ h) _ _ _ h
        · rw [hbk] at h; exact h.elim
      generalize canon ops.toList.length [] (numd 0 ops.toList) = π at h ⊢
      cases hok : (drawnOk (C.rg an id true) ops.toList π && regOk ops.toList [] π) with
      | false => rw [hok] at h; exact h.elim
      | true =>
        rw [hok] at h
        exact run_mono (C := C.rg an id true) (hcm b) hkm (fun s h => hΦ _ _ h) (fun p s h => hΦ _ _ h) _ _ _ h
  | seq x y ihx ihy =>
    intro b s Φ Φ' hΦ h
    simp only [Xc] at h ⊢
    split at h
    · split at h <;> first | exact h | skip
      split at h <;> first | exact h | skip
      refine withP_mono (fun ⟨h⟩ => ⟨?_⟩) h
      refine ihx _ _ _ _ (fun e s' h => ?_) h
      cases e with
      | normal =>
        simp only at h ⊢
        split at h
        · exact withP_mono (fun h => ihy _ _ _ _ hΦ h) h
        · exact h
      | _ => exact hΦ _ _ h
    · refine ihx _ _ _ _ (fun e s' h => ?_) h
      cases e with
      | normal => exact frzV_mono (fun s h => ihy _ _ _ _ hΦ h) _ _ h
      | _ => exact hΦ _ _ h
  | loop c ih =>
    intro b s Φ Φ' hΦ h
    simp only [Xc] at h ⊢
    split at h <;> first | exact h | skip
    split at h <;> first | exact h | skip
    split at h <;> first | exact h | skip
    refine withP_mono (fun ⟨h⟩ => ⟨fun J hJ => h J fun y hy => hJ y ?_⟩) h
    refine ih _ _ _ _ (fun e s' h => ?_) hy
    cases e with
    | normal => exact h
    | _ => exact hΦ _ _ h
  | _ => intro b s Φ Φ' hΦ h; exact h
theorem xf_mono (hkm : ∀ f W, Ab.look C.K f = some (.tr W) → ∀ args k k', (∀ r, k r → k' r) → W args k → W args k') : ∀ (n : Nat) (b : XS S.A) (f : Nat) (args : List (AV S.A)) (m : XS S.A) (k k' kp kp' : AV S.A → XS S.A → Prop), (∀ r m, k r m → k' r m) → (∀ r m, kp r m → kp' r m) → Xf C n b f args m k kp → Xf C n b f args m k' kp'
  | 0, b, f, args, m, k, k', kp, kp', hk, hp, h => h
  | n + 1, b, f, args, m, k, k', kp, kp', hk, hp, h => by
    simp only [Xf] at h ⊢
    split at h <;> first | exact h | skip
    split at h <;> first | exact h | skip
    split at h <;> first | exact h | skip
    refine xc_mono (fun b f args m k k' kp kp' => xf_mono hkm n b f args m k k' kp kp') hkm _ _ _ _ _ (fun e s' h => ?_) h
    cases e with
    | ret => simp only at h ⊢; split at h <;> first | exact hk _ _ h | exact h
    | normal => simp only at h ⊢; split at h <;> first | exact hk _ _ h | exact h
    | panic p => exact hp _ _ h
    | exit id => exact h
end
end Go.Rx
/-! Functions are sound. -/
namespace Go.Rx
open Go.Ab Go.RowKit
set_option linter.unusedVariables false
set_option linter.unusedSimpArgs false
section
variable {S : Sys} {C : Cfg S} {B : Base} {F : Fr S}
theorem den2_flat {p : AV S.A} (h : flatA p = true) : denV p = den2 p := by cases p <;> first | rfl | cases h
theorem res_run {s : XS S.A} {g : Gh} {a : Act} {w : World} (hr : Rel B (den F s) g a w) {r : ResultVar} {p : AV S.A} (h : resOf C F.N s r = some p) : flatA p = true ∧ ∃ v, (readRes a.tmps r).run C.P w = .ok v w ∧ Rep (denTT s.T) g (denV p) v := by
  cases r with
  | tmp t =>
    simp only [resOf] at h
    cases hf : flatA (getN F.N s t) with
    | false => rw [hf] at h; cases h
    | true =>
      rw [hf] at h
      cases h
      refine ⟨hf, _, rfl, ?_⟩
      have := hr.ev (.tmp t)
      rw [ev_den] at this
      exact this
  | cell x t =>
    simp only [resOf] at h
    split at h
    · rename_i b ag n hx ht
      split at h
      · rename_i ps hL
        cases hb : ((Nat.beq ps.length n && (ag || Nat.beq n 1)) && flatA (ofCells ag ps)) with
        | false => rw [hb] at h; cases h
        | true =>
          rw [hb] at h
          cases h
          simp only [Bool.and_eq_true] at hb
          obtain ⟨⟨hn, h1⟩, hf⟩ := hb
          have hn := Nat.eq_of_beq_eq_true hn
          refine ⟨hf, ?_⟩
          have hv : a.tmps.getD x undef = .pointer (some ⟨g.β b, 0, none⟩) := by
            have := hr.ev (.tmp x)
            rw [ev_den] at this
            have e : evA (getN F.N s) (.tmp x) = .loc b 0 := hx
            rw [e] at this
            exact this
          obtain ⟨cs, ty, hb2, hps, _, _⟩ := hr.box b (ps.map den1) (by show (s.L b).map denB = _; rw [hL]; rfl)
          have hl := repL_length hps
          rw [List.length_map] at hl
          have h1' : ag = false → n = 1 := fun e => by subst e; exact Nat.eq_of_beq_eq_true h1
          have hrun := run_loadVar (P := C.P) (tyOf_ty ht) (b := g.β b) (o := 0) (w := w) (vs := cs.toList) (by omega) h1' (fun j v hj => by
            rw [cell_blk hb2]
            simpa using hj)
          refine ⟨_, by
            simp only [readRes, hv, asAddr]
            rw [run_bind]
            simp only [run_pure]
            rw [hrun], ?_⟩
          rw [den_ofCells hn h1]
          exact ofCells_rep hps (fun e => by rw [hl, hn]; exact h1' e)
      · cases h
    · cases h
theorem repE_of {T : Nat → Option (Nat × Nat)} {g : Gh} {p : AV S.A} {v : Value} (hf : flatA p = true) (h : Rep T g (denV p) v) : RepE T g (den2 p) v := by
  rw [← den2_flat hf]
  exact rep_E (flat_ne hf) h
theorem results_run {s : XS S.A} {g : Gh} {a : Act} {w : World} (hr : Rel B (den F s) g a w) {fn : Func} {ps : List (AV S.A)} (h : resAll C F.N s fn.results.toList = some ps) (h4 : Nat.ble fn.results.toList.length 4 = true) : ∃ v, (results fn a.tmps).run C.P w = .ok v w ∧ Rep (denTT s.T) g (denV (tupA ps)) v := by
  have h4 := Nat.le_of_ble_eq_true h4
  generalize hl : fn.results.toList = l at h h4
  have hl : fn.results = l.toArray := by rw [← hl]
  have cons : ∀ {r : ResultVar} {rs : List ResultVar} {ps : List (AV S.A)}, resAll C F.N s (r :: rs) = some ps → ∃ p qs, ps = p :: qs ∧ resOf C F.N s r = some p ∧ resAll C F.N s rs = some qs := by
    intro r rs ps h
    simp only [resAll] at h
    split at h
    · rename_i p qs h1 h2; cases h; exact ⟨p, qs, rfl, h1, h2⟩
    · cases h
  match l, h, h4, hl with
  | [], h, _, hl =>
    cases h
    exact ⟨.tuple #[], by rw [results_eq, hl]; simp [run_bind, run_pure], [], rfl, rfl⟩
  | [r], h, _, hl =>
    obtain ⟨p, qs, rfl, h1, h2⟩ := cons h
    cases h2
    obtain ⟨hf, v, e, q⟩ := res_run hr h1
    exact ⟨v, by rw [results_eq, hl]; simp [run_bind, run_pure, e], q⟩
  | [r1, r2], h, _, hl =>
    obtain ⟨p1, qs, rfl, h1, h⟩ := cons h
    obtain ⟨p2, qs, rfl, h2, h⟩ := cons h
    cases h
    obtain ⟨f1, v1, e1, q1⟩ := res_run hr h1
    obtain ⟨f2, v2, e2, q2⟩ := res_run hr h2
    exact ⟨.tuple #[v1, v2], by rw [results_eq, hl]; simp [run_bind, run_pure, e1, e2], [v1, v2], rfl, v1, _, rfl, repE_of f1 q1, v2, _, rfl, repE_of f2 q2, rfl⟩
  | [r1, r2, r3], h, _, hl =>
    obtain ⟨p1, qs, rfl, h1, h⟩ := cons h
    obtain ⟨p2, qs, rfl, h2, h⟩ := cons h
    obtain ⟨p3, qs, rfl, h3, h⟩ := cons h
    cases h
    obtain ⟨f1, v1, e1, q1⟩ := res_run hr h1
    obtain ⟨f2, v2, e2, q2⟩ := res_run hr h2
    obtain ⟨f3, v3, e3, q3⟩ := res_run hr h3
    exact ⟨.tuple #[v1, v2, v3], by rw [results_eq, hl]; simp [run_bind, run_pure, e1, e2, e3], [v1, v2, v3], rfl, v1, _, rfl, repE_of f1 q1, v2, _, rfl, repE_of f2 q2, v3, _, rfl, repE_of f3 q3, rfl⟩
  | [r1, r2, r3, r4], h, _, hl =>
    obtain ⟨p1, qs, rfl, h1, h⟩ := cons h
    obtain ⟨p2, qs, rfl, h2, h⟩ := cons h
    obtain ⟨p3, qs, rfl, h3, h⟩ := cons h
    obtain ⟨p4, qs, rfl, h4, h⟩ := cons h
    cases h
    obtain ⟨f1, v1, e1, q1⟩ := res_run hr h1
    obtain ⟨f2, v2, e2, q2⟩ := res_run hr h2
    obtain ⟨f3, v3, e3, q3⟩ := res_run hr h3
    obtain ⟨f4, v4, e4, q4⟩ := res_run hr h4
    exact ⟨.tuple #[v1, v2, v3, v4], by rw [results_eq, hl]; simp [run_bind, run_pure, e1, e2, e3, e4], [v1, v2, v3, v4], rfl, v1, _, rfl, repE_of f1 q1, v2, _, rfl, repE_of f2 q2, v3, _, rfl, repE_of f3 q3, v4, _, rfl, repE_of f4 q4, rfl⟩
  | _ :: _ :: _ :: _ :: _ :: _, _, h4, _ => exfalso; simp only [List.length_cons] at h4; omega
theorem res_in {Q : Nat → Prop} {s : XS S.A} (hw : WF Q F s) {r : ResultVar} {p : AV S.A} (h : resOf C F.N s r = some p) : inV Q p := by
  cases r with
  | tmp t =>
    simp only [resOf] at h
    cases hf : flatA (getN F.N s t) <;> rw [hf] at h <;> cases h
    exact hw.env t
  | cell x t =>
    simp only [resOf] at h
    split at h
    · rename_i b ag n hx ht
      split at h
      · rename_i ps hL
        cases hb : ((Nat.beq ps.length n && (ag || Nat.beq n 1)) && flatA (ofCells ag ps)) <;> rw [hb] at h <;> cases h
        exact inV_ofCells (hw.L b _ hL).2
      · cases h
    · cases h
theorem resAll_in {Q : Nat → Prop} {s : XS S.A} (hw : WF Q F s) : ∀ {l : List ResultVar} {ps : List (AV S.A)}, resAll C F.N s l = some ps → (∀ p ∈ ps, inV Q p ∧ flatA p = true)
  | [], ps, h => by cases h; intro p hp; cases hp
  | r :: rs, ps, h => by
    simp only [resAll] at h
    split at h
    · rename_i p qs h1 h2
      cases h
      intro q hq
      rcases List.mem_cons.1 hq with rfl | hq
      · refine ⟨res_in hw h1, ?_⟩
        cases r with
        | tmp t => simp only [resOf] at h1; cases hf : flatA (getN F.N s t) <;> rw [hf] at h1 <;> cases h1; exact hf
        | cell x t =>
          simp only [resOf] at h1
          split at h1
          · rename_i bb ag n hx ht
            split at h1
            · rename_i ps hL
              cases hb : ((Nat.beq ps.length n && (ag || Nat.beq n 1)) && flatA (ofCells ag ps)) with
              | false => rw [hb] at h1; cases h1
              | true => rw [hb] at h1; cases h1; exact (Bool.and_eq_true _ _ ▸ hb).2
            · cases h1
          · cases h1
      · exact resAll_in hw h2 q hq
    · cases h
theorem tupA_in {Q : Nat → Prop} {ps : List (AV S.A)} (h : ∀ p ∈ ps, inV Q p ∧ flatA p = true) : inV Q (tupA ps) := by
  have key : inV Q (.tup ps) := by
    intro p hp
    have := h p hp
    cases p <;> first | exact this.1 | cases this.2
  match ps, h, key with
  | [], _, key => exact key
  | [p], h, _ => exact (h p (by simp)).1
  | p :: q :: r, _, key => exact key
/-- The frame of a call, with its caller's behind it. -/
def inner (F : Fr S) (N : Nat) (s : XS S.A) : Fr S := { N, ext := fun k => bif Nat.blt k N then .any else (bif Nat.blt (k - N) F.N then s.get (k - N) else F.ext (k - N)) }
def innerB (B : Base) (N : Nat) (a : Act) : Base := { B with ext := fun k => a.tmps.getD (k - N) (B.ext (k - N)), dfr := [] }
theorem getD_ge {xs : Array Value} {k : Nat} {d : Value} (h : xs.size ≤ k) : xs.getD k d = d := by
  rw [Array.getD_eq_getD_getElem?, Array.getElem?_eq_none h]; rfl
theorem xf_sound (hkm : ∀ f W, Ab.look C.K f = some (.tr W) → ∀ args k k', (∀ r, k r → k' r) → W args k → W args k') (hK : ∀ f W, Ab.look C.K f = some W → ConOk C.P f W) (hmx : C.P.follows .mixedOrders = true) : ∀ (n : Nat) (b : XS S.A), CallOk C.P b (Xf C n b)
  | 0, b => fun f args s k kp h => h.elim
  | n + 1, b => by
    intro f args s k kp h hfb hfl B hpin F Q hQ hw ha g a w vs hr hvs
    simp only [Xf] at h
    split at h <;> first | exact h.elim | skip
    rename_i fn hfn
    split at h <;> first | exact h.elim | skip
    rename_i c hbody
    split at h <;> first | exact h.elim | skip
    rename_i hlen
    rw [Bool.and_eq_true] at hlen
    obtain ⟨hla, hl4⟩ := hlen
    have hla := Nat.le_of_ble_eq_true hla
    have hlv : vs.length = args.length := by have := repT_length hvs; simpa using this
    have hC : Ok C (Xf C n) := ⟨fun b f args m k k' kp kp' => xf_mono hkm n b f args m k k' kp kp', hkm, xf_sound hkm hK hmx n, hK, hmx⟩
    generalize hβ : ({ (s.mem.over b) with env := fun i => args[i]? } : XS S.A) = β at h
    have bL : β.L = (s.over b).L := by subst hβ; rfl
    have bT : β.T = (s.over b).T := by subst hβ; rfl
    have bE : β.env = fun i => args[i]? := by subst hβ; rfl
    have eL : ((emp s.mem.c : XS S.A).over β).L = (s.over b).L := by rw [← bL]; rfl
    have eT : ((emp s.mem.c : XS S.A).over β).T = (s.over b).T := by rw [← bT]; rfl
    have eG : ∀ i, ((emp s.mem.c : XS S.A).over β).get i = match args[i]? with | some p => p | none => .any := by
      intro i
      rw [over_get]
      show β.get i = _
      unfold XS.get
      rw [bE]
      cases hp : args[i]? <;> simp only [hp]
    have gB : ∀ i, β.get i = match args[i]? with | some p => p | none => .any := by
      intro i; unfold XS.get; rw [bE]; cases hp : args[i]? <;> simp only [hp]
    refine calls_of_wp hfn hbody ?_
    have hNs : (vs.toArray ++ Array.replicate (fn.ntmps - vs.toArray.size) undef).size = fn.ntmps := by simp; omega
    have hr0 : Rel (innerB B fn.ntmps a) (den (inner F fn.ntmps (s.over b)) ((emp s.mem.c).over β)) g { tmps := vs.toArray ++ Array.replicate (fn.ntmps - vs.toArray.size) undef, defers := [] } w := by
      refine ⟨hNs, fun t => ?_, rfl, hr.imm, ?_, ?_, ?_, ?_, ?_, hr.below, hr.immle, hr.immnew, hr.pin, ?_⟩
      · show Rep (denTT ((emp s.mem.c).over β).T) g (cond (Nat.blt t fn.ntmps) (denV (((emp s.mem.c).over β).get t)) (denV ((inner F fn.ntmps (s.over b)).ext t))) _
        rw [eT]
        cases ht : Nat.blt t fn.ntmps with
        | true =>
          have ht' := blt ht
          have h1 := repT_get hvs t undef
          rw [eG]
          have e1 : (vs.toArray ++ Array.replicate (fn.ntmps - vs.toArray.size) undef).getD t ((innerB B fn.ntmps a).ext t) = vs.getD t undef := by
            rw [Array.getD_eq_getD_getElem?, List.getD_eq_getElem?_getD]
            by_cases ht2 : t < vs.length
            · rw [Array.getElem?_append_left (by simpa using ht2)]; simp [ht2]
            · rw [Array.getElem?_append_right (by simpa using ht2), List.getElem?_eq_none (by omega), Array.getElem?_replicate]
              rw [if_pos (by simp; omega)]; rfl
          show Rep _ g (denV _) ((vs.toArray ++ Array.replicate (fn.ntmps - vs.toArray.size) undef).getD t _)
          rw [e1]
          rw [List.getD_eq_getElem?_getD, List.getElem?_map] at h1
          cases hp : args[t]? with
          | none => trivial
          | some p => rw [hp] at h1; exact h1
        | false =>
          have ht' : fn.ntmps ≤ t := by
            rcases Nat.lt_or_ge t fn.ntmps with h | h
            · have : Nat.blt t fn.ntmps = true := Nat.ble_eq_true_of_le h
              rw [ht] at this; cases this
            · exact h
          show Rep _ g (denV (bif Nat.blt t fn.ntmps then .any else (bif Nat.blt (t - fn.ntmps) F.N then (s.over b).get (t - fn.ntmps) else F.ext (t - fn.ntmps)))) ((vs.toArray ++ Array.replicate (fn.ntmps - vs.toArray.size) undef).getD t _)
          rw [ht, getD_ge (by rw [hNs]; exact ht')]
          have := hr.env (t - fn.ntmps)
          have this : Rep (denTT (s.over b).T) g (cond (Nat.blt (t - fn.ntmps) F.N) (denV ((s.over b).get (t - fn.ntmps))) (denV (F.ext (t - fn.ntmps)))) (a.tmps.getD (t - fn.ntmps) (B.ext (t - fn.ntmps))) := this
          simp only [cond_false]
          show Rep _ g _ (a.tmps.getD (t - fn.ntmps) (B.ext (t - fn.ntmps)))
          cases hk : Nat.blt (t - fn.ntmps) F.N <;> (rw [hk] at this; exact this)
      · intro i ps hi
        exact (show ∃ cs ty, w.heap[g.β i]? = some (.cells cs ty (0, 0)) ∧ RepL (denTT ((emp s.mem.c).over β).T) g ps cs.toList ∧ _ by rw [eT]; exact hr.box i ps (by show ((s.over b).L i).map _ = _; rw [← eL]; exact hi))
      · intro i i' ps ps' h1 h2
        exact hr.apart i i' ps ps' (by show ((s.over b).L i).map _ = _; rw [← eL]; exact h1) (by show ((s.over b).L i').map _ = _; rw [← eL]; exact h2)
      · intro t sz m b' c h1 h2
        exact hr.tip t sz m b' c (by show denTT (s.over b).T t = _; rw [← eT]; exact h1) h2
      · intro t t' x x' b' b'' c c' h1 h2
        exact hr.tips t t' x x' b' b'' c c' (by show denTT (s.over b).T t = _; rw [← eT]; exact h1) (by show denTT (s.over b).T t' = _; rw [← eT]; exact h2)
      · intro i ps t x b' c h1 h2
        exact hr.boxtip i ps t x b' c (by show ((s.over b).L i).map _ = _; rw [← eL]; exact h1) (by show denTT (s.over b).T t = _; rw [← eT]; exact h2)
      · intro t ps hps
        have := hr.prv t ps (by show denM (s.over b).T t = _; rw [← eT]; exact hps)
        exact this.mono (by show denTT ((emp s.mem.c).over β).T t = denTT (s.over b).T t; rw [eT]) rfl (Imm.le_refl _) fun _ _ _ => ⟨fun _ => rfl, rfl⟩
    have argIn : ∀ (i : Nat) (p : AV S.A), args[i]? = some p → inV Q p ∧ noG p := by
      intro i p hp
      have hm := List.mem_of_getElem? hp
      exact ⟨ha p hm, by have := hfl p hm; cases p <;> first | trivial | cases this⟩
    have hw0 : WF (Bd Q s.c (emp s.mem.c : XS S.A).c) (inner F fn.ntmps (s.over b)) ((emp s.mem.c).over β) := by
      refine ⟨fun i => ?_, fun i ps hi => ?_, fun q x hq => ?_, fun i => ?_⟩
      · unfold getN
        cases Nat.blt i (inner F fn.ntmps (s.over b)).N with
        | false => trivial
        | true =>
          simp only [cond_true]
          rw [eG]
          cases hp : args[i]? with
          | none => trivial
          | some p => exact inV_mono (fun _ => .inl) (argIn i p hp).1
      · rw [eL] at hi
        have := hw.L i ps hi
        exact ⟨.inl this.1, fun p hp => in1_mono (fun _ => .inl) (this.2 p hp)⟩
      · rw [eT] at hq; exact .inl (hw.T q x hq)
      · refine inV_mono (fun _ => .inl) ?_
        show inV Q (bif Nat.blt i fn.ntmps then .any else (bif Nat.blt (i - fn.ntmps) F.N then (s.over b).get (i - fn.ntmps) else F.ext (i - fn.ntmps)))
        cases Nat.blt i fn.ntmps with
        | true => trivial
        | false =>
          cases hk : Nat.blt (i - fn.ntmps) F.N with
          | true => exact hw.get hk
          | false => exact hw.ext _
    have hbn : ∀ i, noG (getN (inner F fn.ntmps (s.over b)).N β i) := by
      intro i
      unfold getN
      cases Nat.blt i (inner F fn.ntmps (s.over b)).N with
      | false => trivial
      | true =>
        simp only [cond_true]
        rw [gB]
        cases hp : args[i]? with
        | none => trivial
        | some p => exact (argIn i p hp).2
    have key := xc_sound (F := inner F fn.ntmps (s.over b)) (B := innerB B fn.ntmps a) (K0 := Q) (l0 := s.c) hQ hC ⟨hpin.pin, hpin.gl, hpin.wd⟩ c β (emp s.mem.c) _ hbn (Nat.le_refl _) hw0 h g _ w hr0
    · refine wp_mono key ?_
      rintro e a' w' ⟨σ, g', hr', ⟨s', hc', hws, hmatch⟩, hpay⟩
      -- the state behind the call, as its caller sees it
      have mL : ∀ (m : XS S.A), m.L = (fun i => orE (s'.L i) (s.mem.L i)) → ((s.withM m).over b).L = (s'.over β).L := by
        intro m hm
        funext i
        show orE (m.L i) (b.L i) = orE (s'.L i) (β.L i)
        rw [hm, bL]
        show orE (orE (s'.L i) (s.L i)) (b.L i) = orE (s'.L i) (orE (s.L i) (b.L i))
        cases s'.L i <;> rfl
      have mT : ∀ (m : XS S.A), m.T = (fun i => orE (s'.T i) (s.mem.T i)) → ((s.withM m).over b).T = (s'.over β).T := by
        intro m hm
        funext i
        show orE (m.T i) (b.T i) = orE (s'.T i) (β.T i)
        rw [hm, bT]
        show orE (orE (s'.T i) (s.T i)) (b.T i) = orE (s'.T i) (orE (s.T i) (b.T i))
        cases s'.T i <;> rfl
      have mG : ∀ (m : XS S.A) i, ((s.withM m).over b).get i = (s.over b).get i := fun m i => rfl
      have back : ∀ (m : XS S.A), m.L = (fun i => orE (s'.L i) (s.mem.L i)) → m.T = (fun i => orE (s'.T i) (s.mem.T i)) → Rel (innerB B fn.ntmps a) (den (inner F fn.ntmps (s.over b)) (s'.over β)) g' a' w' → Rel B (den F ((s.withM m).over b)) g' a w' := by
        intro m h1 h2 hr'
        have e1 := mL m h1
        have e2 := mT m h2
        refine ⟨hr.size, fun t => ?_, hr.defers, hr'.imm, ?_, ?_, ?_, ?_, ?_, hr'.below, hr'.immle, hr'.immnew, hr'.pin, ?_⟩
        · have h3 := hr'.env (fn.ntmps + t)
          have hge : a'.tmps.size ≤ fn.ntmps + t := by rw [hr'.size]; exact Nat.le_add_right _ _
          rw [getD_ge hge] at h3
          have hlt : Nat.blt (fn.ntmps + t) fn.ntmps = false := by
            cases hq : Nat.blt (fn.ntmps + t) fn.ntmps with
            | false => rfl
            | true => have := blt hq; omega
          have h3 : Rep (denTT (s'.over β).T) g' (cond (Nat.blt (fn.ntmps + t) fn.ntmps) (denV ((s'.over β).get (fn.ntmps + t))) (denV (bif Nat.blt (fn.ntmps + t) fn.ntmps then .any else (bif Nat.blt (fn.ntmps + t - fn.ntmps) F.N then (s.over b).get (fn.ntmps + t - fn.ntmps) else F.ext (fn.ntmps + t - fn.ntmps))))) (a.tmps.getD (fn.ntmps + t - fn.ntmps) (B.ext (fn.ntmps + t - fn.ntmps))) := h3
          rw [hlt, Nat.add_sub_cancel_left] at h3
          show Rep (denTT ((s.withM m).over b).T) g' (cond (Nat.blt t F.N) (denV ((s.over b).get t)) (denV (F.ext t))) _
          rw [e2]
          simp only [cond_false] at h3
          cases hk : Nat.blt t F.N <;> (rw [hk] at h3; exact h3)
        · intro i ps hi
          have := hr'.box i ps (by show ((s'.over β).L i).map _ = _; rw [← e1]; exact hi)
          show ∃ cs ty, w'.heap[g'.β i]? = some (.cells cs ty (0, 0)) ∧ RepL (denTT ((s.withM m).over b).T) g' ps cs.toList ∧ _
          rw [e2]
          exact this
        · intro i i' ps ps' k1 k2
          exact hr'.apart i i' ps ps' (by show ((s'.over β).L i).map _ = _; rw [← e1]; exact k1) (by show ((s'.over β).L i').map _ = _; rw [← e1]; exact k2)
        · intro t sz m' b' c k1 k2
          exact hr'.tip t sz m' b' c (by show denTT (s'.over β).T t = _; rw [← e2]; exact k1) k2
        · intro t t' x x' b' b'' c c' k1 k2
          exact hr'.tips t t' x x' b' b'' c c' (by show denTT (s'.over β).T t = _; rw [← e2]; exact k1) (by show denTT (s'.over β).T t' = _; rw [← e2]; exact k2)
        · intro i ps t x b' c k1 k2
          exact hr'.boxtip i ps t x b' c (by show ((s'.over β).L i).map _ = _; rw [← e1]; exact k1) (by show denTT (s'.over β).T t = _; rw [← e2]; exact k2)
        · intro t ps hps
          have := hr'.prv t ps (by show denM (s'.over β).T t = _; rw [← e2]; exact hps)
          exact this.mono (by show denTT ((s.withM m).over b).T t = denTT (s'.over β).T t; rw [e2]) rfl (Imm.le_refl _) fun _ _ _ => ⟨fun _ => rfl, rfl⟩
      have wfm : ∀ (m : XS S.A), m.L = (fun i => orE (s'.L i) (s.mem.L i)) → m.T = (fun i => orE (s'.T i) (s.mem.T i)) → WF (Bd Q s.c s'.c) F ((s.withM m).over b) := by
        intro m h1 h2
        have e1 := mL m h1
        have e2 := mT m h2
        exact ⟨fun i => inV_mono (fun _ => .inl) (hw.env i), fun i ps hi => hws.L i ps (by rw [← e1]; exact hi), fun q x hq => hws.T q x (by rw [← e2]; exact hq), fun i => inV_mono (fun _ => .inl) (hw.ext i)⟩
      have ret : ∀ {Ψ : Prop}, σ = den (inner F fn.ntmps (s.over b)) (s'.over β) → (match resAll C fn.ntmps (s'.over β) fn.results.toList with
            | some ps => k (tupA ps) { s.mem with L := fun i => orE (s'.L i) (s.mem.L i), T := fun i => orE (s'.T i) (s.mem.T i), c := s'.c }
            | none => False) → a'.defers = [] ∧ ∃ v, (results fn a'.tmps).run C.P w' = .ok v w' ∧ ∃ r m g', k r m ∧ s.c ≤ m.c ∧ WF (fun n => Q n ∨ (s.c ≤ n ∧ n < m.c)) F ((s.withM m).over b) ∧ inV (fun n => Q n ∨ (s.c ≤ n ∧ n < m.c)) r ∧ Rel B (den F ((s.withM m).over b)) g' a w' ∧ Rep (denTT ((s.withM m).over b).T) g' (denV r) v := by
        intro Ψ hσ hm
        subst hσ
        split at hm <;> first | exact hm.elim | skip
        rename_i ps hps
        obtain ⟨v, hv1, hv2⟩ := results_run (F := inner F fn.ntmps (s.over b)) hr' hps hl4
        refine ⟨hr'.defers, v, hv1, tupA ps, _, g', hm, hc', wfm _ rfl rfl, tupA_in (resAll_in (F := inner F fn.ntmps (s.over b)) hws hps), back _ rfl rfl hr', ?_⟩
        rw [mT _ rfl]
        exact hv2
      cases e with
      | ret => exact ret (Ψ := True) hmatch.1 hmatch.2
      | normal => exact ret (Ψ := True) hmatch.1 hmatch.2
      | exit id => exact hmatch.2.elim
      | goto l => exact hmatch.elim
      | outgrown => exact hmatch.elim
      | panic ch =>
        obtain ⟨p, rfl, hp1, hp2⟩ := hmatch
        obtain ⟨v, hch, hv⟩ := hpay
        have hr2 : Rel (innerB B fn.ntmps a) (den (inner F fn.ntmps (s.over b)) (s'.over β)) g' a' w' := Rel.pay hr' _
        refine ⟨hr'.defers, p, _, g', v, ⟨_, hp2, rfl⟩, hc', wfm _ rfl rfl, hp1, back _ rfl rfl hr2, hch, ?_⟩
        rw [mT _ rfl]
        exact hv
end
end Go.Rx
/-! Contracts. -/
namespace Go.Rx
open Go.Ab Go.RowKit
set_option linter.unusedVariables false
set_option linter.unusedSimpArgs false
section
variable {S : Sys} {C : Cfg S} {P : Program}
/-- A cell of plain data. -/
def PL (p : AV S.A) : Prop := (∃ v, p = .sc v ∧ v.oneCell' = true) ∨ (∃ t l, p = .sl t l) ∨ ∃ b, p = .er b
theorem pl_avs : ∀ (lv : List Leaf) (h : HL S.A lv), ∀ p ∈ avsH lv h, PL p
  | [], _, p, hp => by cases hp
  | x :: xs, h, p, hp => by
    rcases List.mem_cons.1 hp with rfl | hp
    · cases x with
      | sl t => exact .inr (.inl ⟨_, _, rfl⟩)
      | er => exact .inr (.inr ⟨_, rfl⟩)
      | _ => exact .inl ⟨_, rfl, rfl⟩
    · exact pl_avs xs h.2 p hp
theorem pl_av (t : Nat) (x : S.A t) : ∀ p ∈ av S t x, PL p := pl_avs _ _
structure Plain (p : AV S.A) : Prop where
  flat : flatA p = true
  clean : (denV p).clean = true
  clean2 : (den2 p).clean2 = true
  strip : (denV p).strip = denV p
  strip2 : (den2 p).strip2 = den2 p
  ins : inV (fun _ => False) p
  d2 : denV p = den2 p
theorem plain_pl {p : AV S.A} (h : PL p) : Plain p := by
  rcases h with ⟨v, rfl, hv1⟩ | ⟨t, l, rfl⟩ | ⟨b, rfl⟩ <;> exact ⟨rfl, rfl, rfl, rfl, rfl, trivial, rfl⟩
theorem plain_any : Plain (.any : AV S.A) := ⟨rfl, rfl, rfl, rfl, rfl, trivial, rfl⟩
theorem plain_agg {cs : List (AV S.A)} (h : ∀ p ∈ cs, PL p) : Plain (.agg cs) := by
  have h1 : (cs.map den1).all PV.clean1 = true := by
    rw [List.all_map, List.all_eq_true]
    intro p hp
    rcases h p hp with ⟨v, rfl, hv1⟩ | ⟨t, l, rfl⟩ | ⟨b, rfl⟩ <;> rfl
  have h2 : (cs.map den1).map PV.strip1 = cs.map den1 := by
    rw [List.map_map]
    refine List.map_congr_left fun p hp => ?_
    rcases h p hp with ⟨v, rfl, hv1⟩ | ⟨t, l, rfl⟩ | ⟨b, rfl⟩ <;> rfl
  refine ⟨rfl, h1, h1, ?_, ?_, ?_, rfl⟩
  · show PV.agg ((cs.map den1).map PV.strip1) = .agg (cs.map den1); rw [h2]
  · show PV.agg ((cs.map den1).map PV.strip1) = .agg (cs.map den1); rw [h2]
  · intro p hp
    rcases h p hp with ⟨v, rfl, hv1⟩ | ⟨t, l, rfl⟩ | ⟨b, rfl⟩ <;> trivial
theorem plain_arg (t : Nat) (x : S.A t) : Plain (argA P t x) := by
  unfold argA
  split
  · exact plain_agg (pl_av t x)
  · unfold ofCells
    simp only
    split
    · rename_i p hp
      have := pl_av t x p (by rw [hp]; simp)
      have e : oneA p = p := by rcases this with ⟨v, rfl, hv1⟩ | ⟨t, l, rfl⟩ | ⟨b, rfl⟩ <;> rfl
      show Plain (oneA p)
      rw [e]
      exact plain_pl this
    · exact plain_any
theorem oneA_pl {p : AV S.A} (h : PL p) : oneA p = p := by rcases h with ⟨v, rfl, hv1⟩ | ⟨t, l, rfl⟩ | ⟨b, rfl⟩ <;> rfl
theorem dArg_wk {t : Nat} {p : AV S.A} {x : S.A t} (h : dArg P t p = some x) : flatA p = true ∧ Ab.WkA (den2 p).strip2 (den2 (argA P t x)) := by
  unfold dArg at h
  unfold argA
  split at h
  · rename_i n ht
    split at h
    · rename_i cs
      refine ⟨rfl, .agg ?_⟩
      have := dec_wk h
      rw [← av_den] at this
      rw [List.map_map]
      exact this
    · cases h
  · rename_i ht
    have key : ∀ {p : AV S.A}, dec S t [p] = some x → (den2 p) = den1 p → flatA p = true → (den1 p).strip2 = (den1 p).strip1 → flatA p = true ∧ Ab.WkA (den2 p).strip2 (den2 (ofCells false (av S t x))) := by
      intro p hd h2 hf hs
      refine ⟨hf, ?_⟩
      have := dec_wk hd
      rw [← av_den] at this
      cases hav : av S t x with
      | nil => rw [hav] at this; cases this
      | cons q qs =>
        cases qs with
        | cons q2 qs => rw [hav] at this; cases this with | cons _ h => cases h
        | nil =>
          rw [hav] at this
          have hq := pl_av t x q (by rw [hav]; simp)
          cases this with
          | cons hw _ =>
            rw [h2, hs]
            show Ab.WkA _ (den2 (oneA q))
            rw [oneA_pl hq]
            have : den2 q = den1 q := by rcases hq with ⟨v, rfl, hv1⟩ | ⟨u, l, rfl⟩ | ⟨b, rfl⟩ <;> rfl
            rw [this]
            exact .one hw
    split at h <;> first | (cases h; done) | skip
    rename_i n1 n2 n3
    refine key h ?_ ?_ ?_ <;> (cases p <;> first | rfl | exact absurd rfl (n1 _) | exact absurd rfl (n2 _) | exact absurd rfl (n3 _ _ _))
theorem decL_wk : ∀ {rts : List Nat} {ps : List (AV S.A)} {y : HR S rts}, decL P rts ps = some y → Ab.WkT ((ps.map den2).map PV.strip2) ((encL P rts y).map den2)
  | [], [], y, h => .nil
  | [t], [p], y, h => .cons (dArg_wk h).2 .nil
  | t :: u :: r, p :: ps, y, h => by
    simp only [decL] at h
    split at h <;> first | (cases h; done) | skip
    rename_i x hx
    split at h <;> first | (cases h; done) | skip
    rename_i z hz
    cases h
    exact .cons (dArg_wk hx).2 (decL_wk hz)
  | [], _ :: _, y, h => by simp [decL] at h
  | [t], [], y, h => by simp [decL] at h
  | [t], _ :: _ :: _, y, h => by simp [decL] at h
  | t :: u :: r, [], y, h => by simp [decL] at h
theorem encL_plain : ∀ (rts : List Nat) (y : HR S rts), ∀ p ∈ encL P rts y, Plain p
  | [], y, p, hp => by cases hp
  | [t], y, p, hp => by obtain rfl := List.mem_singleton.1 hp; exact plain_arg t y
  | t :: u :: r, y, p, hp => by
    rcases List.mem_cons.1 hp with rfl | hp
    · exact plain_arg t y.1
    · exact encL_plain (u :: r) y.2 p hp
theorem encL_len : ∀ (rts : List Nat) (y : HR S rts), (encL P rts y).length = rts.length
  | [], y => rfl
  | [t], y => rfl
  | t :: u :: r, y => by simp [encL, encL_len (u :: r)]
theorem enc_clean (rts : List Nat) (y : HR S rts) : (denV (tupA (encL P rts y))).clean = true := by
  have h := encL_plain (P := P) rts y
  have ht : (denV (.tup (encL P rts y))).clean = true := by
    show ((encL P rts y).map den2).all PV.clean2 = true
    rw [List.all_map, List.all_eq_true]
    exact fun p hp => (h p hp).clean2
  unfold tupA
  split
  · rename_i p hp; exact (h p (by rw [hp]; simp)).clean
  · exact ht
theorem rep_enc {T : Nat → Option (Nat × Nat)} {g : Gh} {rts : List Nat} {y : HR S rts} {r : AV S.A} {v : Value} (hd : decR P rts r = some y) (hr : Rep T g (denV r) v) : Rep noT (gh g.imm) (denV (tupA (encL P rts y))) v := by
  have hs := rep_strip (Imm.le_refl g.imm) hr
  have tup : ∀ {rts : List Nat} {y : HR S rts} {r : AV S.A}, (∀ p, encL P rts y ≠ [p]) → (∃ ps, r = .tup ps ∧ decL P rts ps = some y) → Rep noT (gh g.imm) (denV r).strip v → Rep noT (gh g.imm) (denV (tupA (encL P rts y))) v := by
    rintro rts y r hne ⟨ps, rfl, hl⟩ ⟨vs, e, hT⟩
    have : tupA (encL P rts y) = .tup (encL P rts y) := by
      unfold tupA
      split
      · rename_i p hp; exact absurd hp (hne p)
      · rfl
    rw [this]
    exact ⟨vs, e, wk_repT (decL_wk hl) hT⟩
  match rts, y, hd with
  | [t], y, hd =>
    obtain ⟨hf, hw⟩ := dArg_wk hd
    have h1 : denV r = den2 r := den2_flat hf
    have h2 := (plain_arg (P := P) t y)
    show Rep noT (gh g.imm) (denV (argA P t y)) v
    rw [h2.d2]
    rw [h1] at hs
    have hne : ∀ vs, (den2 r).strip ≠ .tup vs := by
      have := strip_ne (flat_ne hf)
      rw [h1] at this
      exact this
    have hs2 := rep_E hne hs
    have e : (den2 r).strip = (den2 r).strip2 := strip_other _ (fun cs e => by rw [← h1] at e; exact flat_ne hf cs e)
    rw [e] at hs2
    have := wk_repE hw hs2
    exact rep_ofE this
  | [], y, hd =>
    refine tup (fun p h => by cases h) ?_ hs
    cases r <;> first | exact ⟨_, rfl, hd⟩ | cases hd
  | t :: u :: l, y, hd =>
    refine tup (fun p h => by have := congrArg List.length h; rw [encL_len] at this; simp at this) ?_ hs
    cases r <;> first | exact ⟨_, rfl, hd⟩ | cases hd
/-! ### Contracts out of bodies -/
def ConMon : Con S.A → Prop
  | .tr W => ∀ args k k', (∀ r, k r → k' r) → W args k → W args k'
  | .fn _ => True
  | .srt _ _ _ _ => True
  | .own _ _ => True
  | .bx _ _ => True
structure KOk (P : Program) (K : List (Nat × Con S.A)) : Prop where
  ok : ∀ x ∈ K, ConOk P x.1 x.2
  mon : ∀ x ∈ K, ConMon x.2
theorem kok_nil : KOk P ([] : List (Nat × Con S.A)) := ⟨fun x h => (by cases h), fun x h => (by cases h)⟩
theorem kok_cons {f : Nat} {W : Con S.A} {K : List (Nat × Con S.A)} (h : ConOk P f W ∧ ConMon W) (hs : KOk P K) : KOk P ((f, W) :: K) :=
  ⟨List.forall_mem_cons.2 ⟨h.1, hs.ok⟩, List.forall_mem_cons.2 ⟨h.2, hs.mon⟩⟩
theorem KOk.km {K : List (Nat × Con S.A)} (h : KOk P K) : ∀ f W, Ab.look K f = some (.tr W) → ∀ args k k', (∀ r, k r → k' r) → W args k → W args k' := fun f W hl => h.mon _ (look_mem hl)
theorem KOk.k {K : List (Nat × Con S.A)} (h : KOk P K) : ∀ f W, Ab.look K f = some W → ConOk P f W := fun f W hl => h.ok _ (look_mem hl)
theorem appC_mono {rts : List Nat} : ∀ (ts : List Nat) (W : CT S rts ts) (args : List (AV S.A)) (k k' : AV S.A → Prop), (∀ r, k r → k' r) → appC P rts ts W args k → appC P rts ts W args k'
  | [], W, [], k, k', hk, h => withP_mono (hk _) h
  | [], W, _ :: _, k, k', hk, h => h.elim
  | t :: ts, W, [], k, k', hk, h => h.elim
  | t :: ts, W, p :: ps, k, k', hk, h => by
    simp only [appC] at h ⊢
    split at h
    · exact appC_mono ts _ ps k k' hk h
    · exact h
/-- No list is longer than a slice may be. -/
def OkL {A : Nat → Type} (ok : (t : Nat) → A t → Prop) : (lv : List Leaf) → HL A lv → Prop
  | [], _ => True
  | .sl t :: xs, h => (h.1.length ≤ 9223372036854775807 ∧ ∀ y ∈ h.1, ok t y) ∧ OkL ok xs h.2
  | .int _ :: xs, h => OkL ok xs h.2
  | .bool :: xs, h => OkL ok xs h.2
  | .str :: xs, h => OkL ok xs h.2
  | .er :: xs, h => OkL ok xs h.2
def OkA (S : Sys) : Nat → (t : Nat) → S.A t → Prop
  | 0, _, _ => True
  | n + 1, t, x => OkL (OkA S n) (S.shp t).lv ((S.shp t).toH x)
theorem okL_rep {T : Nat → Option (Nat × Nat)} {g : Gh} {ok : (t : Nat) → S.A t → Prop} (ih : ∀ (t : Nat) (x : S.A t) (vs : List Value) (i : Imm), RepL noT (gh i) ((S.E t).pv x) vs → ok t x) : ∀ (lv : List Leaf) (h : HL S.A lv) (vs : List Value), RepL T g (pvsH S.E lv h) vs → OkL ok lv h
  | [], _, _, _ => trivial
  | .sl t :: xs, h, vs, ⟨v, vs', _, h1, _, h3⟩ => by
    have h1 : sliceH (S.E t) h.1 g.imm v := h1
    refine ⟨⟨lenH h1, fun y hy => ?_⟩, okL_rep ih xs h.2 vs' h3⟩
    obtain ⟨i, hi⟩ := List.getElem?_of_mem hy
    obtain ⟨A, c, _, _, _, _, h4⟩ := h1
    obtain ⟨b, o, _, h5⟩ := h4 (fun e => by rw [e] at hy; cases hy)
    obtain ⟨us, h6, _⟩ := h5 i y hi
    exact ih t y us g.imm h6
  | .int _ :: xs, h, vs, ⟨v, vs', _, _, _, h3⟩ => okL_rep ih xs h.2 vs' h3
  | .bool :: xs, h, vs, ⟨v, vs', _, _, _, h3⟩ => okL_rep ih xs h.2 vs' h3
  | .str :: xs, h, vs, ⟨v, vs', _, _, _, h3⟩ => okL_rep ih xs h.2 vs' h3
  | .er :: xs, h, vs, ⟨v, vs', _, _, _, h3⟩ => okL_rep ih xs h.2 vs' h3
theorem okA_rep : ∀ (n t : Nat) (x : S.A t) (vs : List Value) (T : Nat → Option (Nat × Nat)) (g : Gh), RepL T g ((S.E t).pv x) vs → OkA S n t x
  | 0, _, _, _, _, _, _ => trivial
  | n + 1, t, x, vs, T, g, h => by
    rw [S.law] at h
    exact okL_rep (fun t x vs i h => okA_rep n t x vs _ _ h) _ _ _ h
theorem repT_at {T : Nat → Option (Nat × Nat)} {g : Gh} : ∀ {ps : List PV} {vs : List Value} {i : Nat} {q : PV}, RepT T g ps vs → ps[i]? = some q → ∃ v, RepE T g q v
  | [], _, i, q, _, h => by cases h
  | p :: ps, _, 0, q, ⟨v, vs', e, h1, h2⟩, h => by cases h; exact ⟨v, h1⟩
  | p :: ps, _, i + 1, q, ⟨v, vs', e, h1, h2⟩, h => repT_at h2 (by simpa using h)
theorem okA_arg {T : Nat → Option (Nat × Nat)} {g : Gh} {t : Nat} {p : AV S.A} {x : S.A t} {v : Value} (hx : dArg P t p = some x) (h : RepE T g (den2 (argA P t x)) v) (n : Nat) : OkA S n t x := by
  unfold dArg at hx
  unfold argA at h
  split at h
  · obtain ⟨vs, _, hl⟩ := h
    rw [av_den] at hl
    exact okA_rep n t x vs _ _ hl
  · rename_i hne
    split at hx
    · rename_i m ht; exact absurd ht (hne m)
    · split at hx <;> first | (cases hx; done) | skip
      have := dec_wk hx
      rw [← av_den] at this
      cases hav : av S t x with
      | nil => rw [hav] at this; cases this
      | cons q qs =>
        cases qs with
        | cons q2 qs => rw [hav] at this; cases this with | cons _ h => cases h
        | nil =>
          have hq := pl_av t x q (by rw [hav]; simp)
          rw [hav] at h
          have h : RepE T g (den2 (oneA q)) v := h
          rw [oneA_pl hq] at h
          have hone : v.oneCell' = true := by
            rcases hq with ⟨u, rfl, hv1⟩ | ⟨u, l, rfl⟩ | ⟨b, rfl⟩
            · have h : v = u := h
              rw [h]; exact hv1
            · exact (SL (S.E u) l).one h
            · exact (ER b).one (i := g.imm) h
          refine okA_rep n t x [v] T g ?_
          rw [← av_den, hav]
          refine ⟨v, [], rfl, ?_, hone, rfl⟩
          rcases hq with ⟨u, rfl, hv1⟩ | ⟨u, l, rfl⟩ | ⟨b, rfl⟩ <;> exact h
/-- What is to be shown of a function: its run, from any arguments. -/
def RunC (C : Cfg S) (n f : Nat) (rts : List Nat) : (ts : List Nat) → CT S rts ts → List (Sigma S.A) → Prop
  | [], W, acc => (∀ q, W.1 = some q → q) → Xf C n (emp 0) f (argsA C acc) (emp 0) (fun r _ => isR C.P rts W.2 r) (fun _ _ => False)
  | t :: ts, W, acc => ∀ x, OkA S 5 t x → RunC C n f rts ts (W x) (acc ++ [⟨t, x⟩])
theorem argsA_app (l : List (Sigma S.A)) (t : Nat) (x : S.A t) : argsA C (l ++ [⟨t, x⟩]) = argsA C l ++ [argA C.P t x] := by
  induction l with
  | nil => rfl
  | cons a l ih => obtain ⟨u, y⟩ := a; simp [argsA, ih]
theorem argsA_plain : ∀ (l : List (Sigma S.A)), ∀ p ∈ argsA C l, Plain p
  | [], p, hp => by cases hp
  | ⟨t, x⟩ :: l, p, hp => by
    rcases List.mem_cons.1 hp with rfl | hp
    · exact plain_arg t x
    · exact argsA_plain l p hp
theorem wkT_app {ps qs ps' qs' : List PV} (h : Ab.WkT ps qs) (h' : Ab.WkT ps' qs') : Ab.WkT (ps ++ ps') (qs ++ qs') := by
  induction h with
  | nil => exact h'
  | cons h _ ih => exact .cons h ih
theorem pf_run {n f : Nat} {args : List (AV S.A)} {rts : List Nat} {y : HR S rts} (hKK : KOk C.P C.K) (hmx : C.P.follows .mixedOrders = true) (hf : fnB C.P f = true) (hpl : ∀ p ∈ args, Plain p)
    (h : Xf C n (emp 0) f args (emp 0) (fun r _ => isR C.P rts y r) (fun _ _ => False)) : PFk (S := S) C.P f (args.map stripA) (fun q => q = tupA (encL C.P rts y)) := by
  intro imm w vs hok hgl hargs
  have ha : (args.map stripA) = args.map denV := List.map_congr_left fun p hp => (hpl p hp).strip
  rw [ha] at hargs
  have hr : Rel ⟨w, imm, noF, noPin, fun _ => undef, []⟩ (den (⟨0, fun _ => .any⟩ : Fr S) ((emp 0 : XS S.A).over (emp 0))) (gh imm) { tmps := #[], defers := [] } w := by
    refine { size := rfl, env := ?_, defers := rfl, imm := hok, box := ?_, apart := ?_, tip := ?_, tips := ?_, boxtip := ?_, below := ⟨rfl, rfl, rfl, Nat.le_refl _, fun _ _ _ => rfl⟩, immle := Imm.le_refl _, immnew := fun _ _ _ h => .inl h, pin := ?_, prv := fun _ _ h => by cases h }
    · intro t
      have : Nat.blt t 0 = false := by cases hq : Nat.blt t 0 with | false => rfl | true => have := blt hq; omega
      show Rep noT (gh imm) (cond (Nat.blt t 0) (denV (((emp 0 : XS S.A).over (emp 0)).get t)) (denV (.any : AV S.A))) _
      rw [this]
      trivial
    · intro s ps h; cases h
    · intro s s' ps ps' h; cases h
    · intro t sz m b c h; cases h
    · intro t t' x x' b b' c c' h; cases h
    · intro s ps t x b c h; cases h
    · intro s b h; cases h
  have hw : WF (fun _ => False) (⟨0, fun _ => .any⟩ : Fr S) ((emp 0 : XS S.A).over (emp 0)) := by
    refine ⟨fun k => ?_, fun i ps h => (by cases h), fun q x h => (by cases h), fun k => trivial⟩
    unfold getN
    cases Nat.blt k 0 <;> trivial
  refine (xf_sound hKK.km hKK.k hmx n (emp 0) f args (emp 0) _ _ h hf (fun p hp => (hpl p hp).flat) _ ⟨fun _ => rfl, hgl.1, fun w' h1 h2 => S.gwm w w' h1 (fun b hb => h2 b hb fun h => h) hgl.2⟩ (⟨0, fun _ => .any⟩ : Fr S) (fun _ => False) (fun _ h => h.elim) hw (fun p hp => (hpl p hp).ins) (gh imm) _ w vs hr hargs).mono ?_
  rintro e w' he
  cases e with
  | returned v =>
    obtain ⟨r, m, g', h1, h2, h3, h4, h5, h6⟩ := he
    have hd : decR C.P rts r = some y := by
      unfold isR at h1
      split at h1
      · rename_i z hz; rw [hz, h1]
      · exact h1.elim
    refine ⟨_, v, g'.imm, rfl, enc_clean rts y, rfl, h5.immle, h5.imm, fun b o u hu => ?_, rep_enc hd h6, ?_⟩
    · rcases h5.immnew b o u hu with h | h | h
      · exact .inl h
      · exact .inr h
      · exact h.elim
    · obtain ⟨k1, k2, k3, k4, k5⟩ := h5.below
      exact ⟨k1, k2, k3, k4, fun k hk => k5 k hk (fun h => h)⟩
  | panicked ch =>
    obtain ⟨p, s', g', v, ⟨m, h1, _⟩, _⟩ := he
    exact h1.elim
  | outgrown => exact he.elim
theorem con_of {n f : Nat} {rts : List Nat} (hKK : KOk C.P C.K) (hmx : C.P.follows .mixedOrders = true) (hf : fnB C.P f = true) {k : AV S.A → Prop} {imm : Imm} {w : World} {vs : List Value} (hok : ImmOk imm w) (hgl : GlobW S imm w) : ∀ (ts : List Nat) (W : CT S rts ts) (acc : List (Sigma S.A)) (qs args : List (AV S.A)), RunC C n f rts ts W acc → Ab.WkT (qs.map stripA) ((argsA C acc).map denV) → appC C.P rts ts W args k →
    RepT noT (gh imm) ((qs ++ args).map stripA) vs → Calls C.P f vs.toArray w fun e w' =>
      ∃ r v imm', k r ∧ (denV r).clean = true ∧ e = .returned v ∧ Imm.le imm imm' ∧ ImmOk imm' w' ∧ (∀ b o u, imm' b o = some u → imm b o = some u ∨ w.heap.size ≤ b) ∧ Rep noT (gh imm') (denV r) v ∧ Below w.heap.size w w'
  | [], W, acc, qs, [], hrun, hwk, h, hargs => by
    obtain ⟨hp, hk⟩ := withP_iff h
    rw [List.append_nil] at hargs
    have h1 := pf_run hKK hmx hf (argsA_plain acc) (hrun hp) imm w vs hok hgl (by
      rw [show (argsA C acc).map stripA = (argsA C acc).map denV from List.map_congr_left fun p hp => (argsA_plain acc p hp).strip]
      exact wk_repT hwk hargs)
    refine h1.mono ?_
    rintro e w' ⟨r, v, imm', rfl, h2, h3⟩
    exact ⟨_, v, imm', hk, h2, h3⟩
  | [], W, acc, qs, _ :: _, hrun, hwk, h, _ => h.elim
  | t :: ts, W, acc, qs, [], hrun, hwk, h, _ => h.elim
  | t :: ts, W, acc, qs, p :: ps, hrun, hwk, h, hargs => by
    simp only [appC] at h
    split at h <;> first | exact h.elim | skip
    rename_i x hx
    obtain ⟨hfl, hw⟩ := dArg_wk hx
    have h1 : denV p = den2 p := den2_flat hfl
    have e : (den2 p).strip = (den2 p).strip2 := strip_other _ (fun cs e => by rw [← h1] at e; exact flat_ne hfl cs e)
    have hs : stripA p = (den2 p).strip2 := by show (denV p).strip = _; rw [h1, e]
    have hOk : OkA S 5 t x := by
      obtain ⟨v, hv⟩ := repT_at (i := qs.length) hargs (q := stripA p) (by simp)
      rw [hs] at hv
      exact okA_arg hx (wk_repE hw hv) 5
    refine con_of hKK hmx hf hok hgl ts (W x) (acc ++ [⟨t, x⟩]) (qs ++ [p]) ps (hrun x hOk) (by
      rw [argsA_app, List.map_append, List.map_append]
      refine wkT_app hwk (.cons ?_ .nil)
      rw [(plain_arg (P := C.P) t x).d2, hs]
      exact hw) h (by rw [List.append_assoc]; exact hargs)
/-- **A function keeps a contract.** -/
theorem con_ok {n f : Nat} {ts rts : List Nat} {W : CT S rts ts} (hKK : KOk C.P C.K) (hmx : C.P.follows .mixedOrders = true) (hf : fnB C.P f = true) (h : RunC C n f rts ts W []) : ConOk C.P f (ctr C.P ts rts W) ∧ ConMon (ctr C.P ts rts W) :=
  ⟨fun args k ha imm w vs hok hgl hargs => con_of hKK hmx hf hok hgl ts W [] [] args h .nil ha hargs, fun args k k' hk ha => appC_mono ts W args k k' hk ha⟩
/-- A contract over a box: what is asked; what is handed back; what the box has then. -/
abbrev CTB (S : Sys) (t : Nat) (rts : List Nat) : List Nat → Type
  | [] => Option Prop × HR S rts × S.A t
  | u :: us => S.A u → CTB S t rts us
def appB (P : Program) (t : Nat) (rts : List Nat) : (ts : List Nat) → CTB S t rts ts → List (AV S.A) → Option (Option Prop × AV S.A × S.A t)
  | [], W, [] => some (W.1, tupA (encL P rts W.2.1), W.2.2)
  | u :: ts, W, p :: ps => (match dArg P u p with
    | some x => appB P t rts ts (W x) ps
    | none => none)
  | _, _, _ => none
def ctb (P : Program) (t : Nat) (ts rts : List Nat) (W : S.A t → CTB S t rts ts) : Con S.A := .bx t fun x args => appB P t rts ts (W x) args
/-- The box that a function was handed has z. -/
def isB (t : Nat) (z : S.A t) (m : XS S.A) : Prop := match m.L 0 with
  | some ⟨cs, none⟩ => (match dec S t cs with
    | some y => y = z
    | none => False)
  | _ => False
/-- A state with one box. -/
def boxS (t : Nat) (x : S.A t) : XS S.A := { env := fun _ => none, L := fun k => match k with | 0 => some (.of (av S t x)) | _ => none, T := fun _ => none, c := 1 }
def RunB (C : Cfg S) (n f t : Nat) (rts : List Nat) (x : S.A t) : (ts : List Nat) → CTB S t rts ts → List (Sigma S.A) → Prop
  | [], W, acc => (∀ q, W.1 = some q → q) → Xf C n (emp 1) f (.loc 0 0 :: argsA C acc) (boxS t x) (fun r m => isR C.P rts W.2.1 r ∧ isB t W.2.2 m) (fun _ _ => False)
  | u :: ts, W, acc => ∀ y, OkA S 5 u y → RunB C n f t rts x ts (W y) (acc ++ [⟨u, y⟩])
theorem bx_run {n f t : Nat} {args : List (AV S.A)} {rts : List Nat} {x z : S.A t} {y : HR S rts} (hKK : KOk C.P C.K) (hmx : C.P.follows .mixedOrders = true) (hf : fnB C.P f = true) (hpl : ∀ p ∈ args, Plain p)
    (h : Xf C n (emp 1) f (.loc 0 0 :: args) (boxS t x) (fun r m => isR C.P rts y r ∧ isB t z m) (fun _ _ => False)) : BxOk (S := S) C.P f t (args.map stripA) x (tupA (encL C.P rts y)) z := by
  intro imm w b cs ty vs hok hgl hgw hnone hb hx hargs
  have ha : (args.map stripA) = args.map denV := List.map_congr_left fun p hp => (hpl p hp).strip
  rw [ha] at hargs
  have hlt := (Array.getElem?_eq_some_iff.1 hb).1
  let F : Fr S := ⟨0, fun _ => .loc 0 0⟩
  let B : Base := ⟨w, imm, fun k => k = b, noPin, fun _ => .pointer (some ⟨b, 0, none⟩), []⟩
  let g0 : Gh := { imm := imm, β := fun _ => b, τ := fun _ => none }
  have hL0 : ∀ s ps, (den F ((boxS t x).over (emp 1))).L s = some ps → s = 0 ∧ ps = (av S t x).map den1 := by
    intro s ps h
    cases s with
    | zero => exact ⟨rfl, by cases h; rfl⟩
    | succ s => cases h
  have hr : Rel B (den F ((boxS t x).over (emp 1))) g0 { tmps := #[], defers := [] } w := by
    refine { size := rfl, env := ?_, defers := rfl, imm := hok, box := ?_, apart := ?_, tip := ?_, tips := ?_, boxtip := ?_, below := ⟨rfl, rfl, rfl, Nat.le_refl _, fun _ _ _ => rfl⟩, immle := Imm.le_refl _, immnew := fun _ _ _ h => .inl h, pin := ?_, prv := fun _ _ h => by cases h }
    · intro k
      have : Nat.blt k 0 = false := by cases hq : Nat.blt k 0 with | false => rfl | true => have := blt hq; omega
      show Rep noT g0 (cond (Nat.blt k 0) (denV (((boxS t x).over (emp 1)).get k)) (denV (.loc 0 0 : AV S.A))) _
      rw [this]
      exact rfl
    · intro s ps h
      obtain ⟨rfl, rfl⟩ := hL0 s ps h
      refine ⟨cs, ty, hb, ?_, hnone, .inr rfl⟩
      rw [av_den]
      exact repL_clean (imm := imm) (Imm.le_refl _) (pv_clean t x) hx
    · intro s s' ps ps' h h' hne
      exact absurd ((hL0 s ps h).1.trans (hL0 s' ps' h').1.symm) hne
    · intro k sz m b c h; cases h
    · intro k t' x x' b b' c c' h; cases h
    · intro s ps k x b c hL h; cases h
    · intro s b h; cases h
  have hw : WF (fun n => n = 0) F ((boxS t x).over (emp 1)) := by
    refine ⟨fun k => ?_, fun i ps h => ?_, fun q x h => (by cases h), fun k => rfl⟩
    · unfold getN
      cases Nat.blt k F.N <;> trivial
    · cases i with
      | zero => cases h; exact ⟨rfl, fun p hp => in1_av _ _ p hp⟩
      | succ i => cases h
  refine (xf_sound hKK.km hKK.k hmx n (emp 1) f (.loc 0 0 :: args) (boxS t x) _ _ h hf (List.forall_mem_cons.2 ⟨rfl, fun p hp => (hpl p hp).flat⟩) B ⟨fun _ => rfl, hgl, fun w' h1 h2 => hgw w' h1 h2⟩ F (fun n => n = 0) (fun n h => by subst h; exact Nat.zero_lt_one) hw (List.forall_mem_cons.2 ⟨rfl, fun p hp => inV_mono (fun _ h => h.elim) (hpl p hp).ins⟩) g0 _ w (.pointer (some ⟨b, 0, none⟩) :: vs) hr ⟨_, _, rfl, rfl, ?_⟩).mono ?_
  · exact repT_clean (Imm.le_refl _) (by
      rw [List.all_map, List.all_eq_true]
      intro p hp
      show (denV p).clean2 = true
      rw [(hpl p hp).d2]
      exact (hpl p hp).clean2) hargs
  rintro e w' he
  cases e with
  | returned v =>
    obtain ⟨r, m, g', ⟨h1, hB⟩, h2, h3, h4, h5, h6⟩ := he
    have hd : decR C.P rts r = some y := by
      unfold isR at h1
      split at h1
      · rename_i z hz; rw [hz, h1]
      · exact h1.elim
    have hβ : g'.β 0 = b := by
      have h : (Value.pointer (some ⟨b, 0, none⟩)) = .pointer (some ⟨g'.β 0, 0, none⟩) := h5.env 0
      cases h; rfl
    unfold isB at hB
    split at hB <;> first | exact hB.elim | skip
    rename_i cs1 hm
    split at hB <;> first | exact hB.elim | skip
    rename_i y1 hy1
    subst hB
    have hL1 : (den F (((boxS t x).withM m).over (emp 1))).L 0 = some (cs1.map den1) := by
      show (orE (m.L 0) none).map denB = _
      rw [hm]; rfl
    obtain ⟨cs2, ty2, k1, k2, k3, _⟩ := h5.box 0 _ hL1
    rw [hβ] at k1 k3
    refine ⟨v, g'.imm, cs2, ty2, enc_clean rts y, rfl, h5.immle, h5.imm, fun b' o u hu => ?_, rep_enc hd h6, k1, wk_repL (by have := dec_wk hy1; rw [List.map_map]; exact this) (repL_strip (Imm.le_refl _) k2), ?_⟩
    · rcases h5.immnew b' o u hu with h | h | h
      · exact .inl h
      · exact .inr h
      · have h : b' = b := h
        subst h; rw [k3] at hu; cases hu
    · obtain ⟨j1, j2, j3, j4, j5⟩ := h5.below
      exact ⟨j1, j2, j3, j4, fun k hk hne => j5 k hk hne⟩
  | panicked ch =>
    obtain ⟨p, s', g', v, ⟨m, h1, _⟩, _⟩ := he
    exact h1.elim
  | outgrown => exact he.elim
theorem bx_of {n f t : Nat} {rts : List Nat} {x : S.A t} (hKK : KOk C.P C.K) (hmx : C.P.follows .mixedOrders = true) (hf : fnB C.P f = true) {hp : Option Prop} {r : AV S.A} {z : S.A t} (hh : ∀ q, hp = some q → q) : ∀ (ts : List Nat) (W : CTB S t rts ts) (acc : List (Sigma S.A)) (qs args : List (AV S.A)), RunB C n f t rts x ts W acc → Ab.WkT (qs.map stripA) ((argsA C acc).map denV) → appB C.P t rts ts W args = some (hp, r, z) → BxOk C.P f t ((qs ++ args).map stripA) x r z
  | [], W, acc, qs, [], hrun, hwk, h => by
    simp only [appB, Option.some.injEq, Prod.mk.injEq] at h
    obtain ⟨rfl, rfl, rfl⟩ := h
    rw [List.append_nil]
    intro imm w b cs ty vs hok hgl hgw hnone hb hx hargs
    refine bx_run hKK hmx hf (argsA_plain acc) (hrun hh) imm w b cs ty vs hok hgl hgw hnone hb hx ?_
    rw [show (argsA C acc).map stripA = (argsA C acc).map denV from List.map_congr_left fun p hp => (argsA_plain acc p hp).strip]
    exact wk_repT hwk hargs
  | [], W, acc, qs, _ :: _, hrun, hwk, h => by simp [appB] at h
  | t' :: ts, W, acc, qs, [], hrun, hwk, h => by simp [appB] at h
  | u :: ts, W, acc, qs, p :: ps, hrun, hwk, h => by
    simp only [appB] at h
    split at h <;> first | cases h; done | skip
    rename_i y hx
    intro imm w b cs ty vs hok hgl hgw hnone hb hxx hargs
    obtain ⟨hfl, hw⟩ := dArg_wk hx
    have h1 : denV p = den2 p := den2_flat hfl
    have e : (den2 p).strip = (den2 p).strip2 := strip_other _ (fun cs e => by rw [← h1] at e; exact flat_ne hfl cs e)
    have hs : stripA p = (den2 p).strip2 := by show (denV p).strip = _; rw [h1, e]
    have hOk : OkA S 5 u y := by
      obtain ⟨v, hv⟩ := repT_at (i := qs.length) hargs (q := stripA p) (by simp)
      rw [hs] at hv
      exact okA_arg hx (wk_repE hw hv) 5
    refine bx_of hKK hmx hf hh ts (W y) (acc ++ [⟨u, y⟩]) (qs ++ [p]) ps (hrun y hOk) (by
      rw [argsA_app, List.map_append, List.map_append]
      refine wkT_app hwk (.cons ?_ .nil)
      rw [(plain_arg (P := C.P) u y).d2, hs]
      exact hw) h imm w b cs ty vs hok hgl hgw hnone hb hxx (by rw [List.append_assoc]; exact hargs)
/-- **A function keeps a contract over a box.** -/
theorem bx_ok {n f t : Nat} {ts rts : List Nat} {W : S.A t → CTB S t rts ts} (hKK : KOk C.P C.K) (hmx : C.P.follows .mixedOrders = true) (hf : fnB C.P f = true) (h : ∀ x, OkA S 5 t x → RunB C n f t rts x ts (W x) []) : ConOk C.P f (ctb C.P t ts rts W) ∧ ConMon (ctb C.P t ts rts W) :=
  ⟨fun x args hp r z ha hh imm w b cs ty vs hok hgl hgw hnone hb hx hargs => bx_of hKK hmx hf hh ts (W x) [] [] args (h x (okA_rep 5 t x _ _ _ hx)) .nil ha imm w b cs ty vs hok hgl hgw hnone hb hx hargs, trivial⟩
/-- What a call hands back is a list of its own, or nil. -/
def OwnR (e : Nat) (l : List (S.A e)) (r : AV S.A) (m : XS S.A) : Prop := match r with
  | .nil => l = []
  | .prv k u n => (match m.T k with
    | some ⟨sz, n', some ⟨u', y, _⟩⟩ => if h : Nat.beq u' e = true then sz = szOf S e ∧ n = y.length ∧ n' = y.length ∧ castT h y = l else False
    | _ => False)
  | _ => False
theorem own_run {n f : Nat} {args : List (AV S.A)} {e : Nat} {l : List (S.A e)} (hKK : KOk C.P C.K) (hmx : C.P.follows .mixedOrders = true) (hf : fnB C.P f = true) (hpl : ∀ p ∈ args, Plain p)
    (h : Xf C n (emp 0) f args (emp 0) (OwnR e l) (fun _ _ => False)) : OwnOk (S := S) C.P f (args.map stripA) l := by
  intro imm w vs hok hgl hargs
  have ha : (args.map stripA) = args.map denV := List.map_congr_left fun p hp => (hpl p hp).strip
  rw [ha] at hargs
  have hr : Rel ⟨w, imm, noF, noPin, fun _ => undef, []⟩ (den (⟨0, fun _ => .any⟩ : Fr S) ((emp 0 : XS S.A).over (emp 0))) (gh imm) { tmps := #[], defers := [] } w := by
    refine { size := rfl, env := ?_, defers := rfl, imm := hok, box := ?_, apart := ?_, tip := ?_, tips := ?_, boxtip := ?_, below := ⟨rfl, rfl, rfl, Nat.le_refl _, fun _ _ _ => rfl⟩, immle := Imm.le_refl _, immnew := fun _ _ _ h => .inl h, pin := ?_, prv := fun _ _ h => by cases h }
    · intro t
      have : Nat.blt t 0 = false := by cases hq : Nat.blt t 0 with | false => rfl | true => have := blt hq; omega
      show Rep noT (gh imm) (cond (Nat.blt t 0) (denV (((emp 0 : XS S.A).over (emp 0)).get t)) (denV (.any : AV S.A))) _
      rw [this]
      trivial
    · intro s ps h; cases h
    · intro s s' ps ps' h; cases h
    · intro t sz m b c h; cases h
    · intro t t' x x' b b' c c' h; cases h
    · intro s ps t x b c h; cases h
    · intro s b h; cases h
  have hw : WF (fun _ => False) (⟨0, fun _ => .any⟩ : Fr S) ((emp 0 : XS S.A).over (emp 0)) := by
    refine ⟨fun k => ?_, fun i ps h => (by cases h), fun q x h => (by cases h), fun k => trivial⟩
    unfold getN
    cases Nat.blt k 0 <;> trivial
  refine (xf_sound hKK.km hKK.k hmx n (emp 0) f args (emp 0) _ _ h hf (fun p hp => (hpl p hp).flat) _ ⟨fun _ => rfl, hgl.1, fun w' h1 h2 => S.gwm w w' h1 (fun b hb => h2 b hb fun h => h) hgl.2⟩ (⟨0, fun _ => .any⟩ : Fr S) (fun _ => False) (fun _ h => h.elim) hw (fun p hp => (hpl p hp).ins) (gh imm) _ w vs hr hargs).mono ?_
  rintro x w' he
  cases x with
  | returned v =>
    obtain ⟨r, m, g', h1, h2, h3, h4, h5, h6⟩ := he
    refine ⟨v, g'.imm, rfl, h5.immle, h5.imm, fun b o u hu => ?_, ?_, ?_⟩
    · rcases h5.immnew b o u hu with h | h | h
      · exact .inl h
      · exact .inr h
      · exact h.elim
    · obtain ⟨k1, k2, k3, k4, k5⟩ := h5.below
      exact ⟨k1, k2, k3, k4, fun k hk => k5 k hk (fun h => h)⟩
    · unfold OwnR at h1
      split at h1
      · subst h1
        exact .inl ⟨rfl, h6⟩
      · rename_i k u n1
        split at h1 <;> first | exact h1.elim | skip
        rename_i sz n' u' y pad hT
        split at h1 <;> first | exact h1.elim | skip
        rename_i hu
        obtain rfl := Nat.eq_of_beq_eq_true hu
        obtain ⟨rfl, rfl, rfl, h1⟩ := h1
        have h1 : y = l := h1
        subst h1
        have hT1 : (((emp 0 : XS S.A).withM m).over (emp 0)).T k = some ⟨szOf S u', y.length, some ⟨u', y, pad⟩⟩ := by
          show orE (m.T k) none = _
          rw [hT]; rfl
        have hT2 := den_T (F := (⟨0, fun _ => .any⟩ : Fr S)) hT1
        have hM := den_M (F := (⟨0, fun _ => .any⟩ : Fr S)) hT1
        obtain ⟨j1, _, j4⟩ := rep_prv hT2 h6
        obtain ⟨_, _, hp1, hp2, hp3, hp4⟩ := h5.prv k _ hM
        rw [hT2] at hp1
        simp only [Option.some.injEq, Prod.mk.injEq] at hp1
        obtain ⟨rfl, rfl⟩ := hp1
        rcases j4 rfl with ⟨b, c, hτ, hv⟩ | ⟨hτ, hl0, hv⟩
        · obtain ⟨hnone, cs, ty, hcs, hR⟩ := hp4 b c hτ
          obtain ⟨cs2, ty2, hcs2, hcsz, hmc, _, hF⟩ := h5.tip k _ _ b c hT2 hτ
          rw [hcs] at hcs2
          cases hcs2
          have hc9 : c ≤ 9223372036854775807 := by
            obtain ⟨A1, c1, k1, _, k2, _⟩ := j1
            rw [hv] at k1
            simp only [Value.slice.injEq] at k1
            rw [k1.2.2]; exact k2
          rw [szOf_eq] at hR hcsz
          exact .inr ⟨b, c, cs, ty, hv, hF.elim (fun h => h) (fun h => h.elim), hcs, hmc, hc9, hcsz, hnone, hR⟩
        · obtain rfl : y = [] := List.eq_nil_of_length_eq_zero hl0
          exact .inl ⟨rfl, hv⟩
      · exact h1.elim
  | panicked ch =>
    obtain ⟨p, s', g', v, ⟨m, h1, _⟩, _⟩ := he
    exact h1.elim
  | outgrown => exact he.elim
/-- The contract of a function of one argument that hands back a list of its own. -/
def own1F (P : Program) (t e : Nat) (W : S.A t → Prop × List (S.A e)) : List (AV S.A) → Option (Prop × List (S.A e))
  | [p] => (match dArg P t p with | some x => some (W x) | none => none)
  | _ => none
theorem own1_ok {n f t e : Nat} {W : S.A t → Prop × List (S.A e)} (hKK : KOk C.P C.K) (hmx : C.P.follows .mixedOrders = true) (hf : fnB C.P f = true)
    (h : ∀ x, OkA S 5 t x → (W x).1 → Xf C n (emp 0) f (argsA C [⟨t, x⟩]) (emp 0) (OwnR e (W x).2) (fun _ _ => False)) : ConOk C.P f (.own e (own1F C.P t e W)) ∧ ConMon (.own e (own1F (S := S) C.P t e W)) := by
  refine ⟨fun args hp l hl hh imm w vs hok hgl hargs => ?_, trivial⟩
  unfold own1F at hl
  split at hl
  · rename_i p
    split at hl
    · rename_i x hx
      have hl := Option.some.inj hl
      have el : l = (W x).2 := by rw [hl]
      have eh : hp = (W x).1 := by rw [hl]
      subst el eh
      obtain ⟨hfl, hw⟩ := dArg_wk hx
      have h1 : denV p = den2 p := den2_flat hfl
      have e1 : (den2 p).strip = (den2 p).strip2 := strip_other _ (fun cs e => by rw [← h1] at e; exact flat_ne hfl cs e)
      have hs : stripA p = (den2 p).strip2 := by show (denV p).strip = _; rw [h1, e1]
      have hOk : OkA S 5 t x := by
        obtain ⟨v, hv⟩ := repT_at (i := 0) hargs (q := stripA p) (by simp)
        rw [hs] at hv
        exact okA_arg hx (wk_repE hw hv) 5
      refine own_run hKK hmx hf (argsA_plain [⟨t, x⟩]) (h x hOk hh) imm w vs hok hgl ?_
      rw [show (argsA C [⟨t, x⟩]).map stripA = (argsA C [⟨t, x⟩]).map denV from List.map_congr_left fun p hp => (argsA_plain [⟨t, x⟩] p hp).strip]
      refine wk_repT (.cons ?_ .nil) hargs
      show Ab.WkA (stripA p) (denV (argA C.P t x))
      rw [hs, den2_flat (plain_arg (P := C.P) t x).flat]
      exact hw
    · cases hl
  · cases hl
end
end Go.Rx
/-! Loops that end, and turns of what is left to show. -/
namespace Go.Rx
open Go.Ab Go.RowKit
theorem of_eq {p q : Prop} (h : p = q) (hq : q) : p := h ▸ hq
theorem LOOP.of {ι : Type} {step : ι → (ι → Prop) → Prop} {x : ι} (I : ι → Prop) (μ : ι → Nat) (h0 : I x) (hs : ∀ y, I y → ∀ J : ι → Prop, (∀ z, I z → μ z < μ y → J z) → step y J) : LOOP step x := by
  refine ⟨fun J hJ => ?_⟩
  have key : ∀ n y, μ y = n → I y → J y := by
    intro n
    induction n using Nat.strongRecOn with
    | _ n ih =>
      intro y hn hI
      exact hJ y (hs y hI J fun z hz hlt => ih (μ z) (hn ▸ hlt) z rfl hz)
  exact key _ x rfl h0
theorem bif_of {b : Bool} {p q : Prop} (h1 : b = true → p) (h2 : b = false → q) : bif b then p else q := by
  cases b
  · exact h2 rfl
  · exact h1 rfl
/-- The contract of a function, where the package variables hold what they do. -/
def PFg (S : Sys) (P : Program) (f : FuncId) (args : List PV) (r : PV) : Prop :=
  ∀ (imm : Imm) (w : World) (vs : List Value), ImmOk imm w → GlobW S imm w → RepT noT (gh imm) args vs → Calls P f vs.toArray w fun e w' =>
    ∃ v imm', e = .returned v ∧ Imm.le imm imm' ∧ ImmOk imm' w' ∧ (∀ b o u, imm' b o = some u → imm b o = some u ∨ w.heap.size ≤ b) ∧ Rep noT (gh imm') r v ∧ Below w.heap.size w w'
theorem pf_of_pfk {S : Sys} {P : Program} {f : FuncId} {args : List PV} {r : AV S.A} (h : PFk (S := S) P f args (fun q => q = r)) : PFg S P f args (denV r) := by
  intro imm w vs hok hgl hargs
  refine (h imm w vs hok hgl hargs).mono ?_
  rintro e w' ⟨r', v, imm', rfl, _, rfl, h1, h2, h3, h4, h5⟩
  exact ⟨v, imm', rfl, h1, h2, h3, h4, h5⟩
end Go.Rx
/-! Contracts that are proved in any way. -/
namespace Go.Rx
open Go.Ab Go.RowKit
set_option linter.unusedVariables false
set_option linter.unusedSimpArgs false
section
variable {S : Sys} {C : Cfg S} {P : Program}
/-- What is to be shown of a function, in any way. -/
def RunP (C : Cfg S) (f : Nat) (rts : List Nat) : (ts : List Nat) → CT S rts ts → List (Sigma S.A) → Prop
  | [], W, acc => (∀ q, W.1 = some q → q) → PFk (S := S) C.P f ((argsA C acc).map stripA) (fun q => q = tupA (encL C.P rts W.2))
  | t :: ts, W, acc => ∀ x, OkA S 5 t x → RunP C f rts ts (W x) (acc ++ [⟨t, x⟩])
theorem con_ofP {f : Nat} {rts : List Nat} {k : AV S.A → Prop} {imm : Imm} {w : World} {vs : List Value} (hok : ImmOk imm w) (hgl : GlobW S imm w) : ∀ (ts : List Nat) (W : CT S rts ts) (acc : List (Sigma S.A)) (qs args : List (AV S.A)), RunP C f rts ts W acc → Ab.WkT (qs.map stripA) ((argsA C acc).map denV) → appC C.P rts ts W args k →
    RepT noT (gh imm) ((qs ++ args).map stripA) vs → Calls C.P f vs.toArray w fun e w' =>
      ∃ r v imm', k r ∧ (denV r).clean = true ∧ e = .returned v ∧ Imm.le imm imm' ∧ ImmOk imm' w' ∧ (∀ b o u, imm' b o = some u → imm b o = some u ∨ w.heap.size ≤ b) ∧ Rep noT (gh imm') (denV r) v ∧ Below w.heap.size w w'
  | [], W, acc, qs, [], hrun, hwk, h, hargs => by
    obtain ⟨hp, hk⟩ := withP_iff h
    rw [List.append_nil] at hargs
    have h1 := hrun hp imm w vs hok hgl (by
      rw [show (argsA C acc).map stripA = (argsA C acc).map denV from List.map_congr_left fun p hp => (argsA_plain acc p hp).strip]
      exact wk_repT hwk hargs)
    refine h1.mono ?_
    rintro e w' ⟨r, v, imm', rfl, h2, h3⟩
    exact ⟨_, v, imm', hk, h2, h3⟩
  | [], W, acc, qs, _ :: _, hrun, hwk, h, _ => h.elim
  | t :: ts, W, acc, qs, [], hrun, hwk, h, _ => h.elim
  | t :: ts, W, acc, qs, p :: ps, hrun, hwk, h, hargs => by
    simp only [appC] at h
    split at h <;> first | exact h.elim | skip
    rename_i x hx
    obtain ⟨hfl, hw⟩ := dArg_wk hx
    have h1 : denV p = den2 p := den2_flat hfl
    have e : (den2 p).strip = (den2 p).strip2 := strip_other _ (fun cs e => by rw [← h1] at e; exact flat_ne hfl cs e)
    have hs : stripA p = (den2 p).strip2 := by show (denV p).strip = _; rw [h1, e]
    have hOk : OkA S 5 t x := by
      obtain ⟨v, hv⟩ := repT_at (i := qs.length) hargs (q := stripA p) (by simp)
      rw [hs] at hv
      exact okA_arg hx (wk_repE hw hv) 5
    refine con_ofP hok hgl ts (W x) (acc ++ [⟨t, x⟩]) (qs ++ [p]) ps (hrun x hOk) (by
      rw [argsA_app, List.map_append, List.map_append]
      refine wkT_app hwk (.cons ?_ .nil)
      rw [(plain_arg (P := C.P) t x).d2, hs]
      exact hw) h (by rw [List.append_assoc]; exact hargs)
theorem con_okP {f : Nat} {ts rts : List Nat} {W : CT S rts ts} (h : RunP C f rts ts W []) : ConOk C.P f (ctr C.P ts rts W) ∧ ConMon (ctr C.P ts rts W) :=
  ⟨fun args k ha imm w vs hok hgl hargs => con_ofP hok hgl ts W [] [] args h .nil ha hargs, fun args k k' hk ha => appC_mono ts W args k k' hk ha⟩
end
end Go.Rx
namespace Go.Rx
open Go.Ab
set_option linter.unusedVariables false
def eR : Enc Bool := ⟨1, fun b => [.sem (ER b)], fun _ => rfl⟩
structure api_Prefix where
  fAddr : Int
  fLen : Int
  deriving DecidableEq, Inhabited
structure api_Hop where
  fPrefix : api_Prefix
  fNext : Int
  fPeer : Int
  fStale : Int
  deriving DecidableEq, Inhabited
structure api_Rule where
  fPrefix : api_Prefix
  fMin : Int
  fMax : Int
  fDeny : Bool
  fPref : Int
  deriving DecidableEq, Inhabited
structure api_PeerConf where
  fNum : Int
  fAS : Int
  fIn : List api_Rule
  fOut : List api_Rule
  deriving DecidableEq, Inhabited
structure api_Step where
  fKind : Int
  fA : Int
  fB : Int
  fData : List Int
  fPeer : api_PeerConf
  fPrefix : api_Prefix
  fNext : Int
  fKeep : Int
  deriving DecidableEq, Inhabited
structure row_reader where
  flist : List ByteArray
  fbad : Bool
  deriving DecidableEq, Inhabited
def api_Prefix.cells (x : api_Prefix) : List PV := [.sc (.int .u32 x.fAddr), .sc (.int .i64 x.fLen)]
def api_Prefix.enc : Enc api_Prefix := ⟨2, api_Prefix.cells, fun _ => rfl⟩
def api_Hop.cells (x : api_Hop) : List PV := [.sc (.int .u32 x.fPrefix.fAddr), .sc (.int .i64 x.fPrefix.fLen), .sc (.int .u32 x.fNext), .sc (.int .i64 x.fPeer), .sc (.int .i64 x.fStale)]
def api_Hop.enc : Enc api_Hop := ⟨5, api_Hop.cells, fun _ => rfl⟩
def api_Rule.cells (x : api_Rule) : List PV := [.sc (.int .u32 x.fPrefix.fAddr), .sc (.int .i64 x.fPrefix.fLen), .sc (.int .i64 x.fMin), .sc (.int .i64 x.fMax), .sc (.bool x.fDeny), .sc (.int .i64 x.fPref)]
def api_Rule.enc : Enc api_Rule := ⟨6, api_Rule.cells, fun _ => rfl⟩
def api_PeerConf.cells (x : api_PeerConf) : List PV := [.sc (.int .i64 x.fNum), .sc (.int .i64 x.fAS), .sem (SL api_Rule.enc x.fIn), .sem (SL api_Rule.enc x.fOut)]
def api_PeerConf.enc : Enc api_PeerConf := ⟨4, api_PeerConf.cells, fun _ => rfl⟩
def api_Step.cells (x : api_Step) : List PV := [.sc (.int .i64 x.fKind), .sc (.int .i64 x.fA), .sc (.int .i64 x.fB), .sem (SL (eI .u8) x.fData), .sc (.int .i64 x.fPeer.fNum), .sc (.int .i64 x.fPeer.fAS), .sem (SL api_Rule.enc x.fPeer.fIn), .sem (SL api_Rule.enc x.fPeer.fOut), .sc (.int .u32 x.fPrefix.fAddr), .sc (.int .i64 x.fPrefix.fLen), .sc (.int .u32 x.fNext), .sc (.int .u64 x.fKeep)]
def api_Step.enc : Enc api_Step := ⟨12, api_Step.cells, fun _ => rfl⟩
def row_reader.cells (x : row_reader) : List PV := [.sem (SL eS x.flist), .sc (.bool x.fbad)]
def row_reader.enc : Enc row_reader := ⟨2, row_reader.cells, fun _ => rfl⟩
def TD : Nat → Dat0 := fun t => match t with
  | 2 => ⟨Int, inferInstance⟩
  | 3 => ⟨Int, inferInstance⟩
  | 4 => ⟨Bool, inferInstance⟩
  | 5 => ⟨Int, inferInstance⟩
  | 9 => ⟨ByteArray, inferInstance⟩
  | 21 => ⟨Int, inferInstance⟩
  | 22 => ⟨List ByteArray, inferInstance⟩
  | 31 => ⟨Int, inferInstance⟩
  | 33 => ⟨api_Prefix, inferInstance⟩
  | 35 => ⟨api_Hop, inferInstance⟩
  | 40 => ⟨List api_Rule, inferInstance⟩
  | 42 => ⟨api_PeerConf, inferInstance⟩
  | 49 => ⟨List api_Step, inferInstance⟩
  | 52 => ⟨Int, inferInstance⟩
  | 58 => ⟨List Int, inferInstance⟩
  | 59 => ⟨Int, inferInstance⟩
  | 61 => ⟨api_Step, inferInstance⟩
  | 67 => ⟨Bool, inferInstance⟩
  | 82 => ⟨row_reader, inferInstance⟩
  | 85 => ⟨api_Rule, inferInstance⟩
  | 99 => ⟨List Int, inferInstance⟩
  | _ => ⟨Unit, inferInstance⟩
abbrev TA (t : Nat) : Type := (TD t).α
def TB : (t : Nat) → EncShp TA (TA t) := fun t => match t with
  | 2 => ⟨((eI .i64) : Enc (Int)), ({ lv := [.int .i64], toH := fun (x : Int) => (x, ()), ofH := fun h => h.1, eta := fun _ => rfl } : Shp TA (Int))⟩
  | 3 => ⟨((eI .i64) : Enc (Int)), ({ lv := [.int .i64], toH := fun (x : Int) => (x, ()), ofH := fun h => h.1, eta := fun _ => rfl } : Shp TA (Int))⟩
  | 4 => ⟨(eB : Enc (Bool)), ({ lv := [.bool], toH := fun (x : Bool) => (x, ()), ofH := fun h => h.1, eta := fun _ => rfl } : Shp TA (Bool))⟩
  | 5 => ⟨((eI .u8) : Enc (Int)), ({ lv := [.int .u8], toH := fun (x : Int) => (x, ()), ofH := fun h => h.1, eta := fun _ => rfl } : Shp TA (Int))⟩
  | 9 => ⟨(eS : Enc (ByteArray)), ({ lv := [.str], toH := fun (x : ByteArray) => (x, ()), ofH := fun h => h.1, eta := fun _ => rfl } : Shp TA (ByteArray))⟩
  | 21 => ⟨((eI .i32) : Enc (Int)), ({ lv := [.int .i32], toH := fun (x : Int) => (x, ()), ofH := fun h => h.1, eta := fun _ => rfl } : Shp TA (Int))⟩
  | 22 => ⟨((eL eS) : Enc (List ByteArray)), ({ lv := [.sl 9], toH := fun (x : List ByteArray) => (x, ()), ofH := fun h => h.1, eta := fun _ => rfl } : Shp TA (List ByteArray))⟩
  | 31 => ⟨((eI .u32) : Enc (Int)), ({ lv := [.int .u32], toH := fun (x : Int) => (x, ()), ofH := fun h => h.1, eta := fun _ => rfl } : Shp TA (Int))⟩
  | 33 => ⟨(api_Prefix.enc : Enc (api_Prefix)), ({ lv := [.int .u32, .int .i64], toH := fun (x : api_Prefix) => (x.fAddr, x.fLen, ()), ofH := fun h => ⟨h.1, h.2.1⟩, eta := fun _ => rfl } : Shp TA (api_Prefix))⟩
  | 35 => ⟨(api_Hop.enc : Enc (api_Hop)), ({ lv := [.int .u32, .int .i64, .int .u32, .int .i64, .int .i64], toH := fun (x : api_Hop) => (x.fPrefix.fAddr, x.fPrefix.fLen, x.fNext, x.fPeer, x.fStale, ()), ofH := fun h => ⟨⟨h.1, h.2.1⟩, h.2.2.1, h.2.2.2.1, h.2.2.2.2.1⟩, eta := fun _ => rfl } : Shp TA (api_Hop))⟩
  | 40 => ⟨((eL api_Rule.enc) : Enc (List api_Rule)), ({ lv := [.sl 85], toH := fun (x : List api_Rule) => (x, ()), ofH := fun h => h.1, eta := fun _ => rfl } : Shp TA (List api_Rule))⟩
  | 42 => ⟨(api_PeerConf.enc : Enc (api_PeerConf)), ({ lv := [.int .i64, .int .i64, .sl 85, .sl 85], toH := fun (x : api_PeerConf) => (x.fNum, x.fAS, x.fIn, x.fOut, ()), ofH := fun h => ⟨h.1, h.2.1, h.2.2.1, h.2.2.2.1⟩, eta := fun _ => rfl } : Shp TA (api_PeerConf))⟩
  | 49 => ⟨((eL api_Step.enc) : Enc (List api_Step)), ({ lv := [.sl 61], toH := fun (x : List api_Step) => (x, ()), ofH := fun h => h.1, eta := fun _ => rfl } : Shp TA (List api_Step))⟩
  | 52 => ⟨((eI .i64) : Enc (Int)), ({ lv := [.int .i64], toH := fun (x : Int) => (x, ()), ofH := fun h => h.1, eta := fun _ => rfl } : Shp TA (Int))⟩
  | 58 => ⟨((eL (eI .u8)) : Enc (List Int)), ({ lv := [.sl 5], toH := fun (x : List Int) => (x, ()), ofH := fun h => h.1, eta := fun _ => rfl } : Shp TA (List Int))⟩
  | 59 => ⟨((eI .u64) : Enc (Int)), ({ lv := [.int .u64], toH := fun (x : Int) => (x, ()), ofH := fun h => h.1, eta := fun _ => rfl } : Shp TA (Int))⟩
  | 61 => ⟨(api_Step.enc : Enc (api_Step)), ({ lv := [.int .i64, .int .i64, .int .i64, .sl 5, .int .i64, .int .i64, .sl 85, .sl 85, .int .u32, .int .i64, .int .u32, .int .u64], toH := fun (x : api_Step) => (x.fKind, x.fA, x.fB, x.fData, x.fPeer.fNum, x.fPeer.fAS, x.fPeer.fIn, x.fPeer.fOut, x.fPrefix.fAddr, x.fPrefix.fLen, x.fNext, x.fKeep, ()), ofH := fun h => ⟨h.1, h.2.1, h.2.2.1, h.2.2.2.1, ⟨h.2.2.2.2.1, h.2.2.2.2.2.1, h.2.2.2.2.2.2.1, h.2.2.2.2.2.2.2.1⟩, ⟨h.2.2.2.2.2.2.2.2.1, h.2.2.2.2.2.2.2.2.2.1⟩, h.2.2.2.2.2.2.2.2.2.2.1, h.2.2.2.2.2.2.2.2.2.2.2.1⟩, eta := fun _ => rfl } : Shp TA (api_Step))⟩
  | 67 => ⟨(eR : Enc (Bool)), ({ lv := [.er], toH := fun (x : Bool) => (x, ()), ofH := fun h => h.1, eta := fun _ => rfl } : Shp TA (Bool))⟩
  | 82 => ⟨(row_reader.enc : Enc (row_reader)), ({ lv := [.sl 9, .bool], toH := fun (x : row_reader) => (x.flist, x.fbad, ()), ofH := fun h => ⟨h.1, h.2.1⟩, eta := fun _ => rfl } : Shp TA (row_reader))⟩
  | 85 => ⟨(api_Rule.enc : Enc (api_Rule)), ({ lv := [.int .u32, .int .i64, .int .i64, .int .i64, .bool, .int .i64], toH := fun (x : api_Rule) => (x.fPrefix.fAddr, x.fPrefix.fLen, x.fMin, x.fMax, x.fDeny, x.fPref, ()), ofH := fun h => ⟨⟨h.1, h.2.1⟩, h.2.2.1, h.2.2.2.1, h.2.2.2.2.1, h.2.2.2.2.2.1⟩, eta := fun _ => rfl } : Shp TA (api_Rule))⟩
  | 99 => ⟨((eL (eI .i64)) : Enc (List Int)), ({ lv := [.sl 3], toH := fun (x : List Int) => (x, ()), ofH := fun h => h.1, eta := fun _ => rfl } : Shp TA (List Int))⟩
  | x => ⟨⟨0, fun _ => [], fun _ => rfl⟩, { lv := [], toH := fun _ => (), ofH := fun _ => (TD x).inh.default, eta := fun _ => rfl }⟩
def TE (t : Nat) : Enc (TA t) := (TB t).E
def TG {α : Type} (e : EncShp TA α) : Prop := ∀ x, e.E.pv x = pvsH TE e.shp.lv (e.shp.toH x)
theorem TL (t : Nat) : TG (TB t) := by
  unfold TB
  split <;> intro x <;> rfl
/-- What the laid variables of the library hold. -/
structure Laid (w : World) : Prop where
  tab : Lib.TabIs Proofs.Tryd.prog w "internal/strconv.uint64pow10" .u64 Lib.pow10Tab
  syn : ∃ t p, w.cell? ⟨1, 0, none⟩ = some (.iface t p)
  rng : ∃ t p, w.cell? ⟨2, 0, none⟩ = some (.iface t p)
theorem cell_ge {w w' : World} (h : ∀ b, b < w.heap.size → w'.heap[b]? = w.heap[b]?) {a : Addr} {v : Value} (hv : w.cell? a = some v) : w'.cell? a = some v := by
  have hb : a.block < w.heap.size := by
    unfold World.cell? at hv
    split at hv
    · rename_i c _ _ hc; exact (Array.getElem?_eq_some_iff.1 hc).1
    · cases hv
  unfold World.cell? at hv ⊢
  rw [h _ hb]; exact hv
theorem var_ge {P : Program} {w w' : World} (h : ∀ b, b < w.heap.size → w'.heap[b]? = w.heap[b]?) {n : String} {v : Array Value} (hv : w.var? P n = some v) : w'.var? P n = some v := by
  unfold World.var? at hv ⊢
  cases hg : P.globalNamed n with
  | none => rw [hg] at hv; cases hv
  | some g =>
    rw [hg] at hv
    simp only [Option.bind_some] at hv ⊢
    have hb : g < w.heap.size := by
      cases hq : w.heap[g]? with
      | none => rw [hq] at hv; cases hv
      | some o => exact (Array.getElem?_eq_some_iff.1 hq).1
    rw [h _ hb]; exact hv
theorem Laid.ge {w w' : World} (_ : w.heap.size ≤ w'.heap.size) (h : ∀ b, b < w.heap.size → w'.heap[b]? = w.heap[b]?) (hl : Laid w) : Laid w' :=
  ⟨var_ge h hl.tab, by obtain ⟨t, p, e⟩ := hl.syn; exact ⟨t, p, cell_ge h e⟩, by obtain ⟨t, p, e⟩ := hl.rng; exact ⟨t, p, cell_ge h e⟩⟩
def S : Sys := { A := TA, inh := fun t => (TD t).inh, E := TE, shp := fun t => (TB t).shp, law := TL, glob := [], gw := Laid, gwm := fun _ _ h1 h2 h3 => h3.ge h1 h2 }
end Go.Rx
namespace Go.Rx
noncomputable def P7 : Program := Proofs.Tryd.prog
theorem mx7 : P7.follows .mixedOrders = true := by kernel_rfl
end Go.Rx
namespace Go.L21
open Go.Rx Go.Ab
def bs (l : List UInt8) : ByteArray := ⟨l.toArray⟩
def P333 (n : Int) : Prop := -9223372036854775808 ≤ n ∧ n ≤ 9223372036854775807
def S333 (n : Int) : ByteArray := bs (Lib.itoa n)
def P356 (u b : Int) : Prop := b = 10 ∧ 0 ≤ u ∧ u < 18446744073709551616
def S356 (u b : Int) : ByteArray := bs (Lib.itoa u)
def endI : Lib.NumEnd Int → Int → Int × Bool
  | .ok v, _ => (v, false)
  | Lib.NumEnd.syntax, _ => (0, true)
  | .range, m => (m, true)
def endN : Lib.NumEnd Nat → Int → Int × Bool
  | .ok v, _ => (v, false)
  | Lib.NumEnd.syntax, _ => (0, true)
  | .range, m => (m, true)
def P337 (s : ByteArray) : Prop := s.size ≤ 281474976710656
def S337 (s : ByteArray) : Int × Bool := endI (Lib.atoiAll s.data.toList) (Lib.atoiSat s.data.toList)
def P357 (s : ByteArray) (b n : Int) : Prop := s.size ≤ 281474976710656 ∧ b = 10 ∧ (n = 32 ∨ n = 64)
def S357 (s : ByteArray) (b n : Int) : Int × Bool := endN (Lib.parseUintB n.toNat s.data.toList) (2 ^ n.toNat - 1)
def P365 (s t : ByteArray) : Prop := t.size = 1
def S365 (s t : ByteArray) : Int := Lib.indexByte s.data.toList (t.data.toList.headD 0)
/-- Texts as one. -/
def textL (s : ByteArray) : List UInt8 := Lib.itoa s.size ++ 58 :: s.data.toList
def textsL (l : List ByteArray) : List UInt8 := l.flatMap textL
def P314 (l : List ByteArray) : Prop := (textsL l).length ≤ 70368744177664
def S314 (l : List ByteArray) : ByteArray := bs (textsL l)
end Go.L21
namespace Go.L21
open Go.Rx Go.Ab
/-- A row's parts: the number of each ahead of it. -/
def valL (l : List UInt8) : Nat := l.foldl (fun n c => n * 10 + (c.toNat - 48)) 0
def split1 (l : List UInt8) : Option (List UInt8 × List UInt8) :=
  let sz := l.takeWhile (· != 58)
  let b := l.drop (sz.length + 1)
  bif decide (sz.length < l.length) && (sz == Lib.decDigits (valL sz)) && decide (valL sz ≤ b.length) then some (b.take (valL sz), b.drop (valL sz)) else none
def splitN : Nat → List UInt8 → Option (List (List UInt8))
  | 0, _ => some []
  | n + 1, l => if l.isEmpty then some [] else match split1 l with
    | none => none
    | some (x, r) => (splitN n r).map (x :: ·)
def splitL (l : List UInt8) : Option (List (List UInt8)) := splitN l.length l
def P315 (s : ByteArray) : Prop := s.size ≤ 1099511627776
def S315 (s : ByteArray) : List ByteArray × Bool := match splitL s.data.toList with
  | none => ([], false)
  | some l => (l.map bs, true)
def P316 (s : ByteArray) : Prop := P315 s
def S316 (s : ByteArray) : List ByteArray × Bool := S315 s
def P317 (l : List ByteArray) : Prop := P314 l
def S317 (l : List ByteArray) : ByteArray := S314 l
inductive DB (k : Nat) (u : Int) : Prop
  | mk (h0 : 0 ≤ u) (h1 : u < 18446744073709551616) (h2 : (Lib.decDigits u.toNat).length ≤ k) : DB k u
def P355 (u : Int) : Prop := DB 20 u
def S355 (u : Int) : ByteArray := bs (Lib.decDigits u.toNat)
def P338 (n : Int) : Prop := P333 n
def S338 (n : Int) : ByteArray := S333 n
def hopL (h : api_Hop) : List ByteArray := [S333 h.fPrefix.fAddr, S333 h.fPrefix.fLen, S333 h.fNext, S333 h.fPeer, S333 h.fStale]
def okHop (h : api_Hop) : Prop := (0 ≤ h.fPrefix.fAddr ∧ h.fPrefix.fAddr ≤ 4294967295) ∧ P333 h.fPrefix.fLen ∧ (0 ≤ h.fNext ∧ h.fNext ≤ 4294967295) ∧ P333 h.fPeer ∧ P333 h.fStale
def P339 (v : Int) : Prop := 0 ≤ v ∧ v ≤ 4294967295
def S339 (v : Int) : ByteArray := S333 v
def P340 (v : Int) : Prop := P333 v
def S340 (v : Int) : ByteArray := S333 v
def P319 (h : api_Hop) : Prop := okHop h
def P321 (h : api_Hop) : Prop := okHop h
def S319 (h : api_Hop) : ByteArray := S314 (hopL h)
def S321 (h : api_Hop) : ByteArray := S314 (hopL h)
def valI (s : ByteArray) : Int := (S337 s).1
def valU (s : ByteArray) : Int := (S357 s 10 32).1
def hopOf (l : List ByteArray) : api_Hop := ⟨⟨valU (l.getD 0 (bs [])), valI (l.getD 1 (bs []))⟩, valU (l.getD 2 (bs [])), valI (l.getD 3 (bs [])), valI (l.getD 4 (bs []))⟩
/-- What a hop's row is. -/
def P320 (s : ByteArray) : Prop := ∃ h, okHop h ∧ s = S319 h
def S320 (s : ByteArray) : api_Hop × Bool := (hopOf (S315 s).1, true)
def S318 (a b : List ByteArray) : Bool := decide (a = b)
def P312 (a : List ByteArray) : Prop := a.length ≤ 1152921504606846976 ∧ ∀ x ∈ a, x.size ≤ 1152921504606846976
def S312 (a : List ByteArray) : Bool := decide (a.length + (a.map (·.size)).sum < 10000)
def P318 (a b : List ByteArray) : Prop := a.length ≤ 1152921504606846976
def S313 : Bool := true
def P304 (h : api_Hop) : Prop := okHop h
def S304 (h : api_Hop) : Bool := true
def P303 (l : List ByteArray) (s : ByteArray) : Prop := P312 l
def S303 (l : List ByteArray) (s : ByteArray) : Bool := true
def b2 (b : Bool) : ByteArray := bif b then ⟨#[49]⟩ else ⟨#[48]⟩
def ruleL (r : api_Rule) : List ByteArray := [S333 r.fPrefix.fAddr, S333 r.fPrefix.fLen, S333 r.fMin, S333 r.fMax, b2 r.fDeny, S333 r.fPref]
def rulesL (l : List api_Rule) : List ByteArray := l.flatMap ruleL
def peerL (p : api_PeerConf) : List ByteArray := [S333 p.fNum, S333 p.fAS, S333 p.fIn.length] ++ rulesL p.fIn ++ rulesL p.fOut
def okRule (r : api_Rule) : Prop := (0 ≤ r.fPrefix.fAddr ∧ r.fPrefix.fAddr ≤ 4294967295) ∧ P333 r.fPrefix.fLen ∧ P333 r.fMin ∧ P333 r.fMax ∧ P333 r.fPref
def okPeer (p : api_PeerConf) : Prop := P333 p.fNum ∧ P333 p.fAS ∧ p.fIn.length ≤ 8000 ∧ p.fOut.length ≤ 8000 ∧ (∀ r ∈ p.fIn, okRule r) ∧ ∀ r ∈ p.fOut, okRule r
def P345 (l : List api_Rule) : Prop := l.length ≤ 8000 ∧ ∀ r ∈ l, okRule r
def S345 (l : List api_Rule) : List ByteArray := rulesL l
inductive OkP (p : api_PeerConf) : Prop
  | mk (h : okPeer p) : OkP p
def P322 (p : api_PeerConf) : Prop := OkP p
def S322 (p : api_PeerConf) : ByteArray := S314 (peerL p)
def P325 (p : api_PeerConf) : Prop := OkP p
def S325 (p : api_PeerConf) : ByteArray := S314 (peerL p)
def P323 (p q : api_PeerConf) : Prop := OkP p ∧ OkP q
def S323 (p q : api_PeerConf) : Bool := decide (p.fIn.length = q.fIn.length) && (S325 p).toList == (S325 q).toList
/-- The reader's steps. -/
def rText (r : row_reader) : ByteArray × row_reader := match r.flist with
  | [] => (bs [], ⟨[], true⟩)
  | s :: l => (s, ⟨l, r.fbad⟩)
def rNum (r : row_reader) : Int × row_reader := match rText r with
  | (s, q) => (valI s, ⟨q.flist, q.fbad || (S337 s).2⟩)
def rAddr (r : row_reader) : Int × row_reader := match rText r with
  | (s, q) => (valU s, ⟨q.flist, q.fbad || (S357 s 10 32).2⟩)
def rPre (r : row_reader) : api_Prefix × row_reader := match rAddr r with
  | (a, q) => match rNum q with
    | (n, q) => (⟨a, n⟩, q)
def rRule (r : row_reader) : api_Rule × row_reader := match rPre r with
  | (p, q) => match rNum q with
    | (a, q) => match rNum q with
      | (b, q) => match rText q with
        | (d, q) => match rNum q with
          | (c, q) => (⟨p, a, b, d.toList == [49], c⟩, q)
/-- The same, but it stays as it stands while nothing is known of the list. -/
def lk {α β : Type} (l : List β) (x : α) : α := match l with
  | [] => x
  | _ :: _ => x
theorem lk_eq {α β : Type} (l : List β) (x : α) : lk l x = x := by cases l <;> rfl
inductive PR (r : row_reader) : Prop
  | mk (h : ∀ s ∈ r.flist, s.size ≤ 1099511627776) : PR r
def S358 (r : row_reader) : ByteArray × row_reader := rText r
def P344 (r : row_reader) : Prop := PR r
def S344 (r : row_reader) : Int × row_reader := lk r.flist (rNum r)
def P343 (r : row_reader) : Prop := PR r
def S343 (r : row_reader) : Int × row_reader := lk r.flist (rAddr r)
def P342 (r : row_reader) : Prop := PR r
def S342 (r : row_reader) : api_Prefix × row_reader := lk r.flist (rPre r)
def P346 (r : row_reader) : Prop := PR r
def S346 (r : row_reader) : api_Rule × row_reader := lk r.flist (rRule r)
def inF : Nat → Int → row_reader → List api_Rule × row_reader
  | 0, _, r => ([], r)
  | k + 1, n, r => match decide (0 < n) && !r.fbad with
    | true => ((rRule r).1 :: (inF k (n - 1) (rRule r).2).1, (inF k (n - 1) (rRule r).2).2)
    | false => ([], r)
def outF : Nat → row_reader → List api_Rule × row_reader
  | 0, r => ([], r)
  | k + 1, r => match decide (6 ≤ r.flist.length) && !r.fbad with
    | true => ((rRule r).1 :: (outF k (rRule r).2).1, (outF k (rRule r).2).2)
    | false => ([], r)
def readPeer (r : row_reader) : api_PeerConf × row_reader :=
  match rNum r with
  | (a, q) => match rNum q with
    | (b, q) => match rNum q with
      | (n, q) => match inF (q.flist.length + 1) n q with
        | (i, q) => match outF (q.flist.length + 1) q with
          | (o, q) => (⟨a, b, i, o⟩, q)
inductive IsP (s : ByteArray) : Prop
  | mk (h : s.size ≤ 40000) : IsP s
def P324 (s : ByteArray) : Prop := IsP s
def rdPeer (s : ByteArray) : api_PeerConf × Bool := match readPeer ⟨(S315 s).1, !(S315 s).2⟩ with
  | (p, q) => bif q.fbad || !((S322 p).toList == s.toList) then (⟨0, 0, [], []⟩, false) else (p, true)
def S324 (s : ByteArray) : api_PeerConf × Bool := lk s.data.toList (rdPeer s)
inductive OkF (p : api_PeerConf) : Prop
  | mk (h1 : P333 p.fNum) (h2 : P333 p.fAS) (h3 : p.fIn.length ≤ 140737488355328) (h4 : p.fOut.length ≤ 140737488355328) (h5 : ∀ r ∈ p.fIn, okRule r) (h6 : ∀ r ∈ p.fOut, okRule r) : OkF p
def P306 (p : api_PeerConf) : Prop := OkF p
def S306 (p : api_PeerConf) : Bool := true
def P305 (a b : api_Hop) (p q : api_PeerConf) : Prop := okHop a ∧ okHop b ∧ OkF p ∧ OkF q
def S305 (a b : api_Hop) (p q : api_PeerConf) : Bool := true
end Go.L21
namespace Go.Proofs.YtadjcpiiagkdeaaDoor
open Go.Ab Go.Rx
set_option linter.unusedSimpArgs false
set_option linter.unusedVariables false
theorem rd9 : Reads Tryd.prog 9 eS.pv okS := reads_string Tryd.underlying9
theorem rd22 : Reads Tryd.prog 22 (eL eS).pv (okL okS) := reads_slice (E := eS) Tryd.underlying22 (by kernel_rfl) (of_decide_eq_true (by kernel_rfl)) (by decide) rd9
end Go.Proofs.YtadjcpiiagkdeaaDoor
namespace Go.Rx
open Go.Ab Go.L21 Go.Proofs Go.Proofs.YtadjcpiiagkdeaaDoor
theorem globN (imm : Imm) : GlobOk S imm := fun _ h => by cases h
theorem few_ok {l : List ByteArray} {s : ByteArray} (h : okL okS l) : P303 l s := ⟨by have := h.1; unfold maxIn at this; omega, fun x hx => by have := h.2 x hx; unfold okS maxIn at this; omega⟩
theorem starE : "*" ++ "errors.errorString" = "*errors.errorString" := by decide
theorem row135 (u : TypeId) (h : Tryd.prog.typeName? 3 u = some "*errors.errorString") : u = 135 :=
  typeName_ptr_named (nm := "errors.errorString") (by rw [starE]; kernel_rfl) (by kernel_rfl) (by decide) u (by rw [starE]; exact h)
theorem laidOf {W : World} (h : laidMetH Tryd.prog [("math/bits.deBruijn32tab", Rows.laid_math_bits_deBruijn32tab), ("math/bits.deBruijn64tab", Rows.laid_math_bits_deBruijn64tab), ("internal/strconv.uint64pow10", Rows.laid_internal_strconv_uint64pow10), ("strconv.ErrRange", Rows.laid_strconv_ErrRange), ("strconv.ErrSyntax", Rows.laid_strconv_ErrSyntax)] W) : Laid W := by
  rw [MakeChecks.laidMetH_plain _ _ _ (by kernel_rfl)] at h
  have h2 := h.tail.tail
  obtain ⟨a1, s1, hv1, _⟩ := laid_sentinel (g := 2) (ti := 67) (tp := 135) (te := 137) (ts := 9) h2.tail (by kernel_rfl) (by kernel_rfl) Tryd.underlying67 row135 Tryd.underlying135 Tryd.underlying137 rfl rfl Tryd.underlying9 (by kernel_rfl) (by kernel_rfl)
  obtain ⟨a2, s2, hv2, _⟩ := laid_sentinel (g := 1) (ti := 67) (tp := 135) (te := 137) (ts := 9) h2.tail.tail (by kernel_rfl) (by kernel_rfl) Tryd.underlying67 row135 Tryd.underlying135 Tryd.underlying137 rfl rfl Tryd.underlying9 (by kernel_rfl) (by kernel_rfl)
  refine ⟨?_, ⟨135, .pointer (some a2), ?_⟩, ⟨135, .pointer (some a1), ?_⟩⟩
  · exact Lib.tabIs_of_head (g := 3) (t := 129) (e := 59) (n := 20) (by kernel_rfl) (by kernel_rfl) Tryd.underlying129 Tryd.underlying59 (by kernel_rfl) (by kernel_rfl) h2
  · simpa using World.var?_cell (show Tryd.prog.globalNamed "strconv.ErrSyntax" = some 1 by kernel_rfl) hv2 0
  · simpa using World.var?_cell (show Tryd.prog.globalNamed "strconv.ErrRange" = some 2 by kernel_rfl) hv1 0
end Go.Rx
namespace Go.Rx
open Go.Ab
def api_Prefix.ok (x : api_Prefix) : Prop := okI .u32 x.fAddr ∧ okI .i64 x.fLen
def api_Hop.ok (x : api_Hop) : Prop := api_Prefix.ok x.fPrefix ∧ okI .u32 x.fNext ∧ okI .i64 x.fPeer ∧ okI .i64 x.fStale
def api_Rule.ok (x : api_Rule) : Prop := api_Prefix.ok x.fPrefix ∧ okI .i64 x.fMin ∧ okI .i64 x.fMax ∧ okB x.fDeny ∧ okI .i64 x.fPref
def api_PeerConf.ok (x : api_PeerConf) : Prop := okI .i64 x.fNum ∧ okI .i64 x.fAS ∧ okL api_Rule.ok x.fIn ∧ okL api_Rule.ok x.fOut
end Go.Rx
namespace Go.Proofs.YtadjcpiiagkdeaaDoor
open Go.Ab Go.Rx
set_option linter.unusedSimpArgs false
set_option linter.unusedVariables false
theorem rd31 : Reads Tryd.prog 31 (eI .u32).pv (okI .u32) := reads_int Tryd.underlying31
theorem rd3 : Reads Tryd.prog 3 (eI .i64).pv (okI .i64) := reads_int Tryd.underlying3
theorem cells31 : Program.cellsOf Tryd.prog 31 = 1 := by kernel_rfl
theorem cells3 : Program.cellsOf Tryd.prog 3 = 1 := by kernel_rfl
theorem cells33 : Program.cellsOf Tryd.prog 33 = 2 := by kernel_rfl
theorem rd33 : Reads Tryd.prog 33 api_Prefix.cells api_Prefix.ok := by
  intro H enc w fuel cs d p h hw
  obtain ⟨hl, n, hf⟩ := trod_struct Tryd.underlying33 h hw
  rw [cells33] at hl
  obtain ⟨d0, p0, t0, w0⟩ := hf 0 _ rfl
  obtain ⟨x0, r0, k0⟩ := rd31 H enc w n _ d0 p0 t0 w0
  change RepL noT (gh (immOf w)) _ (List.take (Program.cellsOf Tryd.prog 31) (List.drop 0 cs)) at r0
  rw [cells31] at r0
  obtain ⟨d1, p1, t1, w1⟩ := hf 1 _ rfl
  obtain ⟨x1, r1, k1⟩ := rd3 H enc w n _ d1 p1 t1 w1
  change RepL noT (gh (immOf w)) _ (List.take (Program.cellsOf Tryd.prog 3) (List.drop 1 cs)) at r1
  rw [cells3] at r1
  exact ⟨⟨x0, x1⟩, (repL_chain (o := 0) (n := 1) (m := 1) r0 (repL_chain (o := 1) (n := 1) (m := 2) r1 (repL_end hl) rfl) rfl), k0, k1⟩
theorem cells35 : Program.cellsOf Tryd.prog 35 = 5 := by kernel_rfl
theorem rd35 : Reads Tryd.prog 35 api_Hop.cells api_Hop.ok := by
  intro H enc w fuel cs d p h hw
  obtain ⟨hl, n, hf⟩ := trod_struct Tryd.underlying35 h hw
  rw [cells35] at hl
  obtain ⟨d0, p0, t0, w0⟩ := hf 0 _ rfl
  obtain ⟨x0, r0, k0⟩ := rd33 H enc w n _ d0 p0 t0 w0
  change RepL noT (gh (immOf w)) _ (List.take (Program.cellsOf Tryd.prog 33) (List.drop 0 cs)) at r0
  rw [cells33] at r0
  obtain ⟨d1, p1, t1, w1⟩ := hf 1 _ rfl
  obtain ⟨x1, r1, k1⟩ := rd31 H enc w n _ d1 p1 t1 w1
  change RepL noT (gh (immOf w)) _ (List.take (Program.cellsOf Tryd.prog 31) (List.drop 2 cs)) at r1
  rw [cells31] at r1
  obtain ⟨d2, p2, t2, w2⟩ := hf 2 _ rfl
  obtain ⟨x2, r2, k2⟩ := rd3 H enc w n _ d2 p2 t2 w2
  change RepL noT (gh (immOf w)) _ (List.take (Program.cellsOf Tryd.prog 3) (List.drop 3 cs)) at r2
  rw [cells3] at r2
  obtain ⟨d3, p3, t3, w3⟩ := hf 3 _ rfl
  obtain ⟨x3, r3, k3⟩ := rd3 H enc w n _ d3 p3 t3 w3
  change RepL noT (gh (immOf w)) _ (List.take (Program.cellsOf Tryd.prog 3) (List.drop 4 cs)) at r3
  rw [cells3] at r3
  exact ⟨⟨x0, x1, x2, x3⟩, (repL_chain (o := 0) (n := 2) (m := 2) r0 (repL_chain (o := 2) (n := 1) (m := 3) r1 (repL_chain (o := 3) (n := 1) (m := 4) r2 (repL_chain (o := 4) (n := 1) (m := 5) r3 (repL_end hl) rfl) rfl) rfl) rfl), k0, k1, k2, k3⟩
theorem rd4 : Reads Tryd.prog 4 eB.pv okB := reads_bool Tryd.underlying4
theorem cells4 : Program.cellsOf Tryd.prog 4 = 1 := by kernel_rfl
theorem cells85 : Program.cellsOf Tryd.prog 85 = 6 := by kernel_rfl
theorem rd85 : Reads Tryd.prog 85 api_Rule.cells api_Rule.ok := by
  intro H enc w fuel cs d p h hw
  obtain ⟨hl, n, hf⟩ := trod_struct Tryd.underlying85 h hw
  rw [cells85] at hl
  obtain ⟨d0, p0, t0, w0⟩ := hf 0 _ rfl
  obtain ⟨x0, r0, k0⟩ := rd33 H enc w n _ d0 p0 t0 w0
  change RepL noT (gh (immOf w)) _ (List.take (Program.cellsOf Tryd.prog 33) (List.drop 0 cs)) at r0
  rw [cells33] at r0
  obtain ⟨d1, p1, t1, w1⟩ := hf 1 _ rfl
  obtain ⟨x1, r1, k1⟩ := rd3 H enc w n _ d1 p1 t1 w1
  change RepL noT (gh (immOf w)) _ (List.take (Program.cellsOf Tryd.prog 3) (List.drop 2 cs)) at r1
  rw [cells3] at r1
  obtain ⟨d2, p2, t2, w2⟩ := hf 2 _ rfl
  obtain ⟨x2, r2, k2⟩ := rd3 H enc w n _ d2 p2 t2 w2
  change RepL noT (gh (immOf w)) _ (List.take (Program.cellsOf Tryd.prog 3) (List.drop 3 cs)) at r2
  rw [cells3] at r2
  obtain ⟨d3, p3, t3, w3⟩ := hf 3 _ rfl
  obtain ⟨x3, r3, k3⟩ := rd4 H enc w n _ d3 p3 t3 w3
  change RepL noT (gh (immOf w)) _ (List.take (Program.cellsOf Tryd.prog 4) (List.drop 4 cs)) at r3
  rw [cells4] at r3
  obtain ⟨d4, p4, t4, w4⟩ := hf 4 _ rfl
  obtain ⟨x4, r4, k4⟩ := rd3 H enc w n _ d4 p4 t4 w4
  change RepL noT (gh (immOf w)) _ (List.take (Program.cellsOf Tryd.prog 3) (List.drop 5 cs)) at r4
  rw [cells3] at r4
  exact ⟨⟨x0, x1, x2, x3, x4⟩, (repL_chain (o := 0) (n := 2) (m := 2) r0 (repL_chain (o := 2) (n := 1) (m := 3) r1 (repL_chain (o := 3) (n := 1) (m := 4) r2 (repL_chain (o := 4) (n := 1) (m := 5) r3 (repL_chain (o := 5) (n := 1) (m := 6) r4 (repL_end hl) rfl) rfl) rfl) rfl) rfl), k0, k1, k2, k3, k4⟩
theorem rd40 : Reads Tryd.prog 40 (eL api_Rule.enc).pv (okL api_Rule.ok) := reads_slice (E := api_Rule.enc) Tryd.underlying40 (by kernel_rfl) (of_decide_eq_true (by kernel_rfl)) (by decide) rd85
theorem cells40 : Program.cellsOf Tryd.prog 40 = 1 := by kernel_rfl
theorem cells42 : Program.cellsOf Tryd.prog 42 = 4 := by kernel_rfl
theorem rd42 : Reads Tryd.prog 42 api_PeerConf.cells api_PeerConf.ok := by
  intro H enc w fuel cs d p h hw
  obtain ⟨hl, n, hf⟩ := trod_struct Tryd.underlying42 h hw
  rw [cells42] at hl
  obtain ⟨d0, p0, t0, w0⟩ := hf 0 _ rfl
  obtain ⟨x0, r0, k0⟩ := rd3 H enc w n _ d0 p0 t0 w0
  change RepL noT (gh (immOf w)) _ (List.take (Program.cellsOf Tryd.prog 3) (List.drop 0 cs)) at r0
  rw [cells3] at r0
  obtain ⟨d1, p1, t1, w1⟩ := hf 1 _ rfl
  obtain ⟨x1, r1, k1⟩ := rd3 H enc w n _ d1 p1 t1 w1
  change RepL noT (gh (immOf w)) _ (List.take (Program.cellsOf Tryd.prog 3) (List.drop 1 cs)) at r1
  rw [cells3] at r1
  obtain ⟨d2, p2, t2, w2⟩ := hf 2 _ rfl
  obtain ⟨x2, r2, k2⟩ := rd40 H enc w n _ d2 p2 t2 w2
  change RepL noT (gh (immOf w)) _ (List.take (Program.cellsOf Tryd.prog 40) (List.drop 2 cs)) at r2
  rw [cells40] at r2
  obtain ⟨d3, p3, t3, w3⟩ := hf 3 _ rfl
  obtain ⟨x3, r3, k3⟩ := rd40 H enc w n _ d3 p3 t3 w3
  change RepL noT (gh (immOf w)) _ (List.take (Program.cellsOf Tryd.prog 40) (List.drop 3 cs)) at r3
  rw [cells40] at r3
  exact ⟨⟨x0, x1, x2, x3⟩, (repL_chain (o := 0) (n := 1) (m := 1) r0 (repL_chain (o := 1) (n := 1) (m := 2) r1 (repL_chain (o := 2) (n := 1) (m := 3) r2 (repL_chain (o := 3) (n := 1) (m := 4) r3 (repL_end hl) rfl) rfl) rfl) rfl), k0, k1, k2, k3⟩
end Go.Proofs.YtadjcpiiagkdeaaDoor
namespace Go.Rx
open Go.Ab Go.L21
theorem okU32 {n : Int} (h : okI .u32 n) : 0 ≤ n ∧ n ≤ 4294967295 := by
  unfold okI Lit.wf at h
  simp [IntKind.min, IntKind.max, IntKind.signed, IntKind.bits] at h
  omega
theorem okI64 {n : Int} (h : okI .i64 n) : P333 n := by
  unfold okI Lit.wf at h
  simp [IntKind.min, IntKind.max, IntKind.signed, IntKind.bits] at h
  unfold P333
  omega
theorem hop_ok {h : api_Hop} (o : api_Hop.ok h) : okHop h := ⟨okU32 o.1.1, okI64 o.1.2, okU32 o.2.1, okI64 o.2.2.1, okI64 o.2.2.2⟩
end Go.Rx
/-! What a peer's given bounds say. -/
namespace Go.Rx
open Go.Ab Go.L21
theorem rule_ok {r : api_Rule} (o : api_Rule.ok r) : okRule r := ⟨okU32 o.1.1, okI64 o.1.2, okI64 o.2.1, okI64 o.2.2.1, okI64 o.2.2.2.2⟩
theorem peer_ok {p : api_PeerConf} (o : api_PeerConf.ok p) : OkF p :=
  ⟨okI64 o.1, okI64 o.2.1, Nat.le_trans o.2.2.1.1 (by decide), Nat.le_trans o.2.2.2.1 (by decide), fun r h => rule_ok (o.2.2.1.2 r h), fun r h => rule_ok (o.2.2.2.2 r h)⟩
end Go.Rx
/-! What the functions of steps as text compute. -/
set_option linter.unusedVariables false
namespace Go.L21
open Go.Rx Go.Ab
def hexDg (d : Nat) : UInt8 := if d < 10 then UInt8.ofNat (48 + d) else UInt8.ofNat (87 + d)
def hexL (l : List UInt8) : List UInt8 := l.flatMap fun c => [hexDg (c.toNat / 16), hexDg (c.toNat % 16)]
def P331 (s : ByteArray) : Prop := s.size ≤ 1099511627776
def S331 (s : ByteArray) : ByteArray := bs (hexL s.data.toList)
def P359 (s : ByteArray) : Prop := s.size ≤ 1099511627776
def S359 (s : ByteArray) : ByteArray := bs (120 :: hexL s.data.toList)
def P349 (u : Int) : Prop := DB 20 u
def S349 (u : Int) : ByteArray := bs (Lib.decDigits u.toNat)
def joinS (l : List ByteArray) (s : ByteArray) : List UInt8 := Lib.join (l.map (·.data.toList)) s.data.toList
def P360 (l : List ByteArray) (s : ByteArray) : Prop := l.length ≤ 140737488355328 ∧ (joinS l s).length ≤ 140737488355328
def S360 (l : List ByteArray) (s : ByteArray) : ByteArray := bs (joinS l s)
def P361 (s t : ByteArray) : Prop := s.size < 4294967281 ∧ t.size = 1
def S361 (s t : ByteArray) : List ByteArray := Lib.splitB t 0 (Lib.countB s t) s
/-- A hex digit's value, as the library takes it: a letter's bit 32 is set. -/
def hexD (c : UInt8) : Option Nat := if 48 ≤ c.toNat ∧ c.toNat ≤ 57 then some (c.toNat - 48) else if 97 ≤ (c.toNat ||| 32) ∧ (c.toNat ||| 32) ≤ 102 then some ((c.toNat ||| 32) - 87) else none
def hexM : Nat → List UInt8 → Option Nat
  | acc, [] => some acc
  | acc, c :: r => match hexD c with
    | some d => hexM (acc * 16 + d) r
    | none => none
def endH : Option Nat → Int × Bool
  | some v => (v, false)
  | none => (0, true)
def P457 (s : ByteArray) (b n : Int) : Prop := s.size = 2 ∧ b = 16 ∧ n = 8
def S457 (s : ByteArray) (b n : Int) : Int × Bool := lk s.data.toList (endH (hexM 0 s.data.toList))
def unhex : List UInt8 → Option (List UInt8)
  | a :: b :: r => (match hexM 0 [a, b] with
    | some v => (match unhex r with
      | some t => some (UInt8.ofNat v :: t)
      | none => none)
    | none => none)
  | _ => some []
def hexText : List UInt8 → ByteArray × Bool
  | [] => (bs [], false)
  | c :: r => bif c == 120 && decide (r.length % 2 = 0) then (match unhex r with
    | some l => (bs l, true)
    | none => (bs [], false)) else (bs [], false)
def P362 (s : ByteArray) : Prop := s.size ≤ 1099511627776
def S362 (s : ByteArray) : ByteArray × Bool := lk s.data.toList (hexText s.data.toList)
/-- A step's line. -/
def fieldsS (s : api_Step) : List ByteArray := [S333 s.fKind, S333 s.fA, S333 s.fB, S356 s.fKeep 10, S356 s.fPrefix.fAddr 10, S333 s.fPrefix.fLen, S356 s.fNext 10, S359 (bsOf s.fData), S359 (S322 s.fPeer)]
def sp : ByteArray := ⟨#[32]⟩
def lineL (s : api_Step) : List UInt8 := joinS (fieldsS s) sp ++ [10]
structure okStep (s : api_Step) : Prop where
  k : P333 s.fKind
  a : P333 s.fA
  b : P333 s.fB
  keep : 0 ≤ s.fKeep ∧ s.fKeep < 18446744073709551616
  addr : 0 ≤ s.fPrefix.fAddr ∧ s.fPrefix.fAddr ≤ 4294967295
  len : P333 s.fPrefix.fLen
  next : 0 ≤ s.fNext ∧ s.fNext ≤ 4294967295
  data : s.fData.length ≤ 100000 ∧ ∀ c ∈ s.fData, 0 ≤ c ∧ c ≤ 255
  peer : okPeer s.fPeer
def P347 (s : api_Step) : Prop := okStep s
def S347 (s : api_Step) : ByteArray := bs (lineL s)
def linesL (l : List api_Step) : List UInt8 := l.flatMap lineL
structure okSteps (l : List api_Step) : Prop where
  ok : ∀ s ∈ l, okStep s
  len : (linesL l).length ≤ 4000000
def P328 (l : List api_Step) : Prop := okSteps l
def S328 (l : List api_Step) : ByteArray := bs (linesL l)
def P330 (l : List api_Step) : Prop := okSteps l
def S330 (l : List api_Step) : ByteArray := bs (linesL l)
/-- A step out of a line. -/
def stepOf (l : List ByteArray) : api_Step :=
  ⟨valI (l.getD 0 (bs [])), valI (l.getD 1 (bs [])), valI (l.getD 2 (bs [])), (S362 (l.getD 7 (bs []))).1.data.toList.map (fun c => (c.toNat : Int)), (S324 (S362 (l.getD 8 (bs []))).1).1, ⟨(S357 (l.getD 4 (bs [])) 10 32).1, valI (l.getD 5 (bs []))⟩, (S357 (l.getD 6 (bs [])) 10 32).1, (S357 (l.getD 3 (bs [])) 10 64).1⟩
def stepOk (l : List ByteArray) : Bool :=
  !(S337 (l.getD 0 (bs []))).2 && !(S337 (l.getD 1 (bs []))).2 && !(S337 (l.getD 2 (bs []))).2 && !(S337 (l.getD 5 (bs []))).2 && !(S357 (l.getD 3 (bs [])) 10 64).2 && !(S357 (l.getD 4 (bs [])) 10 32).2 && !(S357 (l.getD 6 (bs [])) 10 32).2 && (S362 (l.getD 7 (bs []))).2 && (S362 (l.getD 8 (bs []))).2 && (S324 (S362 (l.getD 8 (bs []))).1).2
def zeroStep : api_Step := ⟨0, 0, 0, [], ⟨0, 0, [], []⟩, ⟨0, 0⟩, 0, 0⟩
def readStep (s : ByteArray) : api_Step × Bool := bif decide ((S361 s sp).length = 9) then (stepOf (S361 s sp), stepOk (S361 s sp) && lineL (stepOf (S361 s sp)) == s.data.toList ++ [10]) else (zeroStep, false)
structure okLine (s : ByteArray) : Prop where
  h : s.size ≤ 70000
def P348 (s : ByteArray) : Prop := okLine s
def S348 (s : ByteArray) : api_Step × Bool := lk s.data.toList (readStep s)
/-- Steps out of a text. -/
def readF : Nat → Int → List UInt8 → List api_Step → List api_Step × Int × Int
  | 0, n, l, out => (out, 0, 0)
  | k + 1, n, l, out => match l with
    | [] => (out, 0, 0)
    | _ :: _ => bif (S348 (bs (l.takeWhile (· != 10)))).2 && decide ((l.takeWhile (· != 10)).length < l.length) then readF k (n + 1) (l.drop ((l.takeWhile (· != 10)).length + 1)) (out ++ [(S348 (bs (l.takeWhile (· != 10)))).1]) else ([], n, 7)
def P329 (s : ByteArray) : Prop := okLine s
def S329 (s : ByteArray) : List api_Step × Int × Int := lk s.data.toList (readF s.data.toList.length 1 s.data.toList [])
/-- Not too large? -/
def weight (s : api_Step) : Nat := s.fData.length + 50 * (s.fPeer.fIn.length + s.fPeer.fOut.length)
def weights (l : List api_Step) : Nat := l.length + (l.map weight).sum
structure okSmall (l : List api_Step) : Prop where
  len : l.length ≤ 281474976710656
  each : ∀ s ∈ l, s.fData.length ≤ 281474976710656 ∧ s.fPeer.fIn.length ≤ 281474976710656 ∧ s.fPeer.fOut.length ≤ 281474976710656
def P326 (l : List api_Step) : Prop := okSmall l
def S326 (l : List api_Step) : Bool := decide (weights l < 3000) && decide (l.length < 60)
def S327 : Bool := true
structure okVals (s : api_Step) : Prop where
  k : P333 s.fKind
  a : P333 s.fA
  b : P333 s.fB
  keep : 0 ≤ s.fKeep ∧ s.fKeep < 18446744073709551616
  addr : 0 ≤ s.fPrefix.fAddr ∧ s.fPrefix.fAddr ≤ 4294967295
  len : P333 s.fPrefix.fLen
  next : 0 ≤ s.fNext ∧ s.fNext ≤ 4294967295
  data : ∀ c ∈ s.fData, 0 ≤ c ∧ c ≤ 255
  num : P333 s.fPeer.fNum
  asn : P333 s.fPeer.fAS
  inn : ∀ r ∈ s.fPeer.fIn, okRule r
  out : ∀ r ∈ s.fPeer.fOut, okRule r
structure okIn (l : List api_Step) : Prop where
  vals : ∀ s ∈ l, okVals s
  small : okSmall l
structure okIn2 (l : List api_Step) (a b : Int) : Prop where
  l : okIn l
  a : 0 ≤ a ∧ a ≤ 255
  b : 0 ≤ b ∧ b ≤ 255
structure okTx (s : ByteArray) : Prop where
  h : s.size ≤ 281474976710656
def P307 (l : List api_Step) : Prop := okIn l
def S307 (l : List api_Step) : Bool := true
def P308 (s : ByteArray) : Prop := okTx s
def S308 (s : ByteArray) : Bool := true
def P309 (l : List api_Step) (a b : Int) : Prop := okIn2 l a b
def S309 (l : List api_Step) (a b : Int) : Bool := true
def P310 (l : List api_Step) : Prop := okIn l
def S310 (l : List api_Step) : Bool := true
def P311 (s : api_Step) : Prop := okIn [s]
def S311 (s : api_Step) : Bool := true
end Go.L21
namespace Go.Rx
open Go.Ab
def api_Step.ok (x : api_Step) : Prop := okI .i64 x.fKind ∧ okI .i64 x.fA ∧ okI .i64 x.fB ∧ okL (okI .u8) x.fData ∧ api_PeerConf.ok x.fPeer ∧ api_Prefix.ok x.fPrefix ∧ okI .u32 x.fNext ∧ okI .u64 x.fKeep
end Go.Rx
namespace Go.Proofs.YtadjcpiiagkdeaaDoor
open Go.Ab Go.Rx
set_option linter.unusedSimpArgs false
set_option linter.unusedVariables false
theorem rd5 : Reads Tryd.prog 5 (eI .u8).pv (okI .u8) := reads_int Tryd.underlying5
theorem rd58 : Reads Tryd.prog 58 (eL (eI .u8)).pv (okL (okI .u8)) := reads_slice (E := (eI .u8)) Tryd.underlying58 (by kernel_rfl) (of_decide_eq_true (by kernel_rfl)) (by decide) rd5
theorem rd59 : Reads Tryd.prog 59 (eI .u64).pv (okI .u64) := reads_int Tryd.underlying59
theorem cells58 : Program.cellsOf Tryd.prog 58 = 1 := by kernel_rfl
theorem cells59 : Program.cellsOf Tryd.prog 59 = 1 := by kernel_rfl
theorem cells61 : Program.cellsOf Tryd.prog 61 = 12 := by kernel_rfl
theorem rd61 : Reads Tryd.prog 61 api_Step.cells api_Step.ok := by
  intro H enc w fuel cs d p h hw
  obtain ⟨hl, n, hf⟩ := trod_struct Tryd.underlying61 h hw
  rw [cells61] at hl
  obtain ⟨d0, p0, t0, w0⟩ := hf 0 _ rfl
  obtain ⟨x0, r0, k0⟩ := rd3 H enc w n _ d0 p0 t0 w0
  change RepL noT (gh (immOf w)) _ (List.take (Program.cellsOf Tryd.prog 3) (List.drop 0 cs)) at r0
  rw [cells3] at r0
  obtain ⟨d1, p1, t1, w1⟩ := hf 1 _ rfl
  obtain ⟨x1, r1, k1⟩ := rd3 H enc w n _ d1 p1 t1 w1
  change RepL noT (gh (immOf w)) _ (List.take (Program.cellsOf Tryd.prog 3) (List.drop 1 cs)) at r1
  rw [cells3] at r1
  obtain ⟨d2, p2, t2, w2⟩ := hf 2 _ rfl
  obtain ⟨x2, r2, k2⟩ := rd3 H enc w n _ d2 p2 t2 w2
  change RepL noT (gh (immOf w)) _ (List.take (Program.cellsOf Tryd.prog 3) (List.drop 2 cs)) at r2
  rw [cells3] at r2
  obtain ⟨d3, p3, t3, w3⟩ := hf 3 _ rfl
  obtain ⟨x3, r3, k3⟩ := rd58 H enc w n _ d3 p3 t3 w3
  change RepL noT (gh (immOf w)) _ (List.take (Program.cellsOf Tryd.prog 58) (List.drop 3 cs)) at r3
  rw [cells58] at r3
  obtain ⟨d4, p4, t4, w4⟩ := hf 4 _ rfl
  obtain ⟨x4, r4, k4⟩ := rd42 H enc w n _ d4 p4 t4 w4
  change RepL noT (gh (immOf w)) _ (List.take (Program.cellsOf Tryd.prog 42) (List.drop 4 cs)) at r4
  rw [cells42] at r4
  obtain ⟨d5, p5, t5, w5⟩ := hf 5 _ rfl
  obtain ⟨x5, r5, k5⟩ := rd33 H enc w n _ d5 p5 t5 w5
  change RepL noT (gh (immOf w)) _ (List.take (Program.cellsOf Tryd.prog 33) (List.drop 8 cs)) at r5
  rw [cells33] at r5
  obtain ⟨d6, p6, t6, w6⟩ := hf 6 _ rfl
  obtain ⟨x6, r6, k6⟩ := rd31 H enc w n _ d6 p6 t6 w6
  change RepL noT (gh (immOf w)) _ (List.take (Program.cellsOf Tryd.prog 31) (List.drop 10 cs)) at r6
  rw [cells31] at r6
  obtain ⟨d7, p7, t7, w7⟩ := hf 7 _ rfl
  obtain ⟨x7, r7, k7⟩ := rd59 H enc w n _ d7 p7 t7 w7
  change RepL noT (gh (immOf w)) _ (List.take (Program.cellsOf Tryd.prog 59) (List.drop 11 cs)) at r7
  rw [cells59] at r7
  exact ⟨⟨x0, x1, x2, x3, x4, x5, x6, x7⟩, (repL_chain (o := 0) (n := 1) (m := 1) r0 (repL_chain (o := 1) (n := 1) (m := 2) r1 (repL_chain (o := 2) (n := 1) (m := 3) r2 (repL_chain (o := 3) (n := 1) (m := 4) r3 (repL_chain (o := 4) (n := 4) (m := 8) r4 (repL_chain (o := 8) (n := 2) (m := 10) r5 (repL_chain (o := 10) (n := 1) (m := 11) r6 (repL_chain (o := 11) (n := 1) (m := 12) r7 (repL_end hl) rfl) rfl) rfl) rfl) rfl) rfl) rfl) rfl), k0, k1, k2, k3, k4, k5, k6, k7⟩
theorem rd49 : Reads Tryd.prog 49 (eL api_Step.enc).pv (okL api_Step.ok) := reads_slice (E := api_Step.enc) Tryd.underlying49 (by kernel_rfl) (of_decide_eq_true (by kernel_rfl)) (by decide) rd61
end Go.Proofs.YtadjcpiiagkdeaaDoor
namespace Go.Rx
open Go.Ab Go.L21 Go.Proofs Go.Proofs.YtadjcpiiagkdeaaDoor
theorem okU8 {n : Int} (h : okI .u8 n) : 0 ≤ n ∧ n ≤ 255 := by
  unfold okI Lit.wf at h
  simp [IntKind.min, IntKind.max, IntKind.signed, IntKind.bits] at h
  omega
theorem okU64 {n : Int} (h : okI .u64 n) : 0 ≤ n ∧ n < 18446744073709551616 := by
  unfold okI Lit.wf at h
  simp [IntKind.min, IntKind.max, IntKind.signed, IntKind.bits] at h
  omega
theorem vals_ok {s : api_Step} (o : api_Step.ok s) : okVals s ∧ s.fData.length ≤ 281474976710656 ∧ s.fPeer.fIn.length ≤ 281474976710656 ∧ s.fPeer.fOut.length ≤ 281474976710656 := by
  obtain ⟨o1, o2, o3, o4, o5, o6, o7, o8⟩ := o
  have p := peer_ok o5
  obtain ⟨p1, p2, p3, p4, p5, p6⟩ := p
  exact ⟨{ k := okI64 o1, a := okI64 o2, b := okI64 o3, keep := okU64 o8, addr := okU32 o6.1, len := okI64 o6.2, next := okU32 o7, data := fun c hc => okU8 (o4.2 c hc), num := p1, asn := p2, inn := p5, out := p6 }, Nat.le_trans o4.1 (by decide), Nat.le_trans p3 (by decide), Nat.le_trans p4 (by decide)⟩
theorem steps_ok {l : List api_Step} (h : okL api_Step.ok l) : okIn l :=
  ⟨fun s hs => (vals_ok (h.2 s hs)).1, ⟨Nat.le_trans h.1 (by decide), fun s hs => (vals_ok (h.2 s hs)).2⟩⟩
theorem step_ok1 {s : api_Step} (h : api_Step.ok s) : okIn [s] :=
  ⟨fun x hx => by rw [List.mem_singleton.1 hx]; exact (vals_ok h).1, ⟨by simp, fun x hx => by rw [List.mem_singleton.1 hx]; exact (vals_ok h).2⟩⟩
theorem text_ok {s : ByteArray} (h : okS s) : okTx s := ⟨Nat.le_trans h (by decide)⟩
theorem laidOf24 {W : World} (h : laidMetH Tryd.prog (Rows.scriptBackRow.laid) W) : Laid W := by
  rw [MakeChecks.laidMetH_plain _ _ _ (by kernel_rfl)] at h
  have h2 := h.tail.tail
  have h3 := h2.tail
  obtain ⟨a1, s1, hv1, _⟩ := laid_sentinel (g := 2) (ti := 67) (tp := 135) (te := 137) (ts := 9) h3.tail (by kernel_rfl) (by kernel_rfl) Tryd.underlying67 row135 Tryd.underlying135 Tryd.underlying137 rfl rfl Tryd.underlying9 (by kernel_rfl) (by kernel_rfl)
  obtain ⟨a2, s2, hv2, _⟩ := laid_sentinel (g := 1) (ti := 67) (tp := 135) (te := 137) (ts := 9) h3.tail.tail (by kernel_rfl) (by kernel_rfl) Tryd.underlying67 row135 Tryd.underlying135 Tryd.underlying137 rfl rfl Tryd.underlying9 (by kernel_rfl) (by kernel_rfl)
  refine ⟨?_, ⟨135, .pointer (some a2), ?_⟩, ⟨135, .pointer (some a1), ?_⟩⟩
  · exact Lib.tabIs_of_head (g := 3) (t := 129) (e := 59) (n := 20) (by kernel_rfl) (by kernel_rfl) Tryd.underlying129 Tryd.underlying59 (by kernel_rfl) (by kernel_rfl) h2
  · simpa using World.var?_cell (show Tryd.prog.globalNamed "strconv.ErrSyntax" = some 1 by kernel_rfl) hv2 0
  · simpa using World.var?_cell (show Tryd.prog.globalNamed "strconv.ErrRange" = some 2 by kernel_rfl) hv1 0
end Go.Rx
/-! Numbers and texts, with no program in sight. -/
namespace Go.L21
open Go.Rx Go.Ab Go
set_option linter.unusedVariables false
def Digs (l : List UInt8) : Prop := ∀ c ∈ l, 48 ≤ c.toNat ∧ c.toNat ≤ 57
def valF (acc : Nat) (l : List UInt8) : Nat := l.foldl (fun n c => n * 10 + (c.toNat - 48)) acc
theorem toNat_dig {d : Nat} (h : d < 10) : (UInt8.ofNat (48 + d)).toNat = 48 + d := by
  rw [UInt8.toNat_ofNat']; omega
theorem digs_dec (u : Nat) : Digs (Lib.decDigits u) := by
  induction u using Nat.strongRecOn with
  | _ u ih =>
    rw [Lib.decDigits]
    split
    · intro c hc
      have hc := List.mem_singleton.1 hc
      rw [hc, toNat_dig (by omega)]; omega
    · intro c hc
      rcases List.mem_append.1 hc with hc | hc
      · exact ih (u / 10) (by omega) c hc
      · have hc := List.mem_singleton.1 hc
        rw [hc, toNat_dig (by omega)]; omega
theorem val_dec (u : Nat) : valF 0 (Lib.decDigits u) = u := by
  induction u using Nat.strongRecOn with
  | _ u ih =>
    rw [Lib.decDigits]
    split
    · show 0 * 10 + ((UInt8.ofNat (48 + u)).toNat - 48) = u
      rw [toNat_dig (by omega)]; omega
    · unfold valF
      rw [List.foldl_append]
      have := ih (u / 10) (by omega)
      unfold valF at this
      rw [this]
      show u / 10 * 10 + ((UInt8.ofNat (48 + u % 10)).toNat - 48) = u
      rw [toNat_dig (by omega)]; omega
theorem dec_ne (u : Nat) : Lib.decDigits u ≠ [] := by
  rw [Lib.decDigits]; split <;> simp
theorem valF_ge (l : List UInt8) (acc : Nat) : acc ≤ valF acc l := by
  induction l generalizing acc with
  | nil => exact Nat.le_refl _
  | cons c r ih => exact Nat.le_trans (by omega) (ih (acc * 10 + (c.toNat - 48)))
theorem parseM {M : Nat} (hM : M < 18446744073709551616) {l : List UInt8} (hd : Digs l) {acc : Nat} (h : valF acc l ≤ M) : Lib.parseUintM M acc l = .ok (valF acc l) := by
  induction l generalizing acc with
  | nil => rfl
  | cons c r ih =>
    have hc := hd c List.mem_cons_self
    have hg := valF_ge r (acc * 10 + (c.toNat - 48))
    have h : valF (acc * 10 + (c.toNat - 48)) r ≤ M := h
    rw [Lib.parseUintM, if_pos hc, if_neg (by omega), if_neg (by omega)]
    exact ih (fun x hx => hd x (List.mem_cons_of_mem _ hx)) h
theorem parse10 {l : List UInt8} (hd : Digs l) {acc : Nat} (h : valF acc l < 18446744073709551616) : Lib.parseUint10 acc l = .ok (valF acc l) := by
  induction l generalizing acc with
  | nil => rfl
  | cons c r ih =>
    have hc := hd c List.mem_cons_self
    have hg := valF_ge r (acc * 10 + (c.toNat - 48))
    have h : valF (acc * 10 + (c.toNat - 48)) r < 18446744073709551616 := h
    rw [Lib.parseUint10, if_pos hc, if_neg (by omega), if_neg (by omega)]
    exact ih (fun x hx => hd x (List.mem_cons_of_mem _ hx)) h
theorem uint_dec (B : Nat) (hB : B ≤ 64) (u : Nat) (h : u < 2 ^ B) : Lib.parseUintB B (Lib.decDigits u) = .ok u := by
  have h2 : 2 ^ B ≤ 2 ^ 64 := Nat.pow_le_pow_right (by omega) hB
  have h3 : (2 : Nat) ^ 64 = 18446744073709551616 := by decide
  rw [Lib.parseUintB, if_neg (dec_ne u)]
  have := parseM (M := 2 ^ B - 1) (by omega) (digs_dec u) (acc := 0) (by rw [val_dec]; omega)
  rw [val_dec] at this
  exact this
theorem mag_dec (u : Nat) (h : u < 18446744073709551616) : Lib.parseMag (Lib.decDigits u) = .ok u := by
  rw [Lib.parseMag, if_neg (dec_ne u)]
  have := parse10 (digs_dec u) (acc := 0) (by rw [val_dec]; omega)
  rw [val_dec] at this
  exact this
theorem atoi_dec (u : Nat) (h : u < 9223372036854775808) : Lib.atoiAll (Lib.decDigits u) = .ok u := by
  have hm := mag_dec u (by omega)
  have hd := digs_dec u
  have hn := dec_ne u
  revert hm hd hn
  generalize Lib.decDigits u = l
  intro hm hd hn
  match l, hn with
  | c :: r, _ =>
    have hc := hd c List.mem_cons_self
    have h43 : ¬ c.toNat = 43 := by omega
    have h45 : ¬ c.toNat = 45 := by omega
    have h1 : ¬ (9223372036854775808 ≤ u) := by omega
    simp only [Lib.atoiAll, h43, hm, h45, h1, or_self, not_false_eq_true, true_and, false_and, if_false]
theorem atoi_itoa (n : Int) (h : P333 n) : Lib.atoiAll (Lib.itoa n) = .ok n := by
  by_cases hn : n < 0
  · obtain ⟨u, rfl⟩ : ∃ u : Nat, n = -(u : Int) := ⟨n.natAbs, by omega⟩
    have h0 := h.1
    rw [Lib.itoa_neg u (by omega)]
    have hm := mag_dec u (by omega)
    have h1 : ¬ (9223372036854775808 < u) := by omega
    have e45 : (45 : UInt8).toNat = 45 := rfl
    simp only [Lib.atoiAll, e45, or_true, if_true, hm, h1, not_true_eq_false, false_and, and_false, if_false]
  · obtain ⟨u, rfl⟩ : ∃ u : Nat, n = (u : Int) := ⟨n.toNat, by omega⟩
    have h1 := h.2
    rw [Lib.itoa_nonneg]
    exact atoi_dec u (by omega)
theorem take58 {l r : List UInt8} (h : ∀ c ∈ l, c ≠ 58) : (l ++ 58 :: r).takeWhile (· != 58) = l := by
  induction l with
  | nil => rfl
  | cons c t ih =>
    have hc : (c != 58) = true := by simpa using h c List.mem_cons_self
    rw [List.cons_append, List.takeWhile_cons, hc]
    simp only [if_true]
    rw [ih fun x hx => h x (List.mem_cons_of_mem _ hx)]
theorem digs58 {l : List UInt8} (h : Digs l) : ∀ c ∈ l, c ≠ 58 := fun c hc e => by
  have := h c hc
  rw [e] at this
  exact absurd this (by decide)
theorem split1_text (s : ByteArray) (r : List UInt8) : split1 (textL s ++ r) = some (s.data.toList, r) := by
  have e : textL s ++ r = Lib.decDigits s.size ++ 58 :: (s.data.toList ++ r) := by
    rw [textL, Lib.itoa_nonneg]; simp
  have ht : (textL s ++ r).takeWhile (· != 58) = Lib.decDigits s.size := by
    rw [e]; exact take58 (digs58 (digs_dec _))
  have hv : valL (Lib.decDigits s.size) = s.size := val_dec _
  have hb : (textL s ++ r).drop ((Lib.decDigits s.size).length + 1) = s.data.toList ++ r := by
    rw [e, List.drop_append]; simp
  have hl : s.data.toList.length = s.size := (Lib.size_eq s).symm
  unfold split1
  simp only [ht, hv, hb]
  have h1 : (Lib.decDigits s.size).length < (textL s ++ r).length := by rw [e]; simp
  have h2 : s.size ≤ (s.data.toList ++ r).length := by rw [List.length_append, hl]; omega
  simp only [h1, h2, decide_true, beq_self_eq_true, Bool.and_true, cond_true]
  rw [← hl, List.take_left, List.drop_left]
theorem split1_lt {l x r : List UInt8} (h : split1 l = some (x, r)) : r.length < l.length := by
  by_cases hl : l = []
  · subst hl; cases h
  · have : 0 < l.length := List.length_pos_iff.2 hl
    unfold split1 at h
    simp only [] at h
    revert h
    generalize (decide ((l.takeWhile (· != 58)).length < l.length) && (l.takeWhile (· != 58) == Lib.decDigits (valL (l.takeWhile (· != 58)))) && decide (valL (l.takeWhile (· != 58)) ≤ (l.drop ((l.takeWhile (· != 58)).length + 1)).length)) = b
    intro h
    cases b
    · cases h
    · simp only [cond_true, Option.some.injEq, Prod.mk.injEq] at h
      rw [← h.2]
      simp only [List.length_drop]
      omega
theorem splitN_ge (n m : Nat) (l : List UInt8) (hn : l.length ≤ n) (hm : l.length ≤ m) : splitN n l = splitN m l := by
  induction n generalizing m l with
  | zero =>
    have : l = [] := List.length_eq_zero_iff.1 (by omega)
    subst this
    cases m <;> rfl
  | succ n ih =>
    cases m with
    | zero =>
      have : l = [] := List.length_eq_zero_iff.1 (by omega)
      subst this; rfl
    | succ m =>
      unfold splitN
      cases hs : split1 l with
      | none => rfl
      | some p =>
        obtain ⟨x, r⟩ := p
        have := split1_lt hs
        simp only []
        rw [ih m r (by omega) (by omega)]
theorem splitL_eq (l : List UInt8) : splitL l = if l.isEmpty then some [] else match split1 l with
    | none => none
    | some (x, r) => (splitL r).map (x :: ·) := by
  unfold splitL
  cases hl : l with
  | nil => rfl
  | cons c t =>
    show splitN (t.length + 1) (c :: t) = _
    rw [splitN]
    cases hs : split1 (c :: t) with
    | none => rfl
    | some p =>
      obtain ⟨x, r⟩ := p
      have := split1_lt hs
      simp only [List.length_cons] at this
      simp only []
      rw [splitN_ge t.length r.length r (by omega) (by omega)]
theorem splitL_nil : splitL [] = some [] := rfl
theorem splitL_none {l : List UInt8} (hl : l ≠ []) (h : split1 l = none) : splitL l = none := by
  rw [splitL_eq, h]
  cases l with
  | nil => exact absurd rfl hl
  | cons c t => rfl
theorem splitL_some {l x r : List UInt8} (h : split1 l = some (x, r)) : splitL l = (splitL r).map (x :: ·) := by
  rw [splitL_eq, h]
  cases l with
  | nil => cases h
  | cons c t => rfl
theorem splitL_texts (l : List ByteArray) : splitL (textsL l) = some (l.map (·.data.toList)) := by
  induction l with
  | nil => rfl
  | cons s r ih =>
    show splitL (textL s ++ textsL r) = _
    rw [splitL_some (split1_text s _), ih]
    rfl
theorem bs_data (s : ByteArray) : bs s.data.toList = s := rfl
theorem data_bs (l : List UInt8) : (bs l).data.toList = l := rfl
theorem size_bs (l : List UInt8) : (bs l).size = l.length := List.size_toArray
theorem split_texts (l : List ByteArray) : S315 (S314 l) = (l, true) := by
  unfold S315 S314
  rw [data_bs, splitL_texts]
  simp only [List.map_map]
  have : bs ∘ (fun x : ByteArray => x.data.toList) = id := rfl
  rw [this, List.map_id]
end Go.L21
/-
  DERIVED: THE SHELF's CONTRACTS AT THIS DUMP, IN PLAIN WORDS (tools/lay-plain.mjs out of 'SlrsD.lean', which tools/lay-shelf.mjs wrote): THE SAME DECLARATIONS UNDER THE SAME NAMES: 'import', 'namespace', 'open', 'def', 'theorem' AND NOTHING ELSE: no command of the shelf's: FOR A HAND-IN. Each laying: the table of numbers ('.._ren') and one theorem, a field a fact of the dump's own or the kernel's comparison; each contract: ONE APPLICATION.
-/
namespace Go.Proofs
open Go.Shelf
def Tryd.lays169_ren : Go.Shelf.Ren := ⟨fun | 169 => 35 | n => n, fun | 70 => 63 | 9 => 9 | 0 => 0 | 72 => 65 | 37 => 58 | 127 => 91 | 3 => 3 | 5 => 5 | n => n, fun | n => n⟩
theorem Tryd.lays169 : Go.Proofs.Lays.n169 Tryd.prog Tryd.lays169_ren := {
  mixed := by kernel_rfl
  f169 := Tryd.func35.trans (congrArg some (by kernel_rfl))
  t0 := Tryd.underlying0
  a0 := Tryd.isAgg0
  z0 := Tryd.sizeOf0
  v0 := Tryd.zeroValue0
  t3 := Tryd.underlying3
  a3 := Tryd.isAgg3
  z3 := Tryd.sizeOf3
  v3 := Tryd.zeroValue3
  t9 := Tryd.underlying9
  a9 := Tryd.isAgg9
  z9 := Tryd.sizeOf9
  v9 := Tryd.zeroValue9
  t37 := Tryd.underlying58
  a37 := Tryd.isAgg58
  z37 := Tryd.sizeOf58
  v37 := Tryd.zeroValue58
  t70 := Tryd.underlying63
  a70 := Tryd.isAgg63
  z70 := Tryd.sizeOf63
  v70 := Tryd.zeroValue63
  t72 := Tryd.underlying65
  a72 := Tryd.isAgg65
  z72 := Tryd.sizeOf65
  v72 := Tryd.zeroValue65
  t127 := Tryd.underlying91
  a127 := Tryd.isAgg91
  z127 := Tryd.sizeOf91
  v127 := Tryd.zeroValue91 }
theorem Tryd.Builder_Extra_169 : Builder.Extra Tryd.prog Tryd.lays169_ren := {
  sizeBuilder := by kernel_rfl
  liesBuilder := by kernel_rfl
  t5 := Tryd.underlying5
  a5 := Tryd.isAgg5
  z5 := Tryd.sizeOf5
  v5 := Tryd.zeroValue5
  infoByte := by kernel_rfl
  cellsByte := by kernel_rfl
  sizeByte := by kernel_rfl
  neB5 := by decide }
def Tryd.lays283_ren : Go.Shelf.Ren := ⟨fun | 283 => 76 | n => n, fun | 3 => 3 | 9 => 9 | 4 => 4 | n => n, fun | n => n⟩
theorem Tryd.lays283 : Go.Proofs.Lays.n283 Tryd.prog Tryd.lays283_ren := {
  mixed := by kernel_rfl
  f283 := Tryd.func76.trans (congrArg some (by kernel_rfl))
  t3 := Tryd.underlying3
  a3 := Tryd.isAgg3
  z3 := Tryd.sizeOf3
  v3 := Tryd.zeroValue3
  t4 := Tryd.underlying4
  a4 := Tryd.isAgg4
  z4 := Tryd.sizeOf4
  v4 := Tryd.zeroValue4
  t9 := Tryd.underlying9
  a9 := Tryd.isAgg9
  z9 := Tryd.sizeOf9
  v9 := Tryd.zeroValue9 }
def Tryd.laysM284_ren : Go.Shelf.Ren := ⟨fun | 284 => 77 | 129 => 94 | 317 => 93 | 318 => 95 | n => n, fun | 53 => 59 | 3 => 3 | 212 => 129 | 0 => 0 | 4 => 4 | 46 => 112 | 5 => 5 | 9 => 9 | n => n, fun | 17 => 3 | n => n⟩
theorem Tryd.laysM284 : Go.Proofs.LaysM.n284 Tryd.prog Tryd.laysM284_ren := {
  mixed := by kernel_rfl
  f129 := Tryd.func94.trans (congrArg some (by kernel_rfl))
  f284 := Tryd.func77.trans (congrArg some (by kernel_rfl))
  f317 := Tryd.func93.trans (congrArg some (by kernel_rfl))
  f318 := Tryd.func95.trans (congrArg some (by kernel_rfl))
  t0 := Tryd.underlying0
  a0 := Tryd.isAgg0
  z0 := Tryd.sizeOf0
  v0 := Tryd.zeroValue0
  t3 := Tryd.underlying3
  a3 := Tryd.isAgg3
  z3 := Tryd.sizeOf3
  v3 := Tryd.zeroValue3
  t4 := Tryd.underlying4
  a4 := Tryd.isAgg4
  z4 := Tryd.sizeOf4
  v4 := Tryd.zeroValue4
  t5 := Tryd.underlying5
  a5 := Tryd.isAgg5
  z5 := Tryd.sizeOf5
  v5 := Tryd.zeroValue5
  t9 := Tryd.underlying9
  a9 := Tryd.isAgg9
  z9 := Tryd.sizeOf9
  v9 := Tryd.zeroValue9
  t46 := Tryd.underlying112
  a46 := Tryd.isAgg112
  z46 := Tryd.sizeOf112
  v46 := Tryd.zeroValue112
  t53 := Tryd.underlying59
  a53 := Tryd.isAgg59
  z53 := Tryd.sizeOf59
  v53 := Tryd.zeroValue59
  t212 := Tryd.underlying129
  a212 := Tryd.isAgg129
  z212 := Tryd.sizeOf129
  v212 := Tryd.zeroValue129
  g17 := by kernel_rfl
  i0 := by kernel_rfl
  i3 := by kernel_rfl
  i4 := by kernel_rfl
  i5 := by kernel_rfl
  i9 := by kernel_rfl
  i46 := by kernel_rfl
  i53 := by kernel_rfl
  i212 := by kernel_rfl
  m17 := by kernel_rfl }
def Tryd.lays285_ren : Go.Shelf.Ren := ⟨fun | 285 => 78 | n => n, fun | 37 => 58 | 53 => 59 | 3 => 3 | 4 => 4 | 51 => 31 | 9 => 9 | 5 => 5 | 0 => 0 | n => n, fun | n => n⟩
theorem Tryd.lays285 : Go.Proofs.Lays.n285 Tryd.prog Tryd.lays285_ren := {
  mixed := by kernel_rfl
  f285 := Tryd.func78.trans (congrArg some (by kernel_rfl))
  t0 := Tryd.underlying0
  a0 := Tryd.isAgg0
  z0 := Tryd.sizeOf0
  v0 := Tryd.zeroValue0
  t3 := Tryd.underlying3
  a3 := Tryd.isAgg3
  z3 := Tryd.sizeOf3
  v3 := Tryd.zeroValue3
  t4 := Tryd.underlying4
  a4 := Tryd.isAgg4
  z4 := Tryd.sizeOf4
  v4 := Tryd.zeroValue4
  t5 := Tryd.underlying5
  a5 := Tryd.isAgg5
  z5 := Tryd.sizeOf5
  v5 := Tryd.zeroValue5
  t9 := Tryd.underlying9
  a9 := Tryd.isAgg9
  z9 := Tryd.sizeOf9
  v9 := Tryd.zeroValue9
  t37 := Tryd.underlying58
  a37 := Tryd.isAgg58
  z37 := Tryd.sizeOf58
  v37 := Tryd.zeroValue58
  t51 := Tryd.underlying31
  a51 := Tryd.isAgg31
  z51 := Tryd.sizeOf31
  v51 := Tryd.zeroValue31
  t53 := Tryd.underlying59
  a53 := Tryd.isAgg59
  z53 := Tryd.sizeOf59
  v53 := Tryd.zeroValue59 }
def Tryd.laysM171_ren : Go.Shelf.Ren := ⟨fun | 171 => 33 | 243 => 51 | 246 => 64 | 283 => 76 | 284 => 77 | 285 => 78 | 286 => 79 | 129 => 94 | 317 => 93 | 318 => 95 | 319 => 96 | 320 => 97 | 337 => 105 | 338 => 106 | n => n, fun | 3 => 3 | 9 => 9 | 2 => 2 | 4 => 4 | 171 => 116 | 0 => 0 | 53 => 59 | 37 => 58 | 5 => 5 | 173 => 119 | 212 => 129 | 51 => 31 | 20 => 20 | 213 => 130 | 46 => 112 | 232 => 144 | 233 => 145 | n => n, fun | 17 => 3 | 18 => 4 | 19 => 5 | n => n⟩
theorem Tryd.laysM171 : Go.Proofs.LaysM.n171 Tryd.prog Tryd.laysM171_ren := {
  mixed := by kernel_rfl
  f129 := Tryd.func94.trans (congrArg some (by kernel_rfl))
  f171 := Tryd.func33.trans (congrArg some (by kernel_rfl))
  f243 := Tryd.func51.trans (congrArg some (by kernel_rfl))
  f246 := Tryd.func64.trans (congrArg some (by kernel_rfl))
  f283 := Tryd.func76.trans (congrArg some (by kernel_rfl))
  f284 := Tryd.func77.trans (congrArg some (by kernel_rfl))
  f285 := Tryd.func78.trans (congrArg some (by kernel_rfl))
  f286 := Tryd.func79.trans (congrArg some (by kernel_rfl))
  f317 := Tryd.func93.trans (congrArg some (by kernel_rfl))
  f318 := Tryd.func95.trans (congrArg some (by kernel_rfl))
  f319 := Tryd.func96.trans (congrArg some (by kernel_rfl))
  f320 := Tryd.func97.trans (congrArg some (by kernel_rfl))
  f337 := Tryd.func105.trans (congrArg some (by kernel_rfl))
  f338 := Tryd.func106.trans (congrArg some (by kernel_rfl))
  t0 := Tryd.underlying0
  a0 := Tryd.isAgg0
  z0 := Tryd.sizeOf0
  v0 := Tryd.zeroValue0
  t2 := Tryd.underlying2
  a2 := Tryd.isAgg2
  z2 := Tryd.sizeOf2
  v2 := Tryd.zeroValue2
  t3 := Tryd.underlying3
  a3 := Tryd.isAgg3
  z3 := Tryd.sizeOf3
  v3 := Tryd.zeroValue3
  t4 := Tryd.underlying4
  a4 := Tryd.isAgg4
  z4 := Tryd.sizeOf4
  v4 := Tryd.zeroValue4
  t5 := Tryd.underlying5
  a5 := Tryd.isAgg5
  z5 := Tryd.sizeOf5
  v5 := Tryd.zeroValue5
  t9 := Tryd.underlying9
  a9 := Tryd.isAgg9
  z9 := Tryd.sizeOf9
  v9 := Tryd.zeroValue9
  t20 := Tryd.underlying20
  a20 := Tryd.isAgg20
  z20 := Tryd.sizeOf20
  v20 := Tryd.zeroValue20
  t37 := Tryd.underlying58
  a37 := Tryd.isAgg58
  z37 := Tryd.sizeOf58
  v37 := Tryd.zeroValue58
  t46 := Tryd.underlying112
  a46 := Tryd.isAgg112
  z46 := Tryd.sizeOf112
  v46 := Tryd.zeroValue112
  t51 := Tryd.underlying31
  a51 := Tryd.isAgg31
  z51 := Tryd.sizeOf31
  v51 := Tryd.zeroValue31
  t53 := Tryd.underlying59
  a53 := Tryd.isAgg59
  z53 := Tryd.sizeOf59
  v53 := Tryd.zeroValue59
  t171 := Tryd.underlying116
  a171 := Tryd.isAgg116
  z171 := Tryd.sizeOf116
  v171 := Tryd.zeroValue116
  t173 := Tryd.underlying119
  a173 := Tryd.isAgg119
  z173 := Tryd.sizeOf119
  v173 := Tryd.zeroValue119
  t212 := Tryd.underlying129
  a212 := Tryd.isAgg129
  z212 := Tryd.sizeOf129
  v212 := Tryd.zeroValue129
  t213 := Tryd.underlying130
  a213 := Tryd.isAgg130
  z213 := Tryd.sizeOf130
  t232 := Tryd.underlying144
  a232 := Tryd.isAgg144
  z232 := Tryd.sizeOf144
  v232 := Tryd.zeroValue144
  t233 := Tryd.underlying145
  a233 := Tryd.isAgg145
  z233 := Tryd.sizeOf145
  v233 := Tryd.zeroValue145
  g17 := by kernel_rfl
  g18 := by kernel_rfl
  g19 := by kernel_rfl
  i0 := by kernel_rfl
  i2 := by kernel_rfl
  i3 := by kernel_rfl
  i4 := by kernel_rfl
  i5 := by kernel_rfl
  i9 := by kernel_rfl
  i20 := by kernel_rfl
  i37 := by kernel_rfl
  i46 := by kernel_rfl
  i51 := by kernel_rfl
  i53 := by kernel_rfl
  i171 := by kernel_rfl
  i173 := by kernel_rfl
  i212 := by kernel_rfl
  i232 := by kernel_rfl
  i233 := by kernel_rfl
  m17 := by kernel_rfl
  m18 := by kernel_rfl
  m19 := by kernel_rfl }
def Tryd.laysC172_ren : Go.Shelf.Ren := ⟨fun | 172 => 37 | 244 => 53 | 245 => 54 | 247 => 66 | 279 => 67 | 280 => 68 | 281 => 69 | 282 => 70 | 287 => 72 | 316 => 84 | 171 => 33 | 205 => 85 | 321 => 86 | 322 => 87 | 243 => 51 | 246 => 64 | 283 => 76 | 284 => 77 | 285 => 78 | 286 => 79 | 129 => 94 | 317 => 93 | 318 => 95 | 319 => 96 | 320 => 97 | 337 => 105 | 338 => 106 | n => n, fun | 9 => 9 | 3 => 3 | 75 => 67 | 76 => 68 | 4 => 4 | 5 => 5 | 167 => 106 | 37 => 58 | 0 => 0 | 85 => 107 | 2 => 2 | 168 => 109 | 53 => 59 | 175 => 94 | 46 => 112 | 210 => 124 | 127 => 91 | 145 => 137 | 143 => 135 | 21 => 21 | 171 => 116 | 173 => 119 | 212 => 129 | 51 => 31 | 20 => 20 | 213 => 130 | 232 => 144 | 233 => 145 | 80 => 72 | n => n, fun | 15 => 1 | 16 => 2 | 17 => 3 | 18 => 4 | 19 => 5 | n => n⟩
theorem Tryd.laysC172 : Go.Proofs.LaysC.n172 Tryd.prog Tryd.laysC172_ren := {
  mixed := by kernel_rfl
  f129 := Tryd.func94.trans (congrArg some (by kernel_rfl))
  f171 := Tryd.func33.trans (congrArg some (by kernel_rfl))
  f172 := Tryd.func37.trans (congrArg some (by kernel_rfl))
  f205 := Tryd.func85.trans (congrArg some (by kernel_rfl))
  f243 := Tryd.func51.trans (congrArg some (by kernel_rfl))
  f244 := Tryd.func53.trans (congrArg some (by kernel_rfl))
  f245 := Tryd.func54.trans (congrArg some (by kernel_rfl))
  f246 := Tryd.func64.trans (congrArg some (by kernel_rfl))
  f247 := Tryd.func66.trans (congrArg some (by kernel_rfl))
  f279 := Tryd.func67.trans (congrArg some (by kernel_rfl))
  f280 := Tryd.func68.trans (congrArg some (by kernel_rfl))
  f281 := Tryd.func69.trans (congrArg some (by kernel_rfl))
  f282 := Tryd.func70.trans (congrArg some (by kernel_rfl))
  f283 := Tryd.func76.trans (congrArg some (by kernel_rfl))
  f284 := Tryd.func77.trans (congrArg some (by kernel_rfl))
  f285 := Tryd.func78.trans (congrArg some (by kernel_rfl))
  f286 := Tryd.func79.trans (congrArg some (by kernel_rfl))
  f287 := Tryd.func72.trans (congrArg some (by kernel_rfl))
  f316 := Tryd.func84.trans (congrArg some (by kernel_rfl))
  f317 := Tryd.func93.trans (congrArg some (by kernel_rfl))
  f318 := Tryd.func95.trans (congrArg some (by kernel_rfl))
  f319 := Tryd.func96.trans (congrArg some (by kernel_rfl))
  f320 := Tryd.func97.trans (congrArg some (by kernel_rfl))
  f321 := Tryd.func86.trans (congrArg some (by kernel_rfl))
  f322 := Tryd.func87.trans (congrArg some (by kernel_rfl))
  f337 := Tryd.func105.trans (congrArg some (by kernel_rfl))
  f338 := Tryd.func106.trans (congrArg some (by kernel_rfl))
  t0 := Tryd.underlying0
  a0 := Tryd.isAgg0
  z0 := Tryd.sizeOf0
  v0 := Tryd.zeroValue0
  t2 := Tryd.underlying2
  a2 := Tryd.isAgg2
  z2 := Tryd.sizeOf2
  v2 := Tryd.zeroValue2
  t3 := Tryd.underlying3
  a3 := Tryd.isAgg3
  z3 := Tryd.sizeOf3
  v3 := Tryd.zeroValue3
  t4 := Tryd.underlying4
  a4 := Tryd.isAgg4
  z4 := Tryd.sizeOf4
  v4 := Tryd.zeroValue4
  t5 := Tryd.underlying5
  a5 := Tryd.isAgg5
  z5 := Tryd.sizeOf5
  v5 := Tryd.zeroValue5
  t9 := Tryd.underlying9
  a9 := Tryd.isAgg9
  z9 := Tryd.sizeOf9
  v9 := Tryd.zeroValue9
  t20 := Tryd.underlying20
  a20 := Tryd.isAgg20
  z20 := Tryd.sizeOf20
  v20 := Tryd.zeroValue20
  t21 := Tryd.underlying21
  a21 := Tryd.isAgg21
  z21 := Tryd.sizeOf21
  v21 := Tryd.zeroValue21
  t37 := Tryd.underlying58
  a37 := Tryd.isAgg58
  z37 := Tryd.sizeOf58
  v37 := Tryd.zeroValue58
  t46 := Tryd.underlying112
  a46 := Tryd.isAgg112
  z46 := Tryd.sizeOf112
  v46 := Tryd.zeroValue112
  t51 := Tryd.underlying31
  a51 := Tryd.isAgg31
  z51 := Tryd.sizeOf31
  v51 := Tryd.zeroValue31
  t53 := Tryd.underlying59
  a53 := Tryd.isAgg59
  z53 := Tryd.sizeOf59
  v53 := Tryd.zeroValue59
  t75 := Tryd.underlying67
  a75 := Tryd.isAgg67
  z75 := Tryd.sizeOf67
  v75 := Tryd.zeroValue67
  t76 := Tryd.underlying68
  a76 := Tryd.isAgg68
  z76 := Tryd.sizeOf68
  v76 := Tryd.zeroValue68
  t85 := Tryd.underlying107
  a85 := Tryd.isAgg107
  z85 := Tryd.sizeOf107
  v85 := Tryd.zeroValue107
  t127 := Tryd.underlying91
  a127 := Tryd.isAgg91
  z127 := Tryd.sizeOf91
  v127 := Tryd.zeroValue91
  t143 := Tryd.underlying135
  a143 := Tryd.isAgg135
  z143 := Tryd.sizeOf135
  v143 := Tryd.zeroValue135
  t145 := Tryd.underlying137
  a145 := Tryd.isAgg137
  z145 := Tryd.sizeOf137
  v145 := Tryd.zeroValue137
  t167 := Tryd.underlying106
  a167 := Tryd.isAgg106
  z167 := Tryd.sizeOf106
  v167 := Tryd.zeroValue106
  t168 := Tryd.underlying109
  a168 := Tryd.isAgg109
  z168 := Tryd.sizeOf109
  v168 := Tryd.zeroValue109
  t171 := Tryd.underlying116
  a171 := Tryd.isAgg116
  z171 := Tryd.sizeOf116
  v171 := Tryd.zeroValue116
  t173 := Tryd.underlying119
  a173 := Tryd.isAgg119
  z173 := Tryd.sizeOf119
  v173 := Tryd.zeroValue119
  t175 := Tryd.underlying94
  a175 := Tryd.isAgg94
  z175 := Tryd.sizeOf94
  v175 := Tryd.zeroValue94
  t210 := Tryd.underlying124
  a210 := Tryd.isAgg124
  z210 := Tryd.sizeOf124
  v210 := Tryd.zeroValue124
  t212 := Tryd.underlying129
  a212 := Tryd.isAgg129
  z212 := Tryd.sizeOf129
  v212 := Tryd.zeroValue129
  t213 := Tryd.underlying130
  a213 := Tryd.isAgg130
  z213 := Tryd.sizeOf130
  t232 := Tryd.underlying144
  a232 := Tryd.isAgg144
  z232 := Tryd.sizeOf144
  v232 := Tryd.zeroValue144
  t233 := Tryd.underlying145
  a233 := Tryd.isAgg145
  z233 := Tryd.sizeOf145
  v233 := Tryd.zeroValue145
  g15 := by kernel_rfl
  g16 := by kernel_rfl
  g17 := by kernel_rfl
  g18 := by kernel_rfl
  g19 := by kernel_rfl
  t80 := Tryd.underlying72
  a80 := Tryd.isAgg72
  z80 := Tryd.sizeOf72
  v80 := Tryd.zeroValue72
  i0 := by kernel_rfl
  i2 := by kernel_rfl
  i3 := by kernel_rfl
  i4 := by kernel_rfl
  i5 := by kernel_rfl
  i9 := by kernel_rfl
  i20 := by kernel_rfl
  i21 := by kernel_rfl
  i37 := by kernel_rfl
  i46 := by kernel_rfl
  i51 := by kernel_rfl
  i53 := by kernel_rfl
  i75 := by kernel_rfl
  i76 := by kernel_rfl
  i80 := by kernel_rfl
  i85 := by kernel_rfl
  i127 := by kernel_rfl
  i143 := by kernel_rfl
  i145 := by kernel_rfl
  i167 := by kernel_rfl
  i168 := by kernel_rfl
  i171 := by kernel_rfl
  i173 := by kernel_rfl
  i175 := by kernel_rfl
  i210 := by kernel_rfl
  i212 := by kernel_rfl
  i232 := by kernel_rfl
  i233 := by kernel_rfl
  m15 := by kernel_rfl
  m16 := by kernel_rfl
  m17 := by kernel_rfl
  m18 := by kernel_rfl
  m19 := by kernel_rfl
  c0 := by kernel_rfl
  c2 := by kernel_rfl
  c3 := by kernel_rfl
  c4 := by kernel_rfl
  c5 := by kernel_rfl
  c9 := by kernel_rfl
  c20 := by kernel_rfl
  c21 := by kernel_rfl
  c37 := by kernel_rfl
  c46 := by kernel_rfl
  c51 := by kernel_rfl
  c53 := by kernel_rfl
  c75 := by kernel_rfl
  c76 := by kernel_rfl
  c80 := by kernel_rfl
  c85 := by kernel_rfl
  c127 := by kernel_rfl
  c143 := by kernel_rfl
  c145 := by kernel_rfl
  c167 := by kernel_rfl
  c168 := by kernel_rfl
  c171 := by kernel_rfl
  c173 := by kernel_rfl
  c175 := by kernel_rfl
  c210 := by kernel_rfl
  c212 := by kernel_rfl
  c213 := by kernel_rfl
  c232 := by kernel_rfl
  c233 := by kernel_rfl }
def Tryd.laysPu14_ren : Go.Shelf.Ren := ⟨fun | 14 => 57 | 16 => 72 | 17 => 54 | 19 => 86 | 20 => 87 | 21 => 67 | 22 => 68 | 23 => 69 | 24 => 70 | 25 => 84 | 27 => 33 | 26 => 85 | 28 => 51 | 29 => 64 | 30 => 76 | 31 => 77 | 32 => 78 | 33 => 79 | 35 => 94 | 34 => 93 | 36 => 95 | 37 => 96 | 38 => 97 | 39 => 105 | 40 => 106 | n => n, fun | 9 => 9 | 3 => 3 | 22 => 59 | 24 => 67 | 25 => 94 | 4 => 4 | 34 => 106 | 5 => 5 | 36 => 112 | 37 => 58 | 0 => 0 | 39 => 109 | 21 => 21 | 44 => 124 | 47 => 91 | 50 => 137 | 48 => 135 | 2 => 2 | 52 => 116 | 55 => 119 | 59 => 129 | 60 => 31 | 20 => 20 | 61 => 130 | 65 => 144 | 66 => 145 | 67 => 72 | n => n, fun | 0 => 1 | 1 => 2 | 2 => 3 | 3 => 4 | 4 => 5 | n => n⟩
theorem Tryd.laysPu14 : Go.Proofs.LaysPu.n14 Tryd.prog Tryd.laysPu14_ren := {
  mixed := by kernel_rfl
  f14 := Tryd.func57.trans (congrArg some (by kernel_rfl))
  f16 := Tryd.func72.trans (congrArg some (by kernel_rfl))
  f17 := Tryd.func54.trans (congrArg some (by kernel_rfl))
  f19 := Tryd.func86.trans (congrArg some (by kernel_rfl))
  f20 := Tryd.func87.trans (congrArg some (by kernel_rfl))
  f21 := Tryd.func67.trans (congrArg some (by kernel_rfl))
  f22 := Tryd.func68.trans (congrArg some (by kernel_rfl))
  f23 := Tryd.func69.trans (congrArg some (by kernel_rfl))
  f24 := Tryd.func70.trans (congrArg some (by kernel_rfl))
  f25 := Tryd.func84.trans (congrArg some (by kernel_rfl))
  f26 := Tryd.func85.trans (congrArg some (by kernel_rfl))
  f27 := Tryd.func33.trans (congrArg some (by kernel_rfl))
  f28 := Tryd.func51.trans (congrArg some (by kernel_rfl))
  f29 := Tryd.func64.trans (congrArg some (by kernel_rfl))
  f30 := Tryd.func76.trans (congrArg some (by kernel_rfl))
  f31 := Tryd.func77.trans (congrArg some (by kernel_rfl))
  f32 := Tryd.func78.trans (congrArg some (by kernel_rfl))
  f33 := Tryd.func79.trans (congrArg some (by kernel_rfl))
  f34 := Tryd.func93.trans (congrArg some (by kernel_rfl))
  f35 := Tryd.func94.trans (congrArg some (by kernel_rfl))
  f36 := Tryd.func95.trans (congrArg some (by kernel_rfl))
  f37 := Tryd.func96.trans (congrArg some (by kernel_rfl))
  f38 := Tryd.func97.trans (congrArg some (by kernel_rfl))
  f39 := Tryd.func105.trans (congrArg some (by kernel_rfl))
  f40 := Tryd.func106.trans (congrArg some (by kernel_rfl))
  t0 := Tryd.underlying0
  a0 := Tryd.isAgg0
  z0 := Tryd.sizeOf0
  v0 := Tryd.zeroValue0
  i0 := by kernel_rfl
  t2 := Tryd.underlying2
  a2 := Tryd.isAgg2
  z2 := Tryd.sizeOf2
  v2 := Tryd.zeroValue2
  i2 := by kernel_rfl
  t3 := Tryd.underlying3
  a3 := Tryd.isAgg3
  z3 := Tryd.sizeOf3
  v3 := Tryd.zeroValue3
  i3 := by kernel_rfl
  t4 := Tryd.underlying4
  a4 := Tryd.isAgg4
  z4 := Tryd.sizeOf4
  v4 := Tryd.zeroValue4
  i4 := by kernel_rfl
  t5 := Tryd.underlying5
  a5 := Tryd.isAgg5
  z5 := Tryd.sizeOf5
  v5 := Tryd.zeroValue5
  i5 := by kernel_rfl
  t9 := Tryd.underlying9
  a9 := Tryd.isAgg9
  z9 := Tryd.sizeOf9
  v9 := Tryd.zeroValue9
  i9 := by kernel_rfl
  t20 := Tryd.underlying20
  a20 := Tryd.isAgg20
  z20 := Tryd.sizeOf20
  v20 := Tryd.zeroValue20
  i20 := by kernel_rfl
  t21 := Tryd.underlying21
  a21 := Tryd.isAgg21
  z21 := Tryd.sizeOf21
  v21 := Tryd.zeroValue21
  i21 := by kernel_rfl
  t22 := Tryd.underlying59
  a22 := Tryd.isAgg59
  z22 := Tryd.sizeOf59
  v22 := Tryd.zeroValue59
  i22 := by kernel_rfl
  t24 := Tryd.underlying67
  a24 := Tryd.isAgg67
  z24 := Tryd.sizeOf67
  v24 := Tryd.zeroValue67
  i24 := by kernel_rfl
  t25 := Tryd.underlying94
  a25 := Tryd.isAgg94
  z25 := Tryd.sizeOf94
  v25 := Tryd.zeroValue94
  i25 := by kernel_rfl
  t34 := Tryd.underlying106
  a34 := Tryd.isAgg106
  z34 := Tryd.sizeOf106
  v34 := Tryd.zeroValue106
  i34 := by kernel_rfl
  c34 := by kernel_rfl
  t36 := Tryd.underlying112
  a36 := Tryd.isAgg112
  z36 := Tryd.sizeOf112
  v36 := Tryd.zeroValue112
  i36 := by kernel_rfl
  t37 := Tryd.underlying58
  a37 := Tryd.isAgg58
  z37 := Tryd.sizeOf58
  v37 := Tryd.zeroValue58
  i37 := by kernel_rfl
  t39 := Tryd.underlying109
  a39 := Tryd.isAgg109
  z39 := Tryd.sizeOf109
  v39 := Tryd.zeroValue109
  i39 := by kernel_rfl
  t44 := Tryd.underlying124
  a44 := Tryd.isAgg124
  z44 := Tryd.sizeOf124
  v44 := Tryd.zeroValue124
  i44 := by kernel_rfl
  t47 := Tryd.underlying91
  a47 := Tryd.isAgg91
  z47 := Tryd.sizeOf91
  v47 := Tryd.zeroValue91
  i47 := by kernel_rfl
  t48 := Tryd.underlying135
  a48 := Tryd.isAgg135
  z48 := Tryd.sizeOf135
  v48 := Tryd.zeroValue135
  i48 := by kernel_rfl
  t50 := Tryd.underlying137
  a50 := Tryd.isAgg137
  z50 := Tryd.sizeOf137
  v50 := Tryd.zeroValue137
  i50 := by kernel_rfl
  t52 := Tryd.underlying116
  a52 := Tryd.isAgg116
  z52 := Tryd.sizeOf116
  v52 := Tryd.zeroValue116
  i52 := by kernel_rfl
  t55 := Tryd.underlying119
  a55 := Tryd.isAgg119
  z55 := Tryd.sizeOf119
  v55 := Tryd.zeroValue119
  i55 := by kernel_rfl
  t59 := Tryd.underlying129
  a59 := Tryd.isAgg129
  z59 := Tryd.sizeOf129
  v59 := Tryd.zeroValue129
  i59 := by kernel_rfl
  t60 := Tryd.underlying31
  a60 := Tryd.isAgg31
  z60 := Tryd.sizeOf31
  v60 := Tryd.zeroValue31
  i60 := by kernel_rfl
  t61 := Tryd.underlying130
  a61 := Tryd.isAgg130
  z61 := Tryd.sizeOf130
  t65 := Tryd.underlying144
  a65 := Tryd.isAgg144
  z65 := Tryd.sizeOf144
  v65 := Tryd.zeroValue144
  i65 := by kernel_rfl
  t66 := Tryd.underlying145
  a66 := Tryd.isAgg145
  z66 := Tryd.sizeOf145
  v66 := Tryd.zeroValue145
  i66 := by kernel_rfl
  t67 := Tryd.underlying72
  a67 := Tryd.isAgg72
  z67 := Tryd.sizeOf72
  v67 := Tryd.zeroValue72
  i67 := by kernel_rfl
  g0 := by kernel_rfl
  m0 := by kernel_rfl
  g1 := by kernel_rfl
  m1 := by kernel_rfl
  g2 := by kernel_rfl
  m2 := by kernel_rfl
  g3 := by kernel_rfl
  m3 := by kernel_rfl
  g4 := by kernel_rfl
  m4 := by kernel_rfl }
def Tryd.lays219_ren : Go.Shelf.Ren := ⟨fun | 219 => 65 | 217 => 80 | 225 => 81 | 224 => 82 | 267 => 83 | 266 => 98 | 314 => 99 | n => n, fun | 9 => 9 | 3 => 3 | 4 => 4 | 5 => 5 | 46 => 112 | 146 => 133 | 51 => 31 | n => n, fun | 1 => 0 | n => n⟩
theorem Tryd.lays219 : Go.Proofs.Lays.n219 Tryd.prog Tryd.lays219_ren := {
  mixed := by kernel_rfl
  f217 := Tryd.func80.trans (congrArg some (by kernel_rfl))
  f219 := Tryd.func65.trans (congrArg some (by kernel_rfl))
  f224 := Tryd.func82.trans (congrArg some (by kernel_rfl))
  f225 := Tryd.func81.trans (congrArg some (by kernel_rfl))
  f266 := Tryd.func98.trans (congrArg some (by kernel_rfl))
  f267 := Tryd.func83.trans (congrArg some (by kernel_rfl))
  f314 := Tryd.func99.trans (congrArg some (by kernel_rfl))
  t3 := Tryd.underlying3
  a3 := Tryd.isAgg3
  z3 := Tryd.sizeOf3
  v3 := Tryd.zeroValue3
  t4 := Tryd.underlying4
  a4 := Tryd.isAgg4
  z4 := Tryd.sizeOf4
  v4 := Tryd.zeroValue4
  t5 := Tryd.underlying5
  a5 := Tryd.isAgg5
  z5 := Tryd.sizeOf5
  v5 := Tryd.zeroValue5
  t9 := Tryd.underlying9
  a9 := Tryd.isAgg9
  z9 := Tryd.sizeOf9
  v9 := Tryd.zeroValue9
  t46 := Tryd.underlying112
  a46 := Tryd.isAgg112
  z46 := Tryd.sizeOf112
  v46 := Tryd.zeroValue112
  t51 := Tryd.underlying31
  a51 := Tryd.isAgg31
  z51 := Tryd.sizeOf31
  v51 := Tryd.zeroValue31
  t146 := Tryd.underlying133
  a146 := Tryd.isAgg133
  z146 := Tryd.sizeOf133
  v146 := Tryd.zeroValue133
  g1 := by kernel_rfl }
def Tryd.lays143_ren : Go.Shelf.Ren := ⟨fun | 143 => 91 | 219 => 65 | 217 => 80 | 225 => 81 | 224 => 82 | 267 => 83 | 266 => 98 | 314 => 99 | n => n, fun | 9 => 9 | 3 => 3 | 4 => 4 | 5 => 5 | 46 => 112 | 146 => 133 | 51 => 31 | n => n, fun | 1 => 0 | n => n⟩
theorem Tryd.lays143 : Go.Proofs.Lays.n143 Tryd.prog Tryd.lays143_ren := {
  mixed := by kernel_rfl
  f143 := Tryd.func91.trans (congrArg some (by kernel_rfl))
  f217 := Tryd.func80.trans (congrArg some (by kernel_rfl))
  f219 := Tryd.func65.trans (congrArg some (by kernel_rfl))
  f224 := Tryd.func82.trans (congrArg some (by kernel_rfl))
  f225 := Tryd.func81.trans (congrArg some (by kernel_rfl))
  f266 := Tryd.func98.trans (congrArg some (by kernel_rfl))
  f267 := Tryd.func83.trans (congrArg some (by kernel_rfl))
  f314 := Tryd.func99.trans (congrArg some (by kernel_rfl))
  t3 := Tryd.underlying3
  a3 := Tryd.isAgg3
  z3 := Tryd.sizeOf3
  v3 := Tryd.zeroValue3
  t4 := Tryd.underlying4
  a4 := Tryd.isAgg4
  z4 := Tryd.sizeOf4
  v4 := Tryd.zeroValue4
  t5 := Tryd.underlying5
  a5 := Tryd.isAgg5
  z5 := Tryd.sizeOf5
  v5 := Tryd.zeroValue5
  t9 := Tryd.underlying9
  a9 := Tryd.isAgg9
  z9 := Tryd.sizeOf9
  v9 := Tryd.zeroValue9
  t46 := Tryd.underlying112
  a46 := Tryd.isAgg112
  z46 := Tryd.sizeOf112
  v46 := Tryd.zeroValue112
  t51 := Tryd.underlying31
  a51 := Tryd.isAgg31
  z51 := Tryd.sizeOf31
  v51 := Tryd.zeroValue31
  t146 := Tryd.underlying133
  a146 := Tryd.isAgg133
  z146 := Tryd.sizeOf133
  v146 := Tryd.zeroValue133
  g1 := by kernel_rfl }
end Go.Proofs
namespace Go.Proofs
open Go.Shelf
def Tryd.lays167_ren : Go.Shelf.Ren := ⟨fun | 167 => 34 | 240 => 50 | 276 => 63 | n => n, fun | 37 => 58 | 70 => 63 | 72 => 65 | 75 => 67 | 164 => 102 | 80 => 72 | n => n, fun | n => n⟩
theorem Tryd.lays167 : Go.Proofs.Lays.n167 Tryd.prog Tryd.lays167_ren := {
  mixed := by kernel_rfl
  f167 := Tryd.func34.trans (congrArg some (by kernel_rfl))
  f240 := Tryd.func50.trans (congrArg some (by kernel_rfl))
  f276 := Tryd.func63.trans (congrArg some (by kernel_rfl))
  t0 := Tryd.underlying0
  a0 := Tryd.isAgg0
  z0 := Tryd.sizeOf0
  v0 := Tryd.zeroValue0
  t4 := Tryd.underlying4
  a4 := Tryd.isAgg4
  z4 := Tryd.sizeOf4
  v4 := Tryd.zeroValue4
  t5 := Tryd.underlying5
  a5 := Tryd.isAgg5
  z5 := Tryd.sizeOf5
  v5 := Tryd.zeroValue5
  t9 := Tryd.underlying9
  a9 := Tryd.isAgg9
  z9 := Tryd.sizeOf9
  v9 := Tryd.zeroValue9
  t20 := Tryd.underlying20
  a20 := Tryd.isAgg20
  z20 := Tryd.sizeOf20
  v20 := Tryd.zeroValue20
  t37 := Tryd.underlying58
  a37 := Tryd.isAgg58
  z37 := Tryd.sizeOf58
  v37 := Tryd.zeroValue58
  t70 := Tryd.underlying63
  a70 := Tryd.isAgg63
  z70 := Tryd.sizeOf63
  v70 := Tryd.zeroValue63
  t72 := Tryd.underlying65
  a72 := Tryd.isAgg65
  z72 := Tryd.sizeOf65
  v72 := Tryd.zeroValue65
  t75 := Tryd.underlying67
  a75 := Tryd.isAgg67
  z75 := Tryd.sizeOf67
  v75 := Tryd.zeroValue67
  t164 := Tryd.underlying102
  a164 := Tryd.isAgg102
  z164 := Tryd.sizeOf102
  v164 := Tryd.zeroValue102 }
theorem Tryd.Builder_Extra_167 : Builder.Extra Tryd.prog Tryd.lays167_ren := {
  sizeBuilder := by kernel_rfl
  liesBuilder := by kernel_rfl
  t5 := Tryd.underlying5
  a5 := Tryd.isAgg5
  z5 := Tryd.sizeOf5
  v5 := Tryd.zeroValue5
  infoByte := by kernel_rfl
  cellsByte := by kernel_rfl
  sizeByte := by kernel_rfl
  neB5 := by decide }
def Tryd.lays166_ren : Go.Shelf.Ren := ⟨fun | 166 => 32 | 240 => 50 | 276 => 63 | n => n, fun | 37 => 58 | 70 => 63 | 72 => 65 | 75 => 67 | 164 => 102 | 80 => 72 | n => n, fun | n => n⟩
theorem Tryd.lays166 : Go.Proofs.Lays.n166 Tryd.prog Tryd.lays166_ren := {
  mixed := by kernel_rfl
  f166 := Tryd.func32.trans (congrArg some (by kernel_rfl))
  f240 := Tryd.func50.trans (congrArg some (by kernel_rfl))
  f276 := Tryd.func63.trans (congrArg some (by kernel_rfl))
  t0 := Tryd.underlying0
  a0 := Tryd.isAgg0
  z0 := Tryd.sizeOf0
  v0 := Tryd.zeroValue0
  t3 := Tryd.underlying3
  a3 := Tryd.isAgg3
  z3 := Tryd.sizeOf3
  v3 := Tryd.zeroValue3
  t4 := Tryd.underlying4
  a4 := Tryd.isAgg4
  z4 := Tryd.sizeOf4
  v4 := Tryd.zeroValue4
  t9 := Tryd.underlying9
  a9 := Tryd.isAgg9
  z9 := Tryd.sizeOf9
  v9 := Tryd.zeroValue9
  t20 := Tryd.underlying20
  a20 := Tryd.isAgg20
  z20 := Tryd.sizeOf20
  v20 := Tryd.zeroValue20
  t37 := Tryd.underlying58
  a37 := Tryd.isAgg58
  z37 := Tryd.sizeOf58
  v37 := Tryd.zeroValue58
  t70 := Tryd.underlying63
  a70 := Tryd.isAgg63
  z70 := Tryd.sizeOf63
  v70 := Tryd.zeroValue63
  t72 := Tryd.underlying65
  a72 := Tryd.isAgg65
  z72 := Tryd.sizeOf65
  v72 := Tryd.zeroValue65
  t75 := Tryd.underlying67
  a75 := Tryd.isAgg67
  z75 := Tryd.sizeOf67
  v75 := Tryd.zeroValue67
  t164 := Tryd.underlying102
  a164 := Tryd.isAgg102
  z164 := Tryd.sizeOf102
  v164 := Tryd.zeroValue102 }
theorem Tryd.Builder_Extra_166 : Builder.Extra Tryd.prog Tryd.lays166_ren := {
  sizeBuilder := by kernel_rfl
  liesBuilder := by kernel_rfl
  t5 := Tryd.underlying5
  a5 := Tryd.isAgg5
  z5 := Tryd.sizeOf5
  v5 := Tryd.zeroValue5
  infoByte := by kernel_rfl
  cellsByte := by kernel_rfl
  sizeByte := by kernel_rfl
  neB5 := by decide }
end Go.Proofs
/-! Functions of the library: numbers as texts, and back. -/
namespace Go.Rx
open Go.Ab Go.L21 Go.Proofs Go.RowKit
set_option linter.unusedVariables false
set_option maxRecDepth 100000
noncomputable def C0 : Cfg S := { P := P7, inl := [], K := [], ann := [] }
theorem bel_grow (w : World) (k : Nat) (os : Array Obj) : Below w.heap.size w (Sort.grow (w.drewN k) os) :=
  ⟨rfl, rfl, rfl, by show w.heap.size ≤ (w.heap ++ os).size; simp, fun b hb => by show (w.heap ++ os)[b]? = _; rw [Array.getElem?_append_left hb]⟩
/-- A call that only computes. -/
theorem pf_done {imm : Imm} {w w' : World} {rts : List Nat} (y : HR S rts) {v : Value} (hok : ImmOk imm w) (hb : Below w.heap.size w w') (hv : Rep noT (gh imm) (denV (tupA (encL (S := S) P7 rts y))) v) :
    ∃ r v' imm', (fun q => q = tupA (encL (S := S) P7 rts y)) r ∧ (denV r).clean = true ∧ Ending.returned v = .returned v' ∧ Imm.le imm imm' ∧ ImmOk imm' w' ∧ (∀ b o u, imm' b o = some u → imm b o = some u ∨ w.heap.size ≤ b) ∧ Rep noT (gh imm') (denV r) v' ∧ Below w.heap.size w w' :=
  ⟨_, v, imm, rfl, enc_clean (S := S) (P := P7) rts y, rfl, Imm.le_refl _, fun b o u h => by
    have hc := hok b o u h
    unfold World.cell? at hc ⊢
    have hb' : b < w.heap.size := by
      split at hc
      · rename_i c _ _ hq; exact (Array.getElem?_eq_some_iff.1 hq).1
      · cases hc
    rw [hb.block b hb']; exact hc, fun b o u h => .inl h, hv, hb⟩
abbrev W333 : CT S [9] [3] := (fun x0 => (some (P333 x0), S333 x0))
abbrev Ok333 : Prop := ConOk P7 33 (ctr P7 [3] [9] W333) ∧ ConMon (ctr P7 [3] [9] W333)
theorem run333 : RunP C0 33 [9] [3] W333 [] := by
  intro (n : Int) hn hp
  obtain ⟨h0, h1⟩ : P333 n := hp _ rfl
  intro imm w vs hok hgl hargs
  obtain ⟨v1, vs1, rfl, hv1, rfl⟩ := hargs
  obtain rfl : v1 = .int .i64 n := hv1
  refine (Any.strconv_Itoa Tryd.laysM171 n h0 h1 w hgl.2.tab).mono ?_
  rintro e w' ⟨rfl, k, os, rfl⟩
  exact pf_done (rts := [9]) (S333 n) hok (bel_grow w k os) rfl
theorem ok333 : Ok333 := con_okP (C := C0) run333
abbrev W337 : CT S [3, 67] [9] := (fun x0 => (some (P337 x0), S337 x0))
abbrev Ok337 : Prop := ConOk P7 37 (ctr P7 [9] [3, 67] W337) ∧ ConMon (ctr P7 [9] [3, 67] W337)
theorem run337 : RunP C0 37 [3, 67] [9] W337 [] := by
  intro (s : ByteArray) hs hp
  have hlim : s.size ≤ 281474976710656 := hp _ rfl
  intro imm w vs hok hgl hargs
  obtain ⟨v1, vs1, rfl, hv1, rfl⟩ := hargs
  obtain rfl : v1 = .string s := hv1
  obtain ⟨ts, ps, hsy⟩ := hgl.2.syn
  obtain ⟨tr, pr, hrg⟩ := hgl.2.rng
  cases h : Lib.atoiAll s.data.toList
  · rename_i v
    have e : S337 s = (v, false) := by unfold S337; rw [h]; rfl
    refine (Any.strconv_Atoi_ok Tryd.laysC172 s (by omega) v h w).mono ?_
    rintro e' w' ⟨rfl, hw⟩
    have hb : Below w.heap.size w w' := by
      rcases hw with rfl | ⟨t, rfl⟩
      · exact Below.refl _ _
      · exact Lib.bytesWorld_below w _ t
    refine pf_done (rts := [3, 67]) (S337 s) hok hb ?_
    rw [e]
    exact ⟨_, rfl, _, _, rfl, rfl, _, _, rfl, .inl ⟨rfl, rfl⟩, rfl⟩
  · skip
    have e : S337 s = (0, true) := by unfold S337; rw [h]; rfl
    refine (Any.strconv_Atoi_syntax Tryd.laysC172 s hlim h _ w hsy (.inr ⟨ts, ps, rfl⟩)).mono ?_
    rintro e' w' ⟨N, rfl, _, _, hb⟩
    refine pf_done (rts := [3, 67]) (S337 s) hok hb ?_
    rw [e]
    exact ⟨_, rfl, _, _, rfl, rfl, _, _, rfl, .inr ⟨rfl, _, _, rfl⟩, rfl⟩
  · skip
    have e : S337 s = (Lib.atoiSat s.data.toList, true) := by unfold S337; rw [h]; rfl
    refine (Any.strconv_Atoi_range Tryd.laysC172 s hlim h _ w hrg (.inr ⟨tr, pr, rfl⟩)).mono ?_
    rintro e' w' ⟨N, rfl, _, _, hb⟩
    refine pf_done (rts := [3, 67]) (S337 s) hok hb ?_
    rw [e]
    exact ⟨_, rfl, _, _, rfl, rfl, _, _, rfl, .inr ⟨rfl, _, _, rfl⟩, rfl⟩
theorem ok337 : Ok337 := con_okP (C := C0) run337
abbrev W357 : CT S [59, 67] [9, 3, 3] := (fun x0 x1 x2 => (some (P357 x0 x1 x2), S357 x0 x1 x2))
abbrev Ok357 : Prop := ConOk P7 57 (ctr P7 [9, 3, 3] [59, 67] W357) ∧ ConMon (ctr P7 [9, 3, 3] [59, 67] W357)
theorem run357 : RunP C0 57 [59, 67] [9, 3, 3] W357 [] := by
  intro (s : ByteArray) hs (b : Int) hb (n : Int) hn hp
  obtain ⟨hlim, rfl, hn⟩ : P357 s b n := hp _ rfl
  intro imm w vs hok hgl hargs
  obtain ⟨v1, vs1, rfl, hv1, v2, vs2, rfl, hv2, v3, vs3, rfl, hv3, rfl⟩ := hargs
  obtain rfl : v1 = .string s := hv1
  obtain rfl : v2 = .int .i64 10 := hv2
  obtain rfl : v3 = .int .i64 n := hv3
  obtain ⟨ts, ps, hsy⟩ := hgl.2.syn
  obtain ⟨tr, pr, hrg⟩ := hgl.2.rng
  have okc : ∀ {v : Nat} {e' : Ending} {w' : World}, S357 s 10 n = ((v : Int), false) → (e' = .returned (.tuple #[.int .u64 v, .nilIface]) ∧ (w' = w ∨ w' = Lib.bytesWorld w 5 s)) → ∃ r v' imm', (fun q => q = tupA (encL (S := S) P7 [59, 67] (S357 s 10 n))) r ∧ (denV r).clean = true ∧ e' = .returned v' ∧ Imm.le imm imm' ∧ ImmOk imm' w' ∧ (∀ b o u, imm' b o = some u → imm b o = some u ∨ w.heap.size ≤ b) ∧ Rep noT (gh imm') (denV r) v' ∧ Below w.heap.size w w' := by
    rintro v e' w' e ⟨rfl, hw⟩
    have hb : Below w.heap.size w w' := by
      rcases hw with rfl | rfl
      · exact Below.refl _ _
      · exact Lib.bytesWorld_below w _ s
    refine pf_done (rts := [59, 67]) (S357 s 10 n) hok hb ?_
    rw [e]
    exact ⟨_, rfl, _, _, rfl, rfl, _, _, rfl, .inl ⟨rfl, rfl⟩, rfl⟩
  have erc : ∀ {v : Int} {te : TypeId} {pe : Value} {w' : World}, S357 s 10 n = (v, true) → Below w.heap.size w w' → ∃ r v' imm', (fun q => q = tupA (encL (S := S) P7 [59, 67] (S357 s 10 n))) r ∧ (denV r).clean = true ∧ Ending.returned (.tuple #[.int .u64 v, .iface te pe]) = .returned v' ∧ Imm.le imm imm' ∧ ImmOk imm' w' ∧ (∀ b o u, imm' b o = some u → imm b o = some u ∨ w.heap.size ≤ b) ∧ Rep noT (gh imm') (denV r) v' ∧ Below w.heap.size w w' := by
    intro v te pe w' e hb
    refine pf_done (rts := [59, 67]) (S357 s 10 n) hok hb ?_
    rw [e]
    exact ⟨_, rfl, _, _, rfl, rfl, _, _, rfl, .inr ⟨rfl, _, _, rfl⟩, rfl⟩
  rcases hn with rfl | rfl
  · cases h : Lib.parseUintB 32 s.data.toList
    · rename_i v
      refine (Any.strconv_ParseUint_10_at32_ok Tryd.laysPu14 s (by omega) v h w).mono fun e' w' hh => okc (v := v) ?_ hh
      show endN (Lib.parseUintB 32 s.data.toList) _ = _
      rw [h]; rfl
    · skip
      refine (Any.strconv_ParseUint_10_at32_syntax Tryd.laysPu14 s hlim h _ w hsy (.inr ⟨ts, ps, rfl⟩)).mono ?_
      rintro e' w' ⟨N, rfl, _, _, hb⟩
      refine erc ?_ hb
      show endN (Lib.parseUintB 32 s.data.toList) _ = _
      rw [h]; rfl
    · skip
      refine (Any.strconv_ParseUint_10_at32_range Tryd.laysPu14 s hlim h _ w hrg (.inr ⟨tr, pr, rfl⟩)).mono ?_
      rintro e' w' ⟨N, rfl, _, _, hb⟩
      refine erc ?_ hb
      show endN (Lib.parseUintB 32 s.data.toList) _ = _
      rw [h]; rfl
  · cases h : Lib.parseUintB 64 s.data.toList
    · rename_i v
      refine (Any.strconv_ParseUint_10_at64_ok Tryd.laysPu14 s (by omega) v h w).mono fun e' w' hh => okc (v := v) ?_ hh
      show endN (Lib.parseUintB 64 s.data.toList) _ = _
      rw [h]; rfl
    · skip
      refine (Any.strconv_ParseUint_10_at64_syntax Tryd.laysPu14 s hlim h _ w hsy (.inr ⟨ts, ps, rfl⟩)).mono ?_
      rintro e' w' ⟨N, rfl, _, _, hb⟩
      refine erc ?_ hb
      show endN (Lib.parseUintB 64 s.data.toList) _ = _
      rw [h]; rfl
    · skip
      refine (Any.strconv_ParseUint_10_at64_range Tryd.laysPu14 s hlim h _ w hrg (.inr ⟨tr, pr, rfl⟩)).mono ?_
      rintro e' w' ⟨N, rfl, _, _, hb⟩
      refine erc ?_ hb
      show endN (Lib.parseUintB 64 s.data.toList) _ = _
      rw [h]; rfl
theorem ok357 : Ok357 := by
  apply con_okP (C := C0) (f := 57) (ts := [9, 3, 3]) (rts := [59, 67]) (W := W357)
  exact run357
abbrev W365 : CT S [3] [9, 9] := (fun x0 x1 => (some (P365 x0 x1), S365 x0 x1))
abbrev Ok365 : Prop := ConOk P7 65 (ctr P7 [9, 9] [3] W365) ∧ ConMon (ctr P7 [9, 9] [3] W365)
theorem run365 : RunP C0 65 [3] [9, 9] W365 [] := by
  intro (s : ByteArray) hs (t : ByteArray) ht hp
  have ht1 : t.size = 1 := hp _ rfl
  intro imm w vs hok hgl hargs
  obtain ⟨v1, vs1, rfl, hv1, v2, vs2, rfl, hv2, rfl⟩ := hargs
  obtain rfl : v1 = .string s := hv1
  obtain rfl : v2 = .string t := hv2
  obtain ⟨c, rfl⟩ : ∃ c, t = ⟨#[c]⟩ := by
    obtain ⟨⟨l⟩⟩ := t
    match l, ht1 with
    | [c], _ => exact ⟨c, rfl⟩
  refine (Any.stringslite_Index_one Tryd.lays219 s c w).mono ?_
  rintro e w' ⟨rfl, rfl⟩
  exact pf_done (rts := [3]) (S365 s ⟨#[c]⟩) hok (Below.refl _ _) rfl
theorem ok365 : Ok365 := con_okP (C := C0) run365
end Go.Rx
/-! strconv.FormatUint at base 10. -/
namespace Go.Proofs
open Go.Shelf Go.RowKit Go.Sort Go.Lib
set_option maxHeartbeats 12800000 in
set_option maxRecDepth 100000 in
theorem Tryd.fmtU_big (u : Nat) (hu : 100 ≤ u) (hu64 : u < 18446744073709551616) (w : World)
    (htab : Lib.TabIs Tryd.prog w "internal/strconv.uint64pow10" .u64 Lib.pow10Tab) :
    Calls Tryd.prog 71 #[.int .u64 u, .int .i64 10] w fun e w' => e = .returned (.string ⟨(Lib.itoa u).toArray⟩) ∧ ∃ k os, w' = grow (w.drewN k) os := by
  have hu1 : 1 ≤ u := by omega
  have hnd20 : Lib.nDigits u ≤ 20 := by have := Lib.numDigits_eq u hu1 hu64; split at this <;> omega
  have hal : Tryd.prog.arrayLen 116 = 24 := by simp [Program.arrayLen, Tryd.underlying116]
  have hsl : ∀ W, (Instr.sliceAt 116 (.pointer (some ⟨w.heap.size, 0, none⟩)) none (some (.int .i64 (Lib.nDigits u : Int))) none).run Tryd.prog W = .ok (.slice (some ⟨w.heap.size, 0, none⟩) (Lib.nDigits u) 24) W := fun W => by
    rw [run_sliceAt_array_h W 116 ⟨w.heap.size, 0, none⟩ (by simp [Program.arrayLen, Program.elem, Tryd.underlying116]) .i64 (Lib.nDigits u : Int) (by omega) (by rw [hal]; omega)]
    go_simp
  have hH0 := Lib.holds_zero0 w 116 (Lib.nDigits u) (by omega)
  have hfmt := Any.internal_strconv_formatBase10 Tryd.lays285 w.heap.size 0 24 u (Array.replicate (Lib.nDigits u) 0) (w.alloc (.cells Lib.zeros24 116)) hH0 (by rw [Array.size_replicate]; exact Lib.lt_pow_nDigits u) hu64 (by rw [Array.size_replicate]; omega)
  rw [Array.size_replicate] at hfmt
  have HH0 := Lib.hid hH0
  have iu : (100 : Int) ≤ (u : Int) := by omega
  clear hH0 hal
  go_enter Tryd.func71, Tryd.ntmps71
  go_wp2_with (first
    | (go_at_call 77; refine (Any.internal_strconv_numDigits Tryd.laysM284 u hu1 hu64 _ (Lib.tabIs_alloc htab _)).mono ?_; rintro e w' ⟨rfl, rfl⟩))
  go_at_call 78
  refine hfmt.mono ?_
  rintro e w' ⟨rfl, k, v', dk, rfl, hF⟩
  have hcv : (convert 58 9 (.slice (some ⟨w.heap.size, 0, none⟩) (Lib.nDigits u) 24)).run Tryd.prog ((putRow (fun (b : UInt8) => Value.int .u8 (b.toNat : Int)) (w.alloc (.cells Lib.zeros24 116)) w.heap.size 0 dk).drewN k) = .ok (.string ⟨(Lib.decDigits u).toArray⟩) ((putRow (fun (b : UInt8) => Value.int .u8 (b.toNat : Int)) (w.alloc (.cells Lib.zeros24 116)) w.heap.size 0 dk).drewN k) := by
    have h := run_convert_bytes_back (P := Tryd.prog) ((putRow (fun (b : UInt8) => Value.int .u8 (b.toNat : Int)) (w.alloc (.cells Lib.zeros24 116)) w.heap.size 0 dk).drewN k) 58 9 5 ⟨w.heap.size, 0, none⟩ 24 (Lib.decDigits u) Tryd.lays285.t37 Tryd.lays285.t5 Tryd.lays285.t9 (fun j hj => by
      rw [Lib.row_is_numeral hF j hj, Lib.add_plain, World.cell?_drewN]
      exact cell?_putRow (fun (b : UInt8) => Value.int .u8 (b.toNat : Int)) _ w.heap.size 0 _ dk HH0.out (by rw [hF.size, Array.size_replicate]) j (by rw [hF.size]; rw [Lib.decDigits_length] at hj; exact hj))
    rw [Lib.decDigits_length] at h
    exact h
  go_wp2
  go_ret
  obtain ⟨os, eo⟩ := Lib.fin_at w (.cells Lib.zeros24 116) dk k 0
  refine ⟨?_, k, os, eo⟩
  rw [Lib.itoa_nonneg]
  rfl
set_option maxRecDepth 100000 in
theorem Tryd.fmtU_small (u : Nat) (hu : u < 100) (w : World) :
    Calls Tryd.prog 71 #[.int .u64 u, .int .i64 10] w fun e w' => e = .returned (.string ⟨(Lib.itoa u).toArray⟩) ∧ ∃ k os, w' = grow (w.drewN k) os := by
  have iu : (u : Int) < 100 := by omega
  go_enter Tryd.func71, Tryd.ntmps71
  go_wp2_with (go_at_call 76; refine (Any.internal_strconv_small Tryd.lays283 u hu _).mono ?_; rintro e w' ⟨rfl, rfl⟩)
  go_ret
  refine ⟨?_, 0, #[], by simp [World.drewN_zero, grow]⟩
  rw [Lib.itoa_nonneg]
  rfl
set_option maxRecDepth 100000 in
theorem Tryd.fmtU (u : Nat) (hu64 : u < 18446744073709551616) (w : World)
    (htab : Lib.TabIs Tryd.prog w "internal/strconv.uint64pow10" .u64 Lib.pow10Tab) :
    Calls Tryd.prog 56 #[.int .u64 u, .int .i64 10] w fun e w' => e = .returned (.string ⟨(Lib.itoa u).toArray⟩) ∧ ∃ k os, w' = grow (w.drewN k) os := by
  have h : Calls Tryd.prog 71 #[.int .u64 u, .int .i64 10] w fun e w' => e = .returned (.string ⟨(Lib.itoa u).toArray⟩) ∧ ∃ k os, w' = grow (w.drewN k) os := by
    by_cases hs : u < 100
    · exact Tryd.fmtU_small u hs w
    · exact Tryd.fmtU_big u (by omega) hu64 w htab
  go_enter Tryd.func56, Tryd.ntmps56
  go_wp2_with (go_at_call 71; refine h.mono ?_; rintro e w' ⟨rfl, k, os, rfl⟩)
  go_ret
  exact ⟨rfl, k, os, rfl⟩
end Go.Proofs
namespace Go.Rx
open Go.Ab Go.L21 Go.Proofs Go.RowKit
set_option maxRecDepth 100000
abbrev W356 : CT S [9] [59, 3] := (fun x0 x1 => (some (P356 x0 x1), S356 x0 x1))
abbrev Ok356 : Prop := ConOk P7 56 (ctr P7 [59, 3] [9] W356) ∧ ConMon (ctr P7 [59, 3] [9] W356)
theorem run356 : RunP C0 56 [9] [59, 3] W356 [] := by
  intro (n : Int) hn (b : Int) hb hp
  obtain ⟨rfl, h0, h1⟩ : P356 n b := hp _ rfl
  intro imm w vs hok hgl hargs
  obtain ⟨v1, vs1, rfl, hv1, v2, vs2, rfl, hv2, rfl⟩ := hargs
  obtain rfl : v1 = .int .u64 n := hv1
  obtain rfl : v2 = .int .i64 10 := hv2
  obtain ⟨u, rfl⟩ : ∃ u : Nat, n = u := ⟨n.toNat, by omega⟩
  refine (Tryd.fmtU u (by omega) w hgl.2.tab).mono ?_
  rintro e w' ⟨rfl, k, os, rfl⟩
  exact pf_done (rts := [9]) (S356 u 10) hok (bel_grow w k os) rfl
theorem ok356 : Ok356 := con_okP (C := C0) run356
end Go.Rx
/-! row.Texts, with the builder of the library. -/
namespace Go.Proofs
open Go.Shelf Go.RowKit Go.Sort Go.Lib
theorem bAt_grow {T e : TypeId} {B b : Nat} {p : Value} {bs : List Value} {w : World} (h : Lib.BuilderAt T e B b p bs w) (k : Nat) (os : Array Obj) : Lib.BuilderAt T e B b p bs (grow (w.drewN k) os) := by
  obtain ⟨hB, v, hb, ho, hn⟩ := h
  refine ⟨hB, v, ?_, Lib.ownsRow_grow ho k os, hn⟩
  show (w.heap ++ os)[b]? = _
  rw [Array.getElem?_append_left (Array.getElem?_eq_some_iff.1 hb).1]
  exact hb
theorem isB_grow {T e : TypeId} {B b : Nat} {bs : List Value} {w : World} (h : Lib.IsBuilder T e B b bs w) (k : Nat) (os : Array Obj) : Lib.IsBuilder T e B b bs (grow (w.drewN k) os) :=
  h.elim (fun h => .inl (bAt_grow h k os)) (fun h => .inr (bAt_grow h k os))
theorem Tryd.wstr (B b : Nat) (bs : List Value) (s : ByteArray) (w : World) (h : Lib.IsBuilder 65 5 B b bs w) (hlen : bs.length + s.size ≤ 140737488355328) (hBw : B ≤ w.heap.size) :
    Calls Tryd.prog 32 #[.pointer (some ⟨b, 0, none⟩), .string s] w fun e w' => e = .returned (.tuple #[.int .i64 s.size, .nilIface]) ∧ Lib.IsBuilder 65 5 B b (bs ++ Lib.strCells s) w' ∧ Below B w w' :=
  (Any.Builder_WriteString Tryd.lays166 Tryd.Builder_Extra_166 B b bs s w h hlen hBw).mono fun _ _ hh => ⟨hh.1, .inr hh.2.1, hh.2.2⟩
theorem Tryd.wbyte (B b : Nat) (bs : List Value) (c : Int) (w : World) (h : Lib.IsBuilder 65 5 B b bs w) (hlen : bs.length + 1 ≤ 140737488355328) (hBw : B ≤ w.heap.size) :
    Calls Tryd.prog 34 #[.pointer (some ⟨b, 0, none⟩), .int .u8 c] w fun e w' => e = .returned .nilIface ∧ Lib.IsBuilder 65 5 B b (bs ++ [.int .u8 c]) w' ∧ Below B w w' :=
  (Any.Builder_WriteByte Tryd.lays167 Tryd.Builder_Extra_167 B b bs c w h hlen hBw).mono fun _ _ hh => ⟨hh.1, .inr hh.2.1, hh.2.2⟩
theorem Tryd.bstr (B b : Nat) (l : List UInt8) (w : World) (h : Lib.IsBuilder 65 5 B b (Lib.byteCells l) w) (hBw : B ≤ w.heap.size) :
    Calls Tryd.prog 35 #[.pointer (some ⟨b, 0, none⟩)] w fun e w' => e = .returned (.string ⟨l.toArray⟩) ∧ Below B w w' :=
  Any.Builder_String_any Tryd.lays169 Tryd.Builder_Extra_169 B b l w h hBw
open Go.L21 Go.Rx in
theorem texts_take {xs : List ByteArray} {k : Nat} {y : ByteArray} (h : xs[k]? = some y) : textsL (xs.take (k + 1)) = textsL (xs.take k) ++ textL y := by
  rw [List.take_add_one, h]; simp [textsL]
open Go.L21 Go.Rx in
theorem texts_le (xs : List ByteArray) (k : Nat) : (textsL (xs.take k)).length ≤ (textsL xs).length := by
  conv => rhs; rw [← List.take_append_drop k xs]
  unfold textsL; rw [List.flatMap_append, List.length_append]; omega
open Go.L21 Go.Rx in
theorem texts_num (xs : List ByteArray) : xs.length ≤ (textsL xs).length := by
  induction xs with
  | nil => exact Nat.zero_le _
  | cons x r ih => simp only [textsL, List.flatMap_cons, List.length_append, List.length_cons, textL] at ih ⊢; omega
theorem hidT {p : Prop} (h : p) : Hid p := h
open Go.L21 Go.Rx in
set_option maxHeartbeats 4000000 in
set_option maxRecDepth 100000 in
theorem Tryd.texts_walk (A : Option Addr) (c : Nat) (xs : List ByteArray) (w : World) (hlen : (textsL xs).length ≤ 70368744177664) (htab : Lib.TabIs Tryd.prog w "internal/strconv.uint64pow10" .u64 Lib.pow10Tab)
    (hcells : ∀ (j : Nat) x, xs[j]? = some x → ∃ bk o, A = some ⟨bk, o, none⟩ ∧ bk < w.heap.size ∧ w.cell? ⟨bk, o + j, none⟩ = some (.string x)) :
    Calls Tryd.prog 14 #[.slice A xs.length c] w fun e w' => e = .returned (.string ⟨(textsL xs).toArray⟩) ∧ Below w.heap.size w w' := by
  have HC := hidT hcells
  have HT := hidT htab
  have HL := hidT hlen
  have hxl := texts_num xs
  have hxl2 : xs.length ≤ 70368744177664 := by omega
  clear hcells htab hlen hxl
  go_enter Tryd.func14, Tryd.ntmps14
  go_wp2
  go_loopw [8] (fun i wr => ∃ k : Nat, k ≤ xs.length ∧ i = .int .i64 k ∧ Hid (Lib.IsBuilder 65 5 w.heap.size w.heap.size (Lib.byteCells (textsL (xs.take k))) wr) ∧ Hid (Below w.heap.size w wr)) (fun i _ => xs.length - (RowKit.intOf i).toNat)
  case atStart => exact ⟨0, Nat.zero_le _, rfl, hidT (Lib.fresh_isBuilder 65 5 w), hidT ((Below.refl _ w).alloc (Nat.le_refl _) _)⟩
  case round =>
    obtain ⟨k, hk, rfl, HB, HW⟩ := hrel
    by_cases hkr : k < xs.length
    · obtain ⟨y, hy⟩ : ∃ y, xs[k]? = some y := ⟨xs[k], List.getElem?_eq_getElem hkr⟩
      obtain ⟨bk, o, rfl, hbk, hcy⟩ := HC.out k y hy
      have hcy : wr.cell? ⟨bk, o + k, none⟩ = some (.string y) := by
        rw [HW.out.cell (p := ⟨bk, o + k, none⟩) hbk]; exact hcy
      have hBw : w.heap.size ≤ wr.heap.size := HW.out.size
      have hnext : Lib.byteCells (textsL (xs.take k)) ++ Lib.strCells ⟨(Lib.itoa y.size).toArray⟩ ++ [Value.int .u8 58] ++ Lib.strCells y = Lib.byteCells (textsL (xs.take (k + 1))) := by
        rw [texts_take hy, Lib.strCells_eq, Lib.strCells_eq, Lib.byteCells_append, textL, Lib.byteCells_append]
        simp [Lib.byteCells]
      have hl := texts_le xs (k + 1)
      have hl2 := HL.out
      rw [texts_take hy, textL] at hl
      simp only [List.length_append, List.length_cons, ← Lib.size_eq] at hl
      have hl0 : (Lib.byteCells (textsL (xs.take k))).length = (textsL (xs.take k)).length := Lib.byteCells_length _
      have hi0 : (⟨(Lib.itoa y.size).toArray⟩ : ByteArray).size = (Lib.itoa y.size).length := List.size_toArray
      generalize (textsL (xs.take k)).length = J at hl0 hl
      generalize (Lib.itoa y.size).length = I at hi0 hl
      have hys : y.size ≤ 70368744177664 := by omega
      have htr := var_ge HW.out.block HT.out
      have Hn := hidT hnext
      have Hl := hidT hl
      have Hl2 := hidT hl2
      clear hnext hy hl hl2
      go_wp2_with (go_at_call 33; refine (Any.strconv_Itoa Tryd.laysM171 (y.size : Int) (by omega) (by omega) wr htr).mono ?_)
      rintro e w1 ⟨rfl, q, os, rfl⟩
      have HB1 := hidT (isB_grow HB.out q os)
      have HW1 := hidT (HW.out.trans (Rx.bel_grow wr q os |>.mono hBw))
      generalize grow (wr.drewN q) os = W1 at HB1 HW1 ⊢
      have hBw1 : w.heap.size ≤ W1.heap.size := HW1.out.size
      go_wp2_with (go_at_call 32; refine (Tryd.wstr w.heap.size w.heap.size _ _ W1 HB1.out (by rw [hl0, hi0]; have := Hl.out; have := Hl2.out; omega) hBw1).mono ?_)
      rintro e W2 ⟨rfl, HB2, hb2⟩
      have HB2 := hidT HB2
      have HW2 := hidT (HW1.out.trans hb2)
      have hBw2 : w.heap.size ≤ W2.heap.size := HW2.out.size
      clear hb2
      go_wp2_with (go_at_call 34; refine (Tryd.wbyte w.heap.size w.heap.size _ 58 W2 HB2.out (by rw [List.length_append, hl0, Lib.strCells_length, hi0]; have := Hl.out; have := Hl2.out; omega) hBw2).mono ?_)
      rintro e W3 ⟨rfl, HB3, hb3⟩
      have HB3 := hidT HB3
      have HW3 := hidT (HW2.out.trans hb3)
      have hBw3 : w.heap.size ≤ W3.heap.size := HW3.out.size
      clear hb3
      go_wp2_with (go_at_call 32; refine (Tryd.wstr w.heap.size w.heap.size _ y W3 HB3.out (by rw [List.length_append, List.length_append, hl0, Lib.strCells_length, hi0]; have := Hl.out; have := Hl2.out; simp; omega) hBw3).mono ?_)
      rintro e W4 ⟨rfl, HB4, hb4⟩
      rw [Hn.out] at HB4
      have HB4 := hidT HB4
      have HW4 := hidT (HW3.out.trans hb4)
      clear hb4
      go_wp2
      exact ⟨⟨k + 1, by omega, by go_num, HB4, HW4⟩, by simp [RowKit.intOf]; omega⟩
    · have hke : k = xs.length := by omega
      subst hke
      have hB' := HB.out
      rw [List.take_length] at hB'
      have hBw : w.heap.size ≤ wr.heap.size := HW.out.size
      go_wp2_with (go_at_call 35; refine (Tryd.bstr w.heap.size w.heap.size _ wr hB' hBw).mono ?_)
      rintro e w5 ⟨rfl, hb5⟩
      have Hb5 := hidT (HW.out.trans hb5)
      clear hb5 hB'
      go_wp2
      go_ret
      exact ⟨rfl, Hb5.out⟩
end Go.Proofs
namespace Go.Rx
open Go.Ab Go.L21 Go.Proofs Go.RowKit
set_option maxRecDepth 100000
theorem cell_strs {imm : Imm} {w : World} {x : List ByteArray} {v : Value} (hok : ImmOk imm w) (h : sliceH (S.E 9) x imm v) : ∃ A c, v = .slice A x.length c ∧ ∀ (j : Nat) y, x[j]? = some y → ∃ bk o, A = some ⟨bk, o, none⟩ ∧ bk < w.heap.size ∧ w.cell? ⟨bk, o + j, none⟩ = some (.string y) := by
  obtain ⟨A, c, h1, h2, h3, h4, h5⟩ := h
  refine ⟨A, c, h1, fun j y hy => ?_⟩
  obtain ⟨b, o, e, h6⟩ := h5 (fun e => by rw [e] at hy; cases hy)
  obtain ⟨vs, h7, h8⟩ := h6 j y hy
  obtain ⟨v, vs', rfl, h9, _, h10⟩ := h7
  have h9 : v = .string y := h9
  have := hok _ _ _ (h8 0 v rfl)
  have e2 : o + j * (S.E 9).sz + 0 = o + j := by show o + j * 1 + 0 = o + j; omega
  rw [e2] at this
  refine ⟨b, o, e, ?_, by rw [this, h9]⟩
  unfold World.cell? at this
  split at this
  · rename_i c _ _ hq; exact (Array.getElem?_eq_some_iff.1 hq).1
  · cases this
abbrev W314 : CT S [9] [22] := (fun x0 => (some (P314 x0), S314 x0))
abbrev Ok314 : Prop := ConOk P7 14 (ctr P7 [22] [9] W314) ∧ ConMon (ctr P7 [22] [9] W314)
theorem run314 : RunP C0 14 [9] [22] W314 [] := by
  intro (x : List ByteArray) hx hp
  have h0 : (textsL x).length ≤ 70368744177664 := hp _ rfl
  intro imm w vs hok hgl hargs
  obtain ⟨v1, vs1, rfl, hv1, rfl⟩ := hargs
  obtain ⟨A, c, rfl, hcell⟩ := cell_strs hok (show sliceH (S.E 9) x imm v1 from hv1)
  refine (Tryd.texts_walk A c x w h0 hgl.2.tab hcell).mono ?_
  rintro e w' ⟨rfl, hb⟩
  exact pf_done (rts := [9]) (S314 x) hok hb rfl
theorem ok314 : Ok314 := con_okP (C := C0) run314
end Go.Rx
namespace Go.Rx
open Go.Ab Go.L21
set_option maxRecDepth 100000
set_option maxHeartbeats 20000000
set_option linter.unusedVariables false
/-- interregnum/row.Split -/
noncomputable def C315 : Cfg S := { P := P7, inl := [], K := [(33, ctr P7 [3] [9] (fun x0 => (some (P333 x0), S333 x0))), (37, ctr P7 [9] [3, 67] (fun x0 => (some (P337 x0), S337 x0))), (65, ctr P7 [9, 9] [3] (fun x0 x1 => (some (P365 x0 x1), S365 x0 x1)))], ann := [(15, [(3, .loop [(.sl 4, .own 9), (.sl 5, .str)])])] }
abbrev W315 : CT S [22, 4] [9] := (fun x0 => (some (P315 x0), S315 x0))
abbrev Ok315 : Prop := ConOk P7 15 (ctr P7 [9] [22, 4] W315) ∧ ConMon (ctr P7 [9] [22, 4] W315)
theorem q315 (x0 : ByteArray) (v : HR S [22, 4]) : (Xf C315 6 (emp 0) 15 (argsA C315 [⟨9, x0⟩]) (emp 0) (fun r _ => isR C315.P [22, 4] v r) (fun _ _ => False))
 = (LOOP (fun (h : List ByteArray × ByteArray) (J : List ByteArray × ByteArray → Prop) => bif !h.snd.toList == (ByteArray.mk #[]).toList then nat_lit 1 =
 nat_lit 1 ∧ bif decide ((0 : Int) ≤ S365 h.snd (ByteArray.mk #[(58 : UInt8)])) then ((0 : Int) ≤ (0 : Int) ∧ (0 : Int) ≤ S365 h.snd (ByteArray.mk #[(58 :
 UInt8)]) ∧ S365 h.snd (ByteArray.mk #[(58 : UInt8)]) ≤ (↑h.snd.size : Int)) ∧ ((0 : Int) ≤ IntKind.i64.wrap (S365 h.snd (ByteArray.mk #[(58 : UInt8)]) +
 (↑(nat_lit 1) : Int)) ∧ IntKind.i64.wrap (S365 h.snd (ByteArray.mk #[(58 : UInt8)]) + (↑(nat_lit 1) : Int)) ≤ (↑h.snd.size : Int) ∧ (↑h.snd.size : Int) ≤
 (↑h.snd.size : Int)) ∧ (h.snd.extract (nat_lit 0) (S365 h.snd (ByteArray.mk #[(58 : UInt8)])).toNat).size.le (nat_lit 281474976710656) ∧ bif (S337
 (h.snd.extract (nat_lit 0) (S365 h.snd (ByteArray.mk #[(58 : UInt8)])).toNat)).snd || decide ((S337 (h.snd.extract (nat_lit 0) (S365 h.snd (ByteArray.mk #[(58
 : UInt8)])).toNat)).fst < (0 : Int)) || decide ((↑(h.snd.extract (IntKind.i64.wrap (S365 h.snd (ByteArray.mk #[(58 : UInt8)]) + (↑(nat_lit 1) : Int))).toNat
 (↑h.snd.size : Int).toNat).size : Int) < (S337 (h.snd.extract (nat_lit 0) (S365 h.snd (ByteArray.mk #[(58 : UInt8)])).toNat)).fst) then ([], false) = v else
 ((-9223372036854775808 : Int) ≤ (S337 (h.snd.extract (nat_lit 0) (S365 h.snd (ByteArray.mk #[(58 : UInt8)])).toNat)).fst ∧ (S337 (h.snd.extract (nat_lit 0)
 (S365 h.snd (ByteArray.mk #[(58 : UInt8)])).toNat)).fst ≤ (9223372036854775807 : Int)) ∧ bif !(S333 (S337 (h.snd.extract (nat_lit 0) (S365 h.snd (ByteArray.mk
 #[(58 : UInt8)])).toNat)).fst).toList == (h.snd.extract (nat_lit 0) (S365 h.snd (ByteArray.mk #[(58 : UInt8)])).toNat).toList then ([], false) = v else ((0 :
 Int) ≤ (0 : Int) ∧ (0 : Int) ≤ (S337 (h.snd.extract (nat_lit 0) (S365 h.snd (ByteArray.mk #[(58 : UInt8)])).toNat)).fst ∧ (S337 (h.snd.extract (nat_lit 0)
 (S365 h.snd (ByteArray.mk #[(58 : UInt8)])).toNat)).fst ≤ (↑(h.snd.extract (IntKind.i64.wrap (S365 h.snd (ByteArray.mk #[(58 : UInt8)]) + (↑(nat_lit 1) :
 Int))).toNat (↑h.snd.size : Int).toNat).size : Int)) ∧ (h.fst.length = h.fst.length ∧ (h.fst.length + [(h.snd.extract (IntKind.i64.wrap (S365 h.snd
 (ByteArray.mk #[(58 : UInt8)]) + (↑(nat_lit 1) : Int))).toNat (↑h.snd.size : Int).toNat).extract (nat_lit 0) (S337 (h.snd.extract (nat_lit 0) (S365 h.snd
 (ByteArray.mk #[(58 : UInt8)])).toNat)).fst.toNat].length) * nat_lit 16 ≤ nat_lit 140737488355328) ∧ ∀ (y : List (ByteArray)), y = h.fst ++ [(h.snd.extract
 (IntKind.i64.wrap (S365 h.snd (ByteArray.mk #[(58 : UInt8)]) + (↑(nat_lit 1) : Int))).toNat (↑h.snd.size : Int).toNat).extract (nat_lit 0) (S337
 (h.snd.extract (nat_lit 0) (S365 h.snd (ByteArray.mk #[(58 : UInt8)])).toNat)).fst.toNat] → ((0 : Int) ≤ (S337 (h.snd.extract (nat_lit 0) (S365 h.snd
 (ByteArray.mk #[(58 : UInt8)])).toNat)).fst ∧ (S337 (h.snd.extract (nat_lit 0) (S365 h.snd (ByteArray.mk #[(58 : UInt8)])).toNat)).fst ≤ (↑(h.snd.extract
 (IntKind.i64.wrap (S365 h.snd (ByteArray.mk #[(58 : UInt8)]) + (↑(nat_lit 1) : Int))).toNat (↑h.snd.size : Int).toNat).size : Int) ∧ (↑(h.snd.extract
 (IntKind.i64.wrap (S365 h.snd (ByteArray.mk #[(58 : UInt8)]) + (↑(nat_lit 1) : Int))).toNat (↑h.snd.size : Int).toNat).size : Int) ≤ (↑(h.snd.extract
 (IntKind.i64.wrap (S365 h.snd (ByteArray.mk #[(58 : UInt8)]) + (↑(nat_lit 1) : Int))).toNat (↑h.snd.size : Int).toNat).size : Int)) ∧ y.length = y.length ∧ J
 (y, (h.snd.extract (IntKind.i64.wrap (S365 h.snd (ByteArray.mk #[(58 : UInt8)]) + (↑(nat_lit 1) : Int))).toNat (↑h.snd.size : Int).toNat).extract (S337
 (h.snd.extract (nat_lit 0) (S365 h.snd (ByteArray.mk #[(58 : UInt8)])).toNat)).fst.toNat (↑(h.snd.extract (IntKind.i64.wrap (S365 h.snd (ByteArray.mk #[(58 :
 UInt8)]) + (↑(nat_lit 1) : Int))).toNat (↑h.snd.size : Int).toNat).size : Int).toNat) else h.snd.size.le (nat_lit 281474976710656) ∧ ([], false) = v else
 (h.fst, true) = v) ([], x0)) := by kernel_rfl
end Go.Rx
