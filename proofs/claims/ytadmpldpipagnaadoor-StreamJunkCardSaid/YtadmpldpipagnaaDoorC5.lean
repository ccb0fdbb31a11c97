import Derived.Test.YtadmpldpipagnaaDoorC4
import Derived.Recover
import Derived.Test.YtadmpldpipagnaaDoorProg
import Derived.KernelRfl
import Derived.Test.YtadmpldpipagnaaDoorRows
import Derived.OpenShut
import Derived.ProofKit
import Derived.LaidMore
import Derived.Lay
import GoSem.ClaimJoined
import Derived.JoinedTies
import Derived.ChangeArms
import Derived.Shelf.SlLaysB
import Derived.Ground.SlbNamesProg
import Derived.Shelf.Bytes.SlCountOne
set_option linter.unusedVariables false
set_option linter.unusedSimpArgs false
/-! Functions are sound. -/
namespace Go.Rx
open Go.Ab Go.RowKit
set_option linter.unusedVariables false
set_option linter.unusedSimpArgs false
section
variable {S : Sys} {C : Cfg S} {B : Base} {F : Fr S}
theorem den2_flat {p : AV S.A} (h : flatA p = true) : denV p = den2 p := by cases p <;> first | rfl | cases h
theorem res_run {s : XS S.A} {g : Gh} {a : Act} {w : World} (hr : Rel B (den F s) g a w) {r : ResultVar} {p : AV S.A} (h : resOf C F.N s r = some p) : flatA p = true ∧ ∃ v, (readRes a.tmps r).run C.P w = .ok v w ∧ Rep (denTT s.T) g (denV p) v := by
  cases r with
  | tmp t =>
    simp only [resOf] at h
    cases hf : flatA (getN F.N s t) with
    | false => rw [hf] at h; cases h
    | true =>
      rw [hf] at h
      cases h
      refine ⟨hf, _, rfl, ?_⟩
      have := hr.ev (.tmp t)
      rw [ev_den] at this
      exact this
  | cell x t =>
    simp only [resOf] at h
    split at h
    · rename_i b ag n hx ht
      split at h
      · rename_i ps hL
        cases hb : ((Nat.beq ps.length n && (ag || Nat.beq n 1)) && flatA (ofCells ag ps)) with
        | false => rw [hb] at h; cases h
        | true =>
          rw [hb] at h
          cases h
          simp only [Bool.and_eq_true] at hb
          obtain ⟨⟨hn, h1⟩, hf⟩ := hb
          have hn := Nat.eq_of_beq_eq_true hn
          refine ⟨hf, ?_⟩
          have hv : a.tmps.getD x undef = .pointer (some ⟨g.β b, 0, none⟩) := by
            have := hr.ev (.tmp x)
            rw [ev_den] at this
            have e : evA (getN F.N s) (.tmp x) = .loc b 0 := hx
            rw [e] at this
            exact this
          obtain ⟨cs, ty, hb2, hps, _, _⟩ := hr.box b (ps.map den1) (by show (s.L b).map denB = _; rw [hL]; rfl)
          have hl := repL_length hps
          rw [List.length_map] at hl
          have h1' : ag = false → n = 1 := fun e => by subst e; exact Nat.eq_of_beq_eq_true h1
          have hrun := run_loadVar (P := C.P) (tyOf_ty ht) (b := g.β b) (o := 0) (w := w) (vs := cs.toList) (by omega) h1' (fun j v hj => by
            rw [cell_blk hb2]
            simpa using hj)
          refine ⟨_, by
            simp only [readRes, hv, asAddr]
            rw [run_bind]
            simp only [run_pure]
            rw [hrun], ?_⟩
          rw [den_ofCells hn h1]
          exact ofCells_rep hps (fun e => by rw [hl, hn]; exact h1' e)
      · cases h
    · cases h
theorem repE_of {T : Nat → Option (Nat × Nat)} {g : Gh} {p : AV S.A} {v : Value} (hf : flatA p = true) (h : Rep T g (denV p) v) : RepE T g (den2 p) v := by
  rw [← den2_flat hf]
  exact rep_E (flat_ne hf) h
theorem results_run {s : XS S.A} {g : Gh} {a : Act} {w : World} (hr : Rel B (den F s) g a w) {fn : Func} {ps : List (AV S.A)} (h : resAll C F.N s fn.results.toList = some ps) (h4 : Nat.ble fn.results.toList.length 4 = true) : ∃ v, (results fn a.tmps).run C.P w = .ok v w ∧ Rep (denTT s.T) g (denV (tupA ps)) v := by
  have h4 := Nat.le_of_ble_eq_true h4
  generalize hl : fn.results.toList = l at h h4
  have hl : fn.results = l.toArray := by rw [← hl]
  have cons : ∀ {r : ResultVar} {rs : List ResultVar} {ps : List (AV S.A)}, resAll C F.N s (r :: rs) = some ps → ∃ p qs, ps = p :: qs ∧ resOf C F.N s r = some p ∧ resAll C F.N s rs = some qs := by
    intro r rs ps h
    simp only [resAll] at h
    split at h
    · rename_i p qs h1 h2; cases h; exact ⟨p, qs, rfl, h1, h2⟩
    · cases h
  match l, h, h4, hl with
  | [], h, _, hl =>
    cases h
    exact ⟨.tuple #[], by rw [results_eq, hl]; simp [run_bind, run_pure], [], rfl, rfl⟩
  | [r], h, _, hl =>
    obtain ⟨p, qs, rfl, h1, h2⟩ := cons h
    cases h2
    obtain ⟨hf, v, e, q⟩ := res_run hr h1
    exact ⟨v, by rw [results_eq, hl]; simp [run_bind, run_pure, e], q⟩
  | [r1, r2], h, _, hl =>
    obtain ⟨p1, qs, rfl, h1, h⟩ := cons h
    obtain ⟨p2, qs, rfl, h2, h⟩ := cons h
    cases h
    obtain ⟨f1, v1, e1, q1⟩ := res_run hr h1
    obtain ⟨f2, v2, e2, q2⟩ := res_run hr h2
    exact ⟨.tuple #[v1, v2], by rw [results_eq, hl]; simp [run_bind, run_pure, e1, e2], [v1, v2], rfl, v1, _, rfl, repE_of f1 q1, v2, _, rfl, repE_of f2 q2, rfl⟩
  | [r1, r2, r3], h, _, hl =>
    obtain ⟨p1, qs, rfl, h1, h⟩ := cons h
    obtain ⟨p2, qs, rfl, h2, h⟩ := cons h
    obtain ⟨p3, qs, rfl, h3, h⟩ := cons h
    cases h
    obtain ⟨f1, v1, e1, q1⟩ := res_run hr h1
    obtain ⟨f2, v2, e2, q2⟩ := res_run hr h2
    obtain ⟨f3, v3, e3, q3⟩ := res_run hr h3
    exact ⟨.tuple #[v1, v2, v3], by rw [results_eq, hl]; simp [run_bind, run_pure, e1, e2, e3], [v1, v2, v3], rfl, v1, _, rfl, repE_of f1 q1, v2, _, rfl, repE_of f2 q2, v3, _, rfl, repE_of f3 q3, rfl⟩
  | [r1, r2, r3, r4], h, _, hl =>
    obtain ⟨p1, qs, rfl, h1, h⟩ := cons h
    obtain ⟨p2, qs, rfl, h2, h⟩ := cons h
    obtain ⟨p3, qs, rfl, h3, h⟩ := cons h
    obtain ⟨p4, qs, rfl, h4, h⟩ := cons h
    cases h
    obtain ⟨f1, v1, e1, q1⟩ := res_run hr h1
    obtain ⟨f2, v2, e2, q2⟩ := res_run hr h2
    obtain ⟨f3, v3, e3, q3⟩ := res_run hr h3
    obtain ⟨f4, v4, e4, q4⟩ := res_run hr h4
    exact ⟨.tuple #[v1, v2, v3, v4], by rw [results_eq, hl]; simp [run_bind, run_pure, e1, e2, e3, e4], [v1, v2, v3, v4], rfl, v1, _, rfl, repE_of f1 q1, v2, _, rfl, repE_of f2 q2, v3, _, rfl, repE_of f3 q3, v4, _, rfl, repE_of f4 q4, rfl⟩
  | _ :: _ :: _ :: _ :: _ :: _, _, h4, _ => exfalso; simp only [List.length_cons] at h4; omega
theorem res_in {Q : Nat → Prop} {s : XS S.A} (hw : WF Q F s) {r : ResultVar} {p : AV S.A} (h : resOf C F.N s r = some p) : inV Q p := by
  cases r with
  | tmp t =>
    simp only [resOf] at h
    cases hf : flatA (getN F.N s t) <;> rw [hf] at h <;> cases h
    exact hw.env t
  | cell x t =>
    simp only [resOf] at h
    split at h
    · rename_i b ag n hx ht
      split at h
      · rename_i ps hL
        cases hb : ((Nat.beq ps.length n && (ag || Nat.beq n 1)) && flatA (ofCells ag ps)) <;> rw [hb] at h <;> cases h
        exact inV_ofCells (hw.L b _ hL).2
      · cases h
    · cases h
theorem resAll_in {Q : Nat → Prop} {s : XS S.A} (hw : WF Q F s) : ∀ {l : List ResultVar} {ps : List (AV S.A)}, resAll C F.N s l = some ps → (∀ p ∈ ps, inV Q p ∧ flatA p = true)
  | [], ps, h => by cases h; intro p hp; cases hp
  | r :: rs, ps, h => by
    simp only [resAll] at h
    split at h
    · rename_i p qs h1 h2
      cases h
      intro q hq
      rcases List.mem_cons.1 hq with rfl | hq
      · refine ⟨res_in hw h1, ?_⟩
        cases r with
        | tmp t => simp only [resOf] at h1; cases hf : flatA (getN F.N s t) <;> rw [hf] at h1 <;> cases h1; exact hf
        | cell x t =>
          simp only [resOf] at h1
          split at h1
          · rename_i bb ag n hx ht
            split at h1
            · rename_i ps hL
              cases hb : ((Nat.beq ps.length n && (ag || Nat.beq n 1)) && flatA (ofCells ag ps)) with
              | false => rw [hb] at h1; cases h1
              | true => rw [hb] at h1; cases h1; exact (Bool.and_eq_true _ _ ▸ hb).2
            · cases h1
          · cases h1
      · exact resAll_in hw h2 q hq
    · cases h
theorem tupA_in {Q : Nat → Prop} {ps : List (AV S.A)} (h : ∀ p ∈ ps, inV Q p ∧ flatA p = true) : inV Q (tupA ps) := by
  have key : inV Q (.tup ps) := by
    intro p hp
    have := h p hp
    cases p <;> first | exact this.1 | cases this.2
  match ps, h, key with
  | [], _, key => exact key
  | [p], h, _ => exact (h p (by simp)).1
  | p :: q :: r, _, key => exact key
/-- The frame of a call, with its caller's behind it. -/
def inner (F : Fr S) (N : Nat) (s : XS S.A) : Fr S := { N, ext := fun k => bif Nat.blt k N then .any else (bif Nat.blt (k - N) F.N then s.get (k - N) else F.ext (k - N)) }
def innerB (B : Base) (N : Nat) (a : Act) : Base := { B with ext := fun k => a.tmps.getD (k - N) (B.ext (k - N)), dfr := [] }
theorem getD_ge {xs : Array Value} {k : Nat} {d : Value} (h : xs.size ≤ k) : xs.getD k d = d := by
  rw [Array.getD_eq_getD_getElem?, Array.getElem?_eq_none h]; rfl
theorem xf_sound (hkm : ∀ f W, Ab.look C.K f = some (.tr W) → ∀ args k k', (∀ r, k r → k' r) → W args k → W args k') (hK : ∀ f W, Ab.look C.K f = some W → ConOk C.P f W) (hmx : C.P.follows .mixedOrders = true) : ∀ (n : Nat) (b : XS S.A), CallOk C.P b (Xf C n b)
  | 0, b => fun f args s k kp h => h.elim
  | n + 1, b => by
    intro f args s k kp h hfb hfl B hpin F Q hQ hw ha g a w vs hr hvs
    simp only [Xf] at h
    split at h <;> first | exact h.elim | skip
    rename_i fn hfn
    split at h <;> first | exact h.elim | skip
    rename_i c hbody
    split at h <;> first | exact h.elim | skip
    rename_i hlen
    rw [Bool.and_eq_true] at hlen
    obtain ⟨hla, hl4⟩ := hlen
    have hla := Nat.le_of_ble_eq_true hla
    have hlv : vs.length = args.length := by have := repT_length hvs; simpa using this
    have hC : Ok C (Xf C n) := ⟨fun b f args m k k' kp kp' => xf_mono hkm n b f args m k k' kp kp', hkm, xf_sound hkm hK hmx n, hK, hmx⟩
    generalize hβ : ({ (s.mem.over b) with env := fun i => args[i]? } : XS S.A) = β at h
    have bL : β.L = (s.over b).L := by subst hβ; rfl
    have bT : β.T = (s.over b).T := by subst hβ; rfl
    have bE : β.env = fun i => args[i]? := by subst hβ; rfl
    have eL : ((emp s.mem.c : XS S.A).over β).L = (s.over b).L := by rw [← bL]; rfl
    have eT : ((emp s.mem.c : XS S.A).over β).T = (s.over b).T := by rw [← bT]; rfl
    have eG : ∀ i, ((emp s.mem.c : XS S.A).over β).get i = match args[i]? with | some p => p | none => .any := by
      intro i
      rw [over_get]
      show β.get i = _
      unfold XS.get
      rw [bE]
      cases hp : args[i]? <;> simp only [hp]
    have gB : ∀ i, β.get i = match args[i]? with | some p => p | none => .any := by
      intro i; unfold XS.get; rw [bE]; cases hp : args[i]? <;> simp only [hp]
    refine calls_of_wp hfn hbody ?_
    have hNs : (vs.toArray ++ Array.replicate (fn.ntmps - vs.toArray.size) undef).size = fn.ntmps := by simp; omega
    have hr0 : Rel (innerB B fn.ntmps a) (den (inner F fn.ntmps (s.over b)) ((emp s.mem.c).over β)) g { tmps := vs.toArray ++ Array.replicate (fn.ntmps - vs.toArray.size) undef, defers := [] } w := by
      refine ⟨hNs, fun t => ?_, rfl, hr.imm, ?_, ?_, ?_, ?_, ?_, hr.below, hr.immle, hr.immnew, hr.pin, ?_⟩
      · show Rep (denTT ((emp s.mem.c).over β).T) g (cond (Nat.blt t fn.ntmps) (denV (((emp s.mem.c).over β).get t)) (denV ((inner F fn.ntmps (s.over b)).ext t))) _
        rw [eT]
        cases ht : Nat.blt t fn.ntmps with
        | true =>
          have ht' := blt ht
          have h1 := repT_get hvs t undef
          rw [eG]
          have e1 : (vs.toArray ++ Array.replicate (fn.ntmps - vs.toArray.size) undef).getD t ((innerB B fn.ntmps a).ext t) = vs.getD t undef := by
            rw [Array.getD_eq_getD_getElem?, List.getD_eq_getElem?_getD]
            by_cases ht2 : t < vs.length
            · rw [Array.getElem?_append_left (by simpa using ht2)]; simp [ht2]
            · rw [Array.getElem?_append_right (by simpa using ht2), List.getElem?_eq_none (by omega), Array.getElem?_replicate]
              rw [if_pos (by simp; omega)]; rfl
          show Rep _ g (denV _) ((vs.toArray ++ Array.replicate (fn.ntmps - vs.toArray.size) undef).getD t _)
          rw [e1]
          rw [List.getD_eq_getElem?_getD, List.getElem?_map] at h1
          cases hp : args[t]? with
          | none => trivial
          | some p => rw [hp] at h1; exact h1
        | false =>
          have ht' : fn.ntmps ≤ t := by
            rcases Nat.lt_or_ge t fn.ntmps with h | h
            · have : Nat.blt t fn.ntmps = true := Nat.ble_eq_true_of_le h
              rw [ht] at this; cases this
            · exact h
          show Rep _ g (denV (bif Nat.blt t fn.ntmps then .any else (bif Nat.blt (t - fn.ntmps) F.N then (s.over b).get (t - fn.ntmps) else F.ext (t - fn.ntmps)))) ((vs.toArray ++ Array.replicate (fn.ntmps - vs.toArray.size) undef).getD t _)
          rw [ht, getD_ge (by rw [hNs]; exact ht')]
          have := hr.env (t - fn.ntmps)
          have this : Rep (denTT (s.over b).T) g (cond (Nat.blt (t - fn.ntmps) F.N) (denV ((s.over b).get (t - fn.ntmps))) (denV (F.ext (t - fn.ntmps)))) (a.tmps.getD (t - fn.ntmps) (B.ext (t - fn.ntmps))) := this
          simp only [cond_false]
          show Rep _ g _ (a.tmps.getD (t - fn.ntmps) (B.ext (t - fn.ntmps)))
          cases hk : Nat.blt (t - fn.ntmps) F.N <;> (rw [hk] at this; exact this)
      · intro i ps hi
        exact (show ∃ cs ty, w.heap[g.β i]? = some (.cells cs ty (0, 0)) ∧ RepL (denTT ((emp s.mem.c).over β).T) g ps cs.toList ∧ _ by rw [eT]; exact hr.box i ps (by show ((s.over b).L i).map _ = _; rw [← eL]; exact hi))
      · intro i i' ps ps' h1 h2
        exact hr.apart i i' ps ps' (by show ((s.over b).L i).map _ = _; rw [← eL]; exact h1) (by show ((s.over b).L i').map _ = _; rw [← eL]; exact h2)
      · intro t sz m b' c h1 h2
        exact hr.tip t sz m b' c (by show denTT (s.over b).T t = _; rw [← eT]; exact h1) h2
      · intro t t' x x' b' b'' c c' h1 h2
        exact hr.tips t t' x x' b' b'' c c' (by show denTT (s.over b).T t = _; rw [← eT]; exact h1) (by show denTT (s.over b).T t' = _; rw [← eT]; exact h2)
      · intro i ps t x b' c h1 h2
        exact hr.boxtip i ps t x b' c (by show ((s.over b).L i).map _ = _; rw [← eL]; exact h1) (by show denTT (s.over b).T t = _; rw [← eT]; exact h2)
      · intro t ps hps
        have := hr.prv t ps (by show denM (s.over b).T t = _; rw [← eT]; exact hps)
        exact this.mono (by show denTT ((emp s.mem.c).over β).T t = denTT (s.over b).T t; rw [eT]) rfl (Imm.le_refl _) fun _ _ _ => ⟨fun _ => rfl, rfl⟩
    have argIn : ∀ (i : Nat) (p : AV S.A), args[i]? = some p → inV Q p ∧ noG p := by
      intro i p hp
      have hm := List.mem_of_getElem? hp
      exact ⟨ha p hm, by have := hfl p hm; cases p <;> first | trivial | cases this⟩
    have hw0 : WF (Bd Q s.c (emp s.mem.c : XS S.A).c) (inner F fn.ntmps (s.over b)) ((emp s.mem.c).over β) := by
      refine ⟨fun i => ?_, fun i ps hi => ?_, fun q x hq => ?_, fun i => ?_⟩
      · unfold getN
        cases Nat.blt i (inner F fn.ntmps (s.over b)).N with
        | false => trivial
        | true =>
          simp only [cond_true]
          rw [eG]
          cases hp : args[i]? with
          | none => trivial
          | some p => exact inV_mono (fun _ => .inl) (argIn i p hp).1
      · rw [eL] at hi
        have := hw.L i ps hi
        exact ⟨.inl this.1, fun p hp => in1_mono (fun _ => .inl) (this.2 p hp)⟩
      · rw [eT] at hq; exact .inl (hw.T q x hq)
      · refine inV_mono (fun _ => .inl) ?_
        show inV Q (bif Nat.blt i fn.ntmps then .any else (bif Nat.blt (i - fn.ntmps) F.N then (s.over b).get (i - fn.ntmps) else F.ext (i - fn.ntmps)))
        cases Nat.blt i fn.ntmps with
        | true => trivial
        | false =>
          cases hk : Nat.blt (i - fn.ntmps) F.N with
          | true => exact hw.get hk
          | false => exact hw.ext _
    have hbn : ∀ i, noG (getN (inner F fn.ntmps (s.over b)).N β i) := by
      intro i
      unfold getN
      cases Nat.blt i (inner F fn.ntmps (s.over b)).N with
      | false => trivial
      | true =>
        simp only [cond_true]
        rw [gB]
        cases hp : args[i]? with
        | none => trivial
        | some p => exact (argIn i p hp).2
    have key := xc_sound (F := inner F fn.ntmps (s.over b)) (B := innerB B fn.ntmps a) (K0 := Q) (l0 := s.c) hQ hC ⟨hpin.pin, hpin.gl⟩ c β (emp s.mem.c) _ hbn (Nat.le_refl _) hw0 h g _ w hr0
    · refine wp_mono key ?_
      rintro e a' w' ⟨σ, g', hr', ⟨s', hc', hws, hmatch⟩, hpay⟩
      -- the state behind the call, as its caller sees it
      have mL : ∀ (m : XS S.A), m.L = (fun i => orE (s'.L i) (s.mem.L i)) → ((s.withM m).over b).L = (s'.over β).L := by
        intro m hm
        funext i
        show orE (m.L i) (b.L i) = orE (s'.L i) (β.L i)
        rw [hm, bL]
        show orE (orE (s'.L i) (s.L i)) (b.L i) = orE (s'.L i) (orE (s.L i) (b.L i))
        cases s'.L i <;> rfl
      have mT : ∀ (m : XS S.A), m.T = (fun i => orE (s'.T i) (s.mem.T i)) → ((s.withM m).over b).T = (s'.over β).T := by
        intro m hm
        funext i
        show orE (m.T i) (b.T i) = orE (s'.T i) (β.T i)
        rw [hm, bT]
        show orE (orE (s'.T i) (s.T i)) (b.T i) = orE (s'.T i) (orE (s.T i) (b.T i))
        cases s'.T i <;> rfl
      have mG : ∀ (m : XS S.A) i, ((s.withM m).over b).get i = (s.over b).get i := fun m i => rfl
      have back : ∀ (m : XS S.A), m.L = (fun i => orE (s'.L i) (s.mem.L i)) → m.T = (fun i => orE (s'.T i) (s.mem.T i)) → Rel (innerB B fn.ntmps a) (den (inner F fn.ntmps (s.over b)) (s'.over β)) g' a' w' → Rel B (den F ((s.withM m).over b)) g' a w' := by
        intro m h1 h2 hr'
        have e1 := mL m h1
        have e2 := mT m h2
        refine ⟨hr.size, fun t => ?_, hr.defers, hr'.imm, ?_, ?_, ?_, ?_, ?_, hr'.below, hr'.immle, hr'.immnew, hr'.pin, ?_⟩
        · have h3 := hr'.env (fn.ntmps + t)
          have hge : a'.tmps.size ≤ fn.ntmps + t := by rw [hr'.size]; exact Nat.le_add_right _ _
          rw [getD_ge hge] at h3
          have hlt : Nat.blt (fn.ntmps + t) fn.ntmps = false := by
            cases hq : Nat.blt (fn.ntmps + t) fn.ntmps with
            | false => rfl
            | true => have := blt hq; omega
          have h3 : Rep (denTT (s'.over β).T) g' (cond (Nat.blt (fn.ntmps + t) fn.ntmps) (denV ((s'.over β).get (fn.ntmps + t))) (denV (bif Nat.blt (fn.ntmps + t) fn.ntmps then .any else (bif Nat.blt (fn.ntmps + t - fn.ntmps) F.N then (s.over b).get (fn.ntmps + t - fn.ntmps) else F.ext (fn.ntmps + t - fn.ntmps))))) (a.tmps.getD (fn.ntmps + t - fn.ntmps) (B.ext (fn.ntmps + t - fn.ntmps))) := h3
          rw [hlt, Nat.add_sub_cancel_left] at h3
          show Rep (denTT ((s.withM m).over b).T) g' (cond (Nat.blt t F.N) (denV ((s.over b).get t)) (denV (F.ext t))) _
          rw [e2]
          simp only [cond_false] at h3
          cases hk : Nat.blt t F.N <;> (rw [hk] at h3; exact h3)
        · intro i ps hi
          have := hr'.box i ps (by show ((s'.over β).L i).map _ = _; rw [← e1]; exact hi)
          show ∃ cs ty, w'.heap[g'.β i]? = some (.cells cs ty (0, 0)) ∧ RepL (denTT ((s.withM m).over b).T) g' ps cs.toList ∧ _
          rw [e2]
          exact this
        · intro i i' ps ps' k1 k2
          exact hr'.apart i i' ps ps' (by show ((s'.over β).L i).map _ = _; rw [← e1]; exact k1) (by show ((s'.over β).L i').map _ = _; rw [← e1]; exact k2)
        · intro t sz m' b' c k1 k2
          exact hr'.tip t sz m' b' c (by show denTT (s'.over β).T t = _; rw [← e2]; exact k1) k2
        · intro t t' x x' b' b'' c c' k1 k2
          exact hr'.tips t t' x x' b' b'' c c' (by show denTT (s'.over β).T t = _; rw [← e2]; exact k1) (by show denTT (s'.over β).T t' = _; rw [← e2]; exact k2)
        · intro i ps t x b' c k1 k2
          exact hr'.boxtip i ps t x b' c (by show ((s'.over β).L i).map _ = _; rw [← e1]; exact k1) (by show denTT (s'.over β).T t = _; rw [← e2]; exact k2)
        · intro t ps hps
          have := hr'.prv t ps (by show denM (s'.over β).T t = _; rw [← e2]; exact hps)
          exact this.mono (by show denTT ((s.withM m).over b).T t = denTT (s'.over β).T t; rw [e2]) rfl (Imm.le_refl _) fun _ _ _ => ⟨fun _ => rfl, rfl⟩
      have wfm : ∀ (m : XS S.A), m.L = (fun i => orE (s'.L i) (s.mem.L i)) → m.T = (fun i => orE (s'.T i) (s.mem.T i)) → WF (Bd Q s.c s'.c) F ((s.withM m).over b) := by
        intro m h1 h2
        have e1 := mL m h1
        have e2 := mT m h2
        exact ⟨fun i => inV_mono (fun _ => .inl) (hw.env i), fun i ps hi => hws.L i ps (by rw [← e1]; exact hi), fun q x hq => hws.T q x (by rw [← e2]; exact hq), fun i => inV_mono (fun _ => .inl) (hw.ext i)⟩
      have ret : ∀ {Ψ : Prop}, σ = den (inner F fn.ntmps (s.over b)) (s'.over β) → (match resAll C fn.ntmps (s'.over β) fn.results.toList with
            | some ps => k (tupA ps) { s.mem with L := fun i => orE (s'.L i) (s.mem.L i), T := fun i => orE (s'.T i) (s.mem.T i), c := s'.c }
            | none => False) → a'.defers = [] ∧ ∃ v, (results fn a'.tmps).run C.P w' = .ok v w' ∧ ∃ r m g', k r m ∧ s.c ≤ m.c ∧ WF (fun n => Q n ∨ (s.c ≤ n ∧ n < m.c)) F ((s.withM m).over b) ∧ inV (fun n => Q n ∨ (s.c ≤ n ∧ n < m.c)) r ∧ Rel B (den F ((s.withM m).over b)) g' a w' ∧ Rep (denTT ((s.withM m).over b).T) g' (denV r) v := by
        intro Ψ hσ hm
        subst hσ
        split at hm <;> first | exact hm.elim | skip
        rename_i ps hps
        obtain ⟨v, hv1, hv2⟩ := results_run (F := inner F fn.ntmps (s.over b)) hr' hps hl4
        refine ⟨hr'.defers, v, hv1, tupA ps, _, g', hm, hc', wfm _ rfl rfl, tupA_in (resAll_in (F := inner F fn.ntmps (s.over b)) hws hps), back _ rfl rfl hr', ?_⟩
        rw [mT _ rfl]
        exact hv2
      cases e with
      | ret => exact ret (Ψ := True) hmatch.1 hmatch.2
      | normal => exact ret (Ψ := True) hmatch.1 hmatch.2
      | exit id => exact hmatch.2.elim
      | goto l => exact hmatch.elim
      | outgrown => exact hmatch.elim
      | panic ch =>
        obtain ⟨p, rfl, hp1, hp2⟩ := hmatch
        obtain ⟨v, hch, hv⟩ := hpay
        have hr2 : Rel (innerB B fn.ntmps a) (den (inner F fn.ntmps (s.over b)) (s'.over β)) g' a' w' := Rel.pay hr' _
        refine ⟨hr'.defers, p, _, g', v, ⟨_, hp2, rfl⟩, hc', wfm _ rfl rfl, hp1, back _ rfl rfl hr2, hch, ?_⟩
        rw [mT _ rfl]
        exact hv
end
end Go.Rx
/-! Contracts. -/
namespace Go.Rx
open Go.Ab Go.RowKit
set_option linter.unusedVariables false
set_option linter.unusedSimpArgs false
section
variable {S : Sys} {C : Cfg S} {P : Program}
/-- A cell of plain data. -/
def PL (p : AV S.A) : Prop := (∃ v, p = .sc v ∧ v.oneCell' = true) ∨ ∃ t l, p = .sl t l
theorem pl_avs : ∀ (lv : List Leaf) (h : HL S.A lv), ∀ p ∈ avsH lv h, PL p
  | [], _, p, hp => by cases hp
  | x :: xs, h, p, hp => by
    rcases List.mem_cons.1 hp with rfl | hp
    · cases x with
      | sl t => exact .inr ⟨_, _, rfl⟩
      | _ => exact .inl ⟨_, rfl, rfl⟩
    · exact pl_avs xs h.2 p hp
theorem pl_av (t : Nat) (x : S.A t) : ∀ p ∈ av S t x, PL p := pl_avs _ _
structure Plain (p : AV S.A) : Prop where
  flat : flatA p = true
  clean : (denV p).clean = true
  clean2 : (den2 p).clean2 = true
  strip : (denV p).strip = denV p
  strip2 : (den2 p).strip2 = den2 p
  ins : inV (fun _ => False) p
  d2 : denV p = den2 p
theorem plain_pl {p : AV S.A} (h : PL p) : Plain p := by
  rcases h with ⟨v, rfl, hv1⟩ | ⟨t, l, rfl⟩ <;> exact ⟨rfl, rfl, rfl, rfl, rfl, trivial, rfl⟩
theorem plain_any : Plain (.any : AV S.A) := ⟨rfl, rfl, rfl, rfl, rfl, trivial, rfl⟩
theorem plain_agg {cs : List (AV S.A)} (h : ∀ p ∈ cs, PL p) : Plain (.agg cs) := by
  have h1 : (cs.map den1).all PV.clean1 = true := by
    rw [List.all_map, List.all_eq_true]
    intro p hp
    rcases h p hp with ⟨v, rfl, hv1⟩ | ⟨t, l, rfl⟩ <;> rfl
  have h2 : (cs.map den1).map PV.strip1 = cs.map den1 := by
    rw [List.map_map]
    refine List.map_congr_left fun p hp => ?_
    rcases h p hp with ⟨v, rfl, hv1⟩ | ⟨t, l, rfl⟩ <;> rfl
  refine ⟨rfl, h1, h1, ?_, ?_, ?_, rfl⟩
  · show PV.agg ((cs.map den1).map PV.strip1) = .agg (cs.map den1); rw [h2]
  · show PV.agg ((cs.map den1).map PV.strip1) = .agg (cs.map den1); rw [h2]
  · intro p hp
    rcases h p hp with ⟨v, rfl, hv1⟩ | ⟨t, l, rfl⟩ <;> trivial
theorem plain_arg (t : Nat) (x : S.A t) : Plain (argA P t x) := by
  unfold argA
  split
  · exact plain_agg (pl_av t x)
  · unfold ofCells
    simp only
    split
    · rename_i p hp
      have := pl_av t x p (by rw [hp]; simp)
      rcases this with ⟨v, rfl, hv1⟩ | ⟨u, l, rfl⟩
      · exact plain_pl (.inl ⟨v, rfl, hv1⟩)
      · exact plain_pl (.inr ⟨u, l, rfl⟩)
    · exact plain_any
theorem oneA_pl {p : AV S.A} (h : PL p) : oneA p = p := by rcases h with ⟨v, rfl, hv1⟩ | ⟨t, l, rfl⟩ <;> rfl
theorem dArg_wk {t : Nat} {p : AV S.A} {x : S.A t} (h : dArg P t p = some x) : flatA p = true ∧ Ab.WkA (den2 p).strip2 (den2 (argA P t x)) := by
  unfold dArg at h
  unfold argA
  split at h
  · rename_i n ht
    split at h
    · rename_i cs
      refine ⟨rfl, .agg ?_⟩
      have := dec_wk h
      rw [← av_den] at this
      rw [List.map_map]
      exact this
    · cases h
  · rename_i ht
    have key : ∀ {p : AV S.A}, dec S t [p] = some x → (den2 p) = den1 p → flatA p = true → (den1 p).strip2 = (den1 p).strip1 → flatA p = true ∧ Ab.WkA (den2 p).strip2 (den2 (ofCells false (av S t x))) := by
      intro p hd h2 hf hs
      refine ⟨hf, ?_⟩
      have := dec_wk hd
      rw [← av_den] at this
      cases hav : av S t x with
      | nil => rw [hav] at this; cases this
      | cons q qs =>
        cases qs with
        | cons q2 qs => rw [hav] at this; cases this with | cons _ h => cases h
        | nil =>
          rw [hav] at this
          have hq := pl_av t x q (by rw [hav]; simp)
          cases this with
          | cons hw _ =>
            rw [h2, hs]
            show Ab.WkA _ (den2 (oneA q))
            rw [oneA_pl hq]
            have : den2 q = den1 q := by rcases hq with ⟨v, rfl, hv1⟩ | ⟨u, l, rfl⟩ <;> rfl
            rw [this]
            exact .one hw
    split at h <;> first | (cases h; done) | skip
    rename_i n1 n2 n3
    refine key h ?_ ?_ ?_ <;> (cases p <;> first | rfl | exact absurd rfl (n1 _) | exact absurd rfl (n2 _) | exact absurd rfl (n3 _ _ _))
theorem decL_wk : ∀ {rts : List Nat} {ps : List (AV S.A)} {y : HR S rts}, decL P rts ps = some y → Ab.WkT ((ps.map den2).map PV.strip2) ((encL P rts y).map den2)
  | [], [], y, h => .nil
  | [t], [p], y, h => .cons (dArg_wk h).2 .nil
  | t :: u :: r, p :: ps, y, h => by
    simp only [decL] at h
    split at h <;> first | (cases h; done) | skip
    rename_i x hx
    split at h <;> first | (cases h; done) | skip
    rename_i z hz
    cases h
    exact .cons (dArg_wk hx).2 (decL_wk hz)
  | [], _ :: _, y, h => by simp [decL] at h
  | [t], [], y, h => by simp [decL] at h
  | [t], _ :: _ :: _, y, h => by simp [decL] at h
  | t :: u :: r, [], y, h => by simp [decL] at h
theorem encL_plain : ∀ (rts : List Nat) (y : HR S rts), ∀ p ∈ encL P rts y, Plain p
  | [], y, p, hp => by cases hp
  | [t], y, p, hp => by obtain rfl := List.mem_singleton.1 hp; exact plain_arg t y
  | t :: u :: r, y, p, hp => by
    rcases List.mem_cons.1 hp with rfl | hp
    · exact plain_arg t y.1
    · exact encL_plain (u :: r) y.2 p hp
theorem encL_len : ∀ (rts : List Nat) (y : HR S rts), (encL P rts y).length = rts.length
  | [], y => rfl
  | [t], y => rfl
  | t :: u :: r, y => by simp [encL, encL_len (u :: r)]
theorem enc_clean (rts : List Nat) (y : HR S rts) : (denV (tupA (encL P rts y))).clean = true := by
  have h := encL_plain (P := P) rts y
  have ht : (denV (.tup (encL P rts y))).clean = true := by
    show ((encL P rts y).map den2).all PV.clean2 = true
    rw [List.all_map, List.all_eq_true]
    exact fun p hp => (h p hp).clean2
  unfold tupA
  split
  · rename_i p hp; exact (h p (by rw [hp]; simp)).clean
  · exact ht
theorem rep_enc {T : Nat → Option (Nat × Nat)} {g : Gh} {rts : List Nat} {y : HR S rts} {r : AV S.A} {v : Value} (hd : decR P rts r = some y) (hr : Rep T g (denV r) v) : Rep noT (gh g.imm) (denV (tupA (encL P rts y))) v := by
  have hs := rep_strip (Imm.le_refl g.imm) hr
  have tup : ∀ {rts : List Nat} {y : HR S rts} {r : AV S.A}, (∀ p, encL P rts y ≠ [p]) → (∃ ps, r = .tup ps ∧ decL P rts ps = some y) → Rep noT (gh g.imm) (denV r).strip v → Rep noT (gh g.imm) (denV (tupA (encL P rts y))) v := by
    rintro rts y r hne ⟨ps, rfl, hl⟩ ⟨vs, e, hT⟩
    have : tupA (encL P rts y) = .tup (encL P rts y) := by
      unfold tupA
      split
      · rename_i p hp; exact absurd hp (hne p)
      · rfl
    rw [this]
    exact ⟨vs, e, wk_repT (decL_wk hl) hT⟩
  match rts, y, hd with
  | [t], y, hd =>
    obtain ⟨hf, hw⟩ := dArg_wk hd
    have h1 : denV r = den2 r := den2_flat hf
    have h2 := (plain_arg (P := P) t y)
    show Rep noT (gh g.imm) (denV (argA P t y)) v
    rw [h2.d2]
    rw [h1] at hs
    have hne : ∀ vs, (den2 r).strip ≠ .tup vs := by
      have := strip_ne (flat_ne hf)
      rw [h1] at this
      exact this
    have hs2 := rep_E hne hs
    have e : (den2 r).strip = (den2 r).strip2 := strip_other _ (fun cs e => by rw [← h1] at e; exact flat_ne hf cs e)
    rw [e] at hs2
    have := wk_repE hw hs2
    exact rep_ofE this
  | [], y, hd =>
    refine tup (fun p h => by cases h) ?_ hs
    cases r <;> first | exact ⟨_, rfl, hd⟩ | cases hd
  | t :: u :: l, y, hd =>
    refine tup (fun p h => by have := congrArg List.length h; rw [encL_len] at this; simp at this) ?_ hs
    cases r <;> first | exact ⟨_, rfl, hd⟩ | cases hd
/-! ### Contracts out of bodies -/
def ConMon : Con S.A → Prop
  | .tr W => ∀ args k k', (∀ r, k r → k' r) → W args k → W args k'
  | .fn _ => True
  | .srt _ _ _ _ => True
  | .own _ _ => True
structure KOk (P : Program) (K : List (Nat × Con S.A)) : Prop where
  ok : ∀ x ∈ K, ConOk P x.1 x.2
  mon : ∀ x ∈ K, ConMon x.2
theorem kok_nil : KOk P ([] : List (Nat × Con S.A)) := ⟨fun x h => (by cases h), fun x h => (by cases h)⟩
theorem kok_cons {f : Nat} {W : Con S.A} {K : List (Nat × Con S.A)} (h : ConOk P f W ∧ ConMon W) (hs : KOk P K) : KOk P ((f, W) :: K) :=
  ⟨List.forall_mem_cons.2 ⟨h.1, hs.ok⟩, List.forall_mem_cons.2 ⟨h.2, hs.mon⟩⟩
theorem KOk.km {K : List (Nat × Con S.A)} (h : KOk P K) : ∀ f W, Ab.look K f = some (.tr W) → ∀ args k k', (∀ r, k r → k' r) → W args k → W args k' := fun f W hl => h.mon _ (look_mem hl)
theorem KOk.k {K : List (Nat × Con S.A)} (h : KOk P K) : ∀ f W, Ab.look K f = some W → ConOk P f W := fun f W hl => h.ok _ (look_mem hl)
theorem appC_mono {rts : List Nat} : ∀ (ts : List Nat) (W : CT S rts ts) (args : List (AV S.A)) (k k' : AV S.A → Prop), (∀ r, k r → k' r) → appC P rts ts W args k → appC P rts ts W args k'
  | [], W, [], k, k', hk, h => withP_mono (hk _) h
  | [], W, _ :: _, k, k', hk, h => h.elim
  | t :: ts, W, [], k, k', hk, h => h.elim
  | t :: ts, W, p :: ps, k, k', hk, h => by
    simp only [appC] at h ⊢
    split at h
    · exact appC_mono ts _ ps k k' hk h
    · exact h
/-- No list is longer than a slice may be. -/
def OkL {A : Nat → Type} (ok : (t : Nat) → A t → Prop) : (lv : List Leaf) → HL A lv → Prop
  | [], _ => True
  | .sl t :: xs, h => (h.1.length ≤ 9223372036854775807 ∧ ∀ y ∈ h.1, ok t y) ∧ OkL ok xs h.2
  | .int _ :: xs, h => OkL ok xs h.2
  | .bool :: xs, h => OkL ok xs h.2
  | .str :: xs, h => OkL ok xs h.2
def OkA (S : Sys) : Nat → (t : Nat) → S.A t → Prop
  | 0, _, _ => True
  | n + 1, t, x => OkL (OkA S n) (S.shp t).lv ((S.shp t).toH x)
theorem okL_rep {T : Nat → Option (Nat × Nat)} {g : Gh} {ok : (t : Nat) → S.A t → Prop} (ih : ∀ (t : Nat) (x : S.A t) (vs : List Value) (i : Imm), RepL noT (gh i) ((S.E t).pv x) vs → ok t x) : ∀ (lv : List Leaf) (h : HL S.A lv) (vs : List Value), RepL T g (pvsH S.E lv h) vs → OkL ok lv h
  | [], _, _, _ => trivial
  | .sl t :: xs, h, vs, ⟨v, vs', _, h1, _, h3⟩ => by
    have h1 : sliceH (S.E t) h.1 g.imm v := h1
    refine ⟨⟨lenH h1, fun y hy => ?_⟩, okL_rep ih xs h.2 vs' h3⟩
    obtain ⟨i, hi⟩ := List.getElem?_of_mem hy
    obtain ⟨A, c, _, _, _, _, h4⟩ := h1
    obtain ⟨b, o, _, h5⟩ := h4 (fun e => by rw [e] at hy; cases hy)
    obtain ⟨us, h6, _⟩ := h5 i y hi
    exact ih t y us g.imm h6
  | .int _ :: xs, h, vs, ⟨v, vs', _, _, _, h3⟩ => okL_rep ih xs h.2 vs' h3
  | .bool :: xs, h, vs, ⟨v, vs', _, _, _, h3⟩ => okL_rep ih xs h.2 vs' h3
  | .str :: xs, h, vs, ⟨v, vs', _, _, _, h3⟩ => okL_rep ih xs h.2 vs' h3
theorem okA_rep : ∀ (n t : Nat) (x : S.A t) (vs : List Value) (T : Nat → Option (Nat × Nat)) (g : Gh), RepL T g ((S.E t).pv x) vs → OkA S n t x
  | 0, _, _, _, _, _, _ => trivial
  | n + 1, t, x, vs, T, g, h => by
    rw [S.law] at h
    exact okL_rep (fun t x vs i h => okA_rep n t x vs _ _ h) _ _ _ h
theorem repT_at {T : Nat → Option (Nat × Nat)} {g : Gh} : ∀ {ps : List PV} {vs : List Value} {i : Nat} {q : PV}, RepT T g ps vs → ps[i]? = some q → ∃ v, RepE T g q v
  | [], _, i, q, _, h => by cases h
  | p :: ps, _, 0, q, ⟨v, vs', e, h1, h2⟩, h => by cases h; exact ⟨v, h1⟩
  | p :: ps, _, i + 1, q, ⟨v, vs', e, h1, h2⟩, h => repT_at h2 (by simpa using h)
theorem okA_arg {T : Nat → Option (Nat × Nat)} {g : Gh} {t : Nat} {p : AV S.A} {x : S.A t} {v : Value} (hx : dArg P t p = some x) (h : RepE T g (den2 (argA P t x)) v) (n : Nat) : OkA S n t x := by
  unfold dArg at hx
  unfold argA at h
  split at h
  · obtain ⟨vs, _, hl⟩ := h
    rw [av_den] at hl
    exact okA_rep n t x vs _ _ hl
  · rename_i hne
    split at hx
    · rename_i m ht; exact absurd ht (hne m)
    · split at hx <;> first | (cases hx; done) | skip
      have := dec_wk hx
      rw [← av_den] at this
      cases hav : av S t x with
      | nil => rw [hav] at this; cases this
      | cons q qs =>
        cases qs with
        | cons q2 qs => rw [hav] at this; cases this with | cons _ h => cases h
        | nil =>
          have hq := pl_av t x q (by rw [hav]; simp)
          rw [hav] at h
          have h : RepE T g (den2 (oneA q)) v := h
          rw [oneA_pl hq] at h
          have hone : v.oneCell' = true := by
            rcases hq with ⟨u, rfl, hv1⟩ | ⟨u, l, rfl⟩
            · have h : v = u := h
              rw [h]; exact hv1
            · exact (SL (S.E u) l).one h
          refine okA_rep n t x [v] T g ?_
          rw [← av_den, hav]
          refine ⟨v, [], rfl, ?_, hone, rfl⟩
          rcases hq with ⟨u, rfl, hv1⟩ | ⟨u, l, rfl⟩ <;> exact h
/-- What is to be shown of a function: its run, from any arguments. -/
def RunC (C : Cfg S) (n f : Nat) (rts : List Nat) : (ts : List Nat) → CT S rts ts → List (Sigma S.A) → Prop
  | [], W, acc => (∀ q, W.1 = some q → q) → Xf C n (emp 0) f (argsA C acc) (emp 0) (fun r _ => isR C.P rts W.2 r) (fun _ _ => False)
  | t :: ts, W, acc => ∀ x, OkA S 5 t x → RunC C n f rts ts (W x) (acc ++ [⟨t, x⟩])
theorem argsA_app (l : List (Sigma S.A)) (t : Nat) (x : S.A t) : argsA C (l ++ [⟨t, x⟩]) = argsA C l ++ [argA C.P t x] := by
  induction l with
  | nil => rfl
  | cons a l ih => obtain ⟨u, y⟩ := a; simp [argsA, ih]
theorem argsA_plain : ∀ (l : List (Sigma S.A)), ∀ p ∈ argsA C l, Plain p
  | [], p, hp => by cases hp
  | ⟨t, x⟩ :: l, p, hp => by
    rcases List.mem_cons.1 hp with rfl | hp
    · exact plain_arg t x
    · exact argsA_plain l p hp
theorem wkT_app {ps qs ps' qs' : List PV} (h : Ab.WkT ps qs) (h' : Ab.WkT ps' qs') : Ab.WkT (ps ++ ps') (qs ++ qs') := by
  induction h with
  | nil => exact h'
  | cons h _ ih => exact .cons h ih
theorem pf_run {n f : Nat} {args : List (AV S.A)} {rts : List Nat} {y : HR S rts} (hKK : KOk C.P C.K) (hmx : C.P.follows .mixedOrders = true) (hf : fnB C.P f = true) (hpl : ∀ p ∈ args, Plain p)
    (h : Xf C n (emp 0) f args (emp 0) (fun r _ => isR C.P rts y r) (fun _ _ => False)) : PFk (S := S) C.P f (args.map stripA) (fun q => q = tupA (encL C.P rts y)) := by
  intro imm w vs hok hgl hargs
  have ha : (args.map stripA) = args.map denV := List.map_congr_left fun p hp => (hpl p hp).strip
  rw [ha] at hargs
  have hr : Rel ⟨w, imm, noF, noPin, fun _ => undef, []⟩ (den (⟨0, fun _ => .any⟩ : Fr S) ((emp 0 : XS S.A).over (emp 0))) (gh imm) { tmps := #[], defers := [] } w := by
    refine { size := rfl, env := ?_, defers := rfl, imm := hok, box := ?_, apart := ?_, tip := ?_, tips := ?_, boxtip := ?_, below := ⟨rfl, rfl, rfl, Nat.le_refl _, fun _ _ _ => rfl⟩, immle := Imm.le_refl _, immnew := fun _ _ _ h => .inl h, pin := ?_, prv := fun _ _ h => by cases h }
    · intro t
      have : Nat.blt t 0 = false := by cases hq : Nat.blt t 0 with | false => rfl | true => have := blt hq; omega
      show Rep noT (gh imm) (cond (Nat.blt t 0) (denV (((emp 0 : XS S.A).over (emp 0)).get t)) (denV (.any : AV S.A))) _
      rw [this]
      trivial
    · intro s ps h; cases h
    · intro s s' ps ps' h; cases h
    · intro t sz m b c h; cases h
    · intro t t' x x' b b' c c' h; cases h
    · intro s ps t x b c h; cases h
    · intro s b h; cases h
  have hw : WF (fun _ => False) (⟨0, fun _ => .any⟩ : Fr S) ((emp 0 : XS S.A).over (emp 0)) := by
    refine ⟨fun k => ?_, fun i ps h => (by cases h), fun q x h => (by cases h), fun k => trivial⟩
    unfold getN
    cases Nat.blt k 0 <;> trivial
  refine (xf_sound hKK.km hKK.k hmx n (emp 0) f args (emp 0) _ _ h hf (fun p hp => (hpl p hp).flat) _ ⟨fun _ => rfl, hgl⟩ (⟨0, fun _ => .any⟩ : Fr S) (fun _ => False) (fun _ h => h.elim) hw (fun p hp => (hpl p hp).ins) (gh imm) _ w vs hr hargs).mono ?_
  rintro e w' he
  cases e with
  | returned v =>
    obtain ⟨r, m, g', h1, h2, h3, h4, h5, h6⟩ := he
    have hd : decR C.P rts r = some y := by
      unfold isR at h1
      split at h1
      · rename_i z hz; rw [hz, h1]
      · exact h1.elim
    refine ⟨_, v, g'.imm, rfl, enc_clean rts y, rfl, h5.immle, h5.imm, fun b o u hu => ?_, rep_enc hd h6, ?_⟩
    · rcases h5.immnew b o u hu with h | h | h
      · exact .inl h
      · exact .inr h
      · exact h.elim
    · obtain ⟨k1, k2, k3, k4, k5⟩ := h5.below
      exact ⟨k1, k2, k3, k4, fun k hk => k5 k hk (fun h => h)⟩
  | panicked ch =>
    obtain ⟨p, s', g', v, ⟨m, h1, _⟩, _⟩ := he
    exact h1.elim
  | outgrown => exact he.elim
theorem con_of {n f : Nat} {rts : List Nat} (hKK : KOk C.P C.K) (hmx : C.P.follows .mixedOrders = true) (hf : fnB C.P f = true) {k : AV S.A → Prop} {imm : Imm} {w : World} {vs : List Value} (hok : ImmOk imm w) (hgl : GlobOk S imm) : ∀ (ts : List Nat) (W : CT S rts ts) (acc : List (Sigma S.A)) (qs args : List (AV S.A)), RunC C n f rts ts W acc → Ab.WkT (qs.map stripA) ((argsA C acc).map denV) → appC C.P rts ts W args k →
    RepT noT (gh imm) ((qs ++ args).map stripA) vs → Calls C.P f vs.toArray w fun e w' =>
      ∃ r v imm', k r ∧ (denV r).clean = true ∧ e = .returned v ∧ Imm.le imm imm' ∧ ImmOk imm' w' ∧ (∀ b o u, imm' b o = some u → imm b o = some u ∨ w.heap.size ≤ b) ∧ Rep noT (gh imm') (denV r) v ∧ Below w.heap.size w w'
  | [], W, acc, qs, [], hrun, hwk, h, hargs => by
    obtain ⟨hp, hk⟩ := withP_iff h
    rw [List.append_nil] at hargs
    have h1 := pf_run hKK hmx hf (argsA_plain acc) (hrun hp) imm w vs hok hgl (by
      rw [show (argsA C acc).map stripA = (argsA C acc).map denV from List.map_congr_left fun p hp => (argsA_plain acc p hp).strip]
      exact wk_repT hwk hargs)
    refine h1.mono ?_
    rintro e w' ⟨r, v, imm', rfl, h2, h3⟩
    exact ⟨_, v, imm', hk, h2, h3⟩
  | [], W, acc, qs, _ :: _, hrun, hwk, h, _ => h.elim
  | t :: ts, W, acc, qs, [], hrun, hwk, h, _ => h.elim
  | t :: ts, W, acc, qs, p :: ps, hrun, hwk, h, hargs => by
    simp only [appC] at h
    split at h <;> first | exact h.elim | skip
    rename_i x hx
    obtain ⟨hfl, hw⟩ := dArg_wk hx
    have h1 : denV p = den2 p := den2_flat hfl
    have e : (den2 p).strip = (den2 p).strip2 := strip_other _ (fun cs e => by rw [← h1] at e; exact flat_ne hfl cs e)
    have hs : stripA p = (den2 p).strip2 := by show (denV p).strip = _; rw [h1, e]
    have hOk : OkA S 5 t x := by
      obtain ⟨v, hv⟩ := repT_at (i := qs.length) hargs (q := stripA p) (by simp)
      rw [hs] at hv
      exact okA_arg hx (wk_repE hw hv) 5
    refine con_of hKK hmx hf hok hgl ts (W x) (acc ++ [⟨t, x⟩]) (qs ++ [p]) ps (hrun x hOk) (by
      rw [argsA_app, List.map_append, List.map_append]
      refine wkT_app hwk (.cons ?_ .nil)
      rw [(plain_arg (P := C.P) t x).d2, hs]
      exact hw) h (by rw [List.append_assoc]; exact hargs)
/-- **A function keeps a contract.** -/
theorem con_ok {n f : Nat} {ts rts : List Nat} {W : CT S rts ts} (hKK : KOk C.P C.K) (hmx : C.P.follows .mixedOrders = true) (hf : fnB C.P f = true) (h : RunC C n f rts ts W []) : ConOk C.P f (ctr C.P ts rts W) ∧ ConMon (ctr C.P ts rts W) :=
  ⟨fun args k ha imm w vs hok hgl hargs => con_of hKK hmx hf hok hgl ts W [] [] args h .nil ha hargs, fun args k k' hk ha => appC_mono ts W args k k' hk ha⟩
/-- What a call hands back is a list of its own, or nil. -/
def OwnR (e : Nat) (l : List (S.A e)) (r : AV S.A) (m : XS S.A) : Prop := match r with
  | .nil => l = []
  | .prv k u n => (match m.T k with
    | some ⟨sz, n', some ⟨u', y, _⟩⟩ => if h : Nat.beq u' e = true then sz = szOf S e ∧ n = y.length ∧ n' = y.length ∧ castT h y = l else False
    | _ => False)
  | _ => False
theorem own_run {n f : Nat} {args : List (AV S.A)} {e : Nat} {l : List (S.A e)} (hKK : KOk C.P C.K) (hmx : C.P.follows .mixedOrders = true) (hf : fnB C.P f = true) (hpl : ∀ p ∈ args, Plain p)
    (h : Xf C n (emp 0) f args (emp 0) (OwnR e l) (fun _ _ => False)) : OwnOk (S := S) C.P f (args.map stripA) l := by
  intro imm w vs hok hgl hargs
  have ha : (args.map stripA) = args.map denV := List.map_congr_left fun p hp => (hpl p hp).strip
  rw [ha] at hargs
  have hr : Rel ⟨w, imm, noF, noPin, fun _ => undef, []⟩ (den (⟨0, fun _ => .any⟩ : Fr S) ((emp 0 : XS S.A).over (emp 0))) (gh imm) { tmps := #[], defers := [] } w := by
    refine { size := rfl, env := ?_, defers := rfl, imm := hok, box := ?_, apart := ?_, tip := ?_, tips := ?_, boxtip := ?_, below := ⟨rfl, rfl, rfl, Nat.le_refl _, fun _ _ _ => rfl⟩, immle := Imm.le_refl _, immnew := fun _ _ _ h => .inl h, pin := ?_, prv := fun _ _ h => by cases h }
    · intro t
      have : Nat.blt t 0 = false := by cases hq : Nat.blt t 0 with | false => rfl | true => have := blt hq; omega
      show Rep noT (gh imm) (cond (Nat.blt t 0) (denV (((emp 0 : XS S.A).over (emp 0)).get t)) (denV (.any : AV S.A))) _
      rw [this]
      trivial
    · intro s ps h; cases h
    · intro s s' ps ps' h; cases h
    · intro t sz m b c h; cases h
    · intro t t' x x' b b' c c' h; cases h
    · intro s ps t x b c h; cases h
    · intro s b h; cases h
  have hw : WF (fun _ => False) (⟨0, fun _ => .any⟩ : Fr S) ((emp 0 : XS S.A).over (emp 0)) := by
    refine ⟨fun k => ?_, fun i ps h => (by cases h), fun q x h => (by cases h), fun k => trivial⟩
    unfold getN
    cases Nat.blt k 0 <;> trivial
  refine (xf_sound hKK.km hKK.k hmx n (emp 0) f args (emp 0) _ _ h hf (fun p hp => (hpl p hp).flat) _ ⟨fun _ => rfl, hgl⟩ (⟨0, fun _ => .any⟩ : Fr S) (fun _ => False) (fun _ h => h.elim) hw (fun p hp => (hpl p hp).ins) (gh imm) _ w vs hr hargs).mono ?_
  rintro x w' he
  cases x with
  | returned v =>
    obtain ⟨r, m, g', h1, h2, h3, h4, h5, h6⟩ := he
    refine ⟨v, g'.imm, rfl, h5.immle, h5.imm, fun b o u hu => ?_, ?_, ?_⟩
    · rcases h5.immnew b o u hu with h | h | h
      · exact .inl h
      · exact .inr h
      · exact h.elim
    · obtain ⟨k1, k2, k3, k4, k5⟩ := h5.below
      exact ⟨k1, k2, k3, k4, fun k hk => k5 k hk (fun h => h)⟩
    · unfold OwnR at h1
      split at h1
      · subst h1
        exact .inl ⟨rfl, h6⟩
      · rename_i k u n1
        split at h1 <;> first | exact h1.elim | skip
        rename_i sz n' u' y pad hT
        split at h1 <;> first | exact h1.elim | skip
        rename_i hu
        obtain rfl := Nat.eq_of_beq_eq_true hu
        obtain ⟨rfl, rfl, rfl, h1⟩ := h1
        have h1 : y = l := h1
        subst h1
        have hT1 : (((emp 0 : XS S.A).withM m).over (emp 0)).T k = some ⟨szOf S u', y.length, some ⟨u', y, pad⟩⟩ := by
          show orE (m.T k) none = _
          rw [hT]; rfl
        have hT2 := den_T (F := (⟨0, fun _ => .any⟩ : Fr S)) hT1
        have hM := den_M (F := (⟨0, fun _ => .any⟩ : Fr S)) hT1
        obtain ⟨j1, _, j4⟩ := rep_prv hT2 h6
        obtain ⟨_, _, hp1, hp2, hp3, hp4⟩ := h5.prv k _ hM
        rw [hT2] at hp1
        simp only [Option.some.injEq, Prod.mk.injEq] at hp1
        obtain ⟨rfl, rfl⟩ := hp1
        rcases j4 rfl with ⟨b, c, hτ, hv⟩ | ⟨hτ, hl0, hv⟩
        · obtain ⟨hnone, cs, ty, hcs, hR⟩ := hp4 b c hτ
          obtain ⟨cs2, ty2, hcs2, hcsz, hmc, _, hF⟩ := h5.tip k _ _ b c hT2 hτ
          rw [hcs] at hcs2
          cases hcs2
          have hc9 : c ≤ 9223372036854775807 := by
            obtain ⟨A1, c1, k1, _, k2, _⟩ := j1
            rw [hv] at k1
            simp only [Value.slice.injEq] at k1
            rw [k1.2.2]; exact k2
          rw [szOf_eq] at hR hcsz
          exact .inr ⟨b, c, cs, ty, hv, hF.elim (fun h => h) (fun h => h.elim), hcs, hmc, hc9, hcsz, hnone, hR⟩
        · obtain rfl : y = [] := List.eq_nil_of_length_eq_zero hl0
          exact .inl ⟨rfl, hv⟩
      · exact h1.elim
  | panicked ch =>
    obtain ⟨p, s', g', v, ⟨m, h1, _⟩, _⟩ := he
    exact h1.elim
  | outgrown => exact he.elim
/-- The contract of a function of one argument that hands back a list of its own. -/
def own1F (P : Program) (t e : Nat) (W : S.A t → Prop × List (S.A e)) : List (AV S.A) → Option (Prop × List (S.A e))
  | [p] => (match dArg P t p with | some x => some (W x) | none => none)
  | _ => none
theorem own1_ok {n f t e : Nat} {W : S.A t → Prop × List (S.A e)} (hKK : KOk C.P C.K) (hmx : C.P.follows .mixedOrders = true) (hf : fnB C.P f = true)
    (h : ∀ x, OkA S 5 t x → (W x).1 → Xf C n (emp 0) f (argsA C [⟨t, x⟩]) (emp 0) (OwnR e (W x).2) (fun _ _ => False)) : ConOk C.P f (.own e (own1F C.P t e W)) ∧ ConMon (.own e (own1F (S := S) C.P t e W)) := by
  refine ⟨fun args hp l hl hh imm w vs hok hgl hargs => ?_, trivial⟩
  unfold own1F at hl
  split at hl
  · rename_i p
    split at hl
    · rename_i x hx
      have hl := Option.some.inj hl
      have el : l = (W x).2 := by rw [hl]
      have eh : hp = (W x).1 := by rw [hl]
      subst el eh
      obtain ⟨hfl, hw⟩ := dArg_wk hx
      have h1 : denV p = den2 p := den2_flat hfl
      have e1 : (den2 p).strip = (den2 p).strip2 := strip_other _ (fun cs e => by rw [← h1] at e; exact flat_ne hfl cs e)
      have hs : stripA p = (den2 p).strip2 := by show (denV p).strip = _; rw [h1, e1]
      have hOk : OkA S 5 t x := by
        obtain ⟨v, hv⟩ := repT_at (i := 0) hargs (q := stripA p) (by simp)
        rw [hs] at hv
        exact okA_arg hx (wk_repE hw hv) 5
      refine own_run hKK hmx hf (argsA_plain [⟨t, x⟩]) (h x hOk hh) imm w vs hok hgl ?_
      rw [show (argsA C [⟨t, x⟩]).map stripA = (argsA C [⟨t, x⟩]).map denV from List.map_congr_left fun p hp => (argsA_plain [⟨t, x⟩] p hp).strip]
      refine wk_repT (.cons ?_ .nil) hargs
      show Ab.WkA (stripA p) (denV (argA C.P t x))
      rw [hs, den2_flat (plain_arg (P := C.P) t x).flat]
      exact hw
    · cases hl
  · cases hl
end
end Go.Rx
/-! Loops that end, and turns of what is left to show. -/
namespace Go.Rx
open Go.Ab Go.RowKit
theorem of_eq {p q : Prop} (h : p = q) (hq : q) : p := h ▸ hq
theorem LOOP.of {ι : Type} {step : ι → (ι → Prop) → Prop} {x : ι} (I : ι → Prop) (μ : ι → Nat) (h0 : I x) (hs : ∀ y, I y → ∀ J : ι → Prop, (∀ z, I z → μ z < μ y → J z) → step y J) : LOOP step x := by
  refine ⟨fun J hJ => ?_⟩
  have key : ∀ n y, μ y = n → I y → J y := by
    intro n
    induction n using Nat.strongRecOn with
    | _ n ih =>
      intro y hn hI
      exact hJ y (hs y hI J fun z hz hlt => ih (μ z) (hn ▸ hlt) z rfl hz)
  exact key _ x rfl h0
theorem bif_of {b : Bool} {p q : Prop} (h1 : b = true → p) (h2 : b = false → q) : bif b then p else q := by
  cases b
  · exact h2 rfl
  · exact h1 rfl
/-- The contract of a function, where the package variables hold what they do. -/
def PFg (S : Sys) (P : Program) (f : FuncId) (args : List PV) (r : PV) : Prop :=
  ∀ (imm : Imm) (w : World) (vs : List Value), ImmOk imm w → GlobOk S imm → RepT noT (gh imm) args vs → Calls P f vs.toArray w fun e w' =>
    ∃ v imm', e = .returned v ∧ Imm.le imm imm' ∧ ImmOk imm' w' ∧ (∀ b o u, imm' b o = some u → imm b o = some u ∨ w.heap.size ≤ b) ∧ Rep noT (gh imm') r v ∧ Below w.heap.size w w'
theorem pf_of_pfk {S : Sys} {P : Program} {f : FuncId} {args : List PV} {r : AV S.A} (h : PFk (S := S) P f args (fun q => q = r)) : PFg S P f args (denV r) := by
  intro imm w vs hok hgl hargs
  refine (h imm w vs hok hgl hargs).mono ?_
  rintro e w' ⟨r', v, imm', rfl, _, rfl, h1, h2, h3, h4, h5⟩
  exact ⟨v, imm', rfl, h1, h2, h3, h4, h5⟩
end Go.Rx
/-! Functions that defer a call. -/
namespace Go.Rx
open Go.Ab Go.RowKit
set_option linter.unusedVariables false
set_option linter.unusedSimpArgs false
section
variable {S : Sys} {C : Cfg S} {B : Base} {F : Fr S} {Q : Nat → Prop}
/-- The state in which a function begins. -/
def entS (s b : XS S.A) (args : List (AV S.A)) : XS S.A := { (s.over b) with env := fun i => args[i]? }
theorem enter_rel {b s : XS S.A} {N : Nat} {args : List (AV S.A)} {vs : List Value} {g : Gh} {a : Act} {w : World} (hr : Rel B (den F (s.over b)) g a w) (hvs : RepT (denTT (s.over b).T) g (args.map denV) vs) (hla : args.length ≤ N) (hfl : ∀ p ∈ args, flatA p = true) (hw : WF Q F (s.over b)) (ha : ∀ p ∈ args, inV Q p) :
    Rel (innerB B N a) (den (inner F N (s.over b)) ((emp s.c).over (entS s b args))) g { tmps := vs.toArray ++ Array.replicate (N - vs.toArray.size) undef, defers := [] } w ∧ WF (Bd Q s.c (emp s.c : XS S.A).c) (inner F N (s.over b)) ((emp s.c).over (entS s b args)) ∧ ∀ i, noG (getN (inner F N (s.over b)).N (entS s b args) i) := by
    have hlv : vs.length = args.length := by have := repT_length hvs; simpa using this
    generalize hβ : entS s b args = β
    unfold entS at hβ
    have bL : β.L = (s.over b).L := by subst hβ; rfl
    have bT : β.T = (s.over b).T := by subst hβ; rfl
    have bE : β.env = fun i => args[i]? := by subst hβ; rfl
    have eL : ((emp s.c : XS S.A).over β).L = (s.over b).L := by rw [← bL]; rfl
    have eT : ((emp s.c : XS S.A).over β).T = (s.over b).T := by rw [← bT]; rfl
    have eG : ∀ i, ((emp s.c : XS S.A).over β).get i = match args[i]? with | some p => p | none => .any := by
      intro i
      rw [over_get]
      show β.get i = _
      unfold XS.get
      rw [bE]
      cases hp : args[i]? <;> simp only [hp]
    have gB : ∀ i, β.get i = match args[i]? with | some p => p | none => .any := by
      intro i; unfold XS.get; rw [bE]; cases hp : args[i]? <;> simp only [hp]
    have hNs : (vs.toArray ++ Array.replicate (N - vs.toArray.size) undef).size = N := by simp; omega
    have hr0 : Rel (innerB B N a) (den (inner F N (s.over b)) ((emp s.c).over β)) g { tmps := vs.toArray ++ Array.replicate (N - vs.toArray.size) undef, defers := [] } w := by
      refine ⟨hNs, fun t => ?_, rfl, hr.imm, ?_, ?_, ?_, ?_, ?_, hr.below, hr.immle, hr.immnew, hr.pin, ?_⟩
      · show Rep (denTT ((emp s.c).over β).T) g (cond (Nat.blt t N) (denV (((emp s.c).over β).get t)) (denV ((inner F N (s.over b)).ext t))) _
        rw [eT]
        cases ht : Nat.blt t N with
        | true =>
          have ht' := blt ht
          have h1 := repT_get hvs t undef
          rw [eG]
          have e1 : (vs.toArray ++ Array.replicate (N - vs.toArray.size) undef).getD t ((innerB B N a).ext t) = vs.getD t undef := by
            rw [Array.getD_eq_getD_getElem?, List.getD_eq_getElem?_getD]
            by_cases ht2 : t < vs.length
            · rw [Array.getElem?_append_left (by simpa using ht2)]; simp [ht2]
            · rw [Array.getElem?_append_right (by simpa using ht2), List.getElem?_eq_none (by omega), Array.getElem?_replicate]
              rw [if_pos (by simp; omega)]; rfl
          show Rep _ g (denV _) ((vs.toArray ++ Array.replicate (N - vs.toArray.size) undef).getD t _)
          rw [e1]
          rw [List.getD_eq_getElem?_getD, List.getElem?_map] at h1
          cases hp : args[t]? with
          | none => trivial
          | some p => rw [hp] at h1; exact h1
        | false =>
          have ht' : N ≤ t := by
            rcases Nat.lt_or_ge t N with h | h
            · have : Nat.blt t N = true := Nat.ble_eq_true_of_le h
              rw [ht] at this; cases this
            · exact h
          show Rep _ g (denV (bif Nat.blt t N then .any else (bif Nat.blt (t - N) F.N then (s.over b).get (t - N) else F.ext (t - N)))) ((vs.toArray ++ Array.replicate (N - vs.toArray.size) undef).getD t _)
          rw [ht, getD_ge (by rw [hNs]; exact ht')]
          have := hr.env (t - N)
          have this : Rep (denTT (s.over b).T) g (cond (Nat.blt (t - N) F.N) (denV ((s.over b).get (t - N))) (denV (F.ext (t - N)))) (a.tmps.getD (t - N) (B.ext (t - N))) := this
          simp only [cond_false]
          show Rep _ g _ (a.tmps.getD (t - N) (B.ext (t - N)))
          cases hk : Nat.blt (t - N) F.N <;> (rw [hk] at this; exact this)
      · intro i ps hi
        exact (show ∃ cs ty, w.heap[g.β i]? = some (.cells cs ty (0, 0)) ∧ RepL (denTT ((emp s.c).over β).T) g ps cs.toList ∧ _ by rw [eT]; exact hr.box i ps (by show ((s.over b).L i).map _ = _; rw [← eL]; exact hi))
      · intro i i' ps ps' h1 h2
        exact hr.apart i i' ps ps' (by show ((s.over b).L i).map _ = _; rw [← eL]; exact h1) (by show ((s.over b).L i').map _ = _; rw [← eL]; exact h2)
      · intro t sz m b' c h1 h2
        exact hr.tip t sz m b' c (by show denTT (s.over b).T t = _; rw [← eT]; exact h1) h2
      · intro t t' x x' b' b'' c c' h1 h2
        exact hr.tips t t' x x' b' b'' c c' (by show denTT (s.over b).T t = _; rw [← eT]; exact h1) (by show denTT (s.over b).T t' = _; rw [← eT]; exact h2)
      · intro i ps t x b' c h1 h2
        exact hr.boxtip i ps t x b' c (by show ((s.over b).L i).map _ = _; rw [← eL]; exact h1) (by show denTT (s.over b).T t = _; rw [← eT]; exact h2)
      · intro t ps hps
        have := hr.prv t ps (by show denM (s.over b).T t = _; rw [← eT]; exact hps)
        exact this.mono (by show denTT ((emp s.c).over β).T t = denTT (s.over b).T t; rw [eT]) rfl (Imm.le_refl _) fun _ _ _ => ⟨fun _ => rfl, rfl⟩
    have argIn : ∀ (i : Nat) (p : AV S.A), args[i]? = some p → inV Q p ∧ noG p := by
      intro i p hp
      have hm := List.mem_of_getElem? hp
      exact ⟨ha p hm, by have := hfl p hm; cases p <;> first | trivial | cases this⟩
    have hw0 : WF (Bd Q s.c (emp s.c : XS S.A).c) (inner F N (s.over b)) ((emp s.c).over β) := by
      refine ⟨fun i => ?_, fun i ps hi => ?_, fun q x hq => ?_, fun i => ?_⟩
      · unfold getN
        cases Nat.blt i (inner F N (s.over b)).N with
        | false => trivial
        | true =>
          simp only [cond_true]
          rw [eG]
          cases hp : args[i]? with
          | none => trivial
          | some p => exact inV_mono (fun _ => .inl) (argIn i p hp).1
      · rw [eL] at hi
        have := hw.L i ps hi
        exact ⟨.inl this.1, fun p hp => in1_mono (fun _ => .inl) (this.2 p hp)⟩
      · rw [eT] at hq; exact .inl (hw.T q x hq)
      · refine inV_mono (fun _ => .inl) ?_
        show inV Q (bif Nat.blt i N then .any else (bif Nat.blt (i - N) F.N then (s.over b).get (i - N) else F.ext (i - N)))
        cases Nat.blt i N with
        | true => trivial
        | false =>
          cases hk : Nat.blt (i - N) F.N with
          | true => exact hw.get hk
          | false => exact hw.ext _
    have hbn : ∀ i, noG (getN (inner F N (s.over b)).N β i) := by
      intro i
      unfold getN
      cases Nat.blt i (inner F N (s.over b)).N with
      | false => trivial
      | true =>
        simp only [cond_true]
        rw [gB]
        cases hp : args[i]? with
        | none => trivial
        | some p => exact (argIn i p hp).2
    exact ⟨hr0, hw0, hbn⟩
/-- The state behind a call, as its caller sees it. -/
theorem leave_rel {b s : XS S.A} {N : Nat} {args : List (AV S.A)} {g g' : Gh} {a a' : Act} {w w' : World} {s' : XS S.A} (hr : Rel B (den F (s.over b)) g a w) (hw : WF Q F (s.over b)) (hws : WF (Bd Q s.c s'.c) (inner F N (s.over b)) (s'.over (entS s b args))) (hr' : Rel (innerB B N a) (den (inner F N (s.over b)) (s'.over (entS s b args))) g' a' w')
    {m : XS S.A} (hmL : m.L = fun i => orE (s'.L i) (s.L i)) (hmT : m.T = fun i => orE (s'.T i) (s.T i)) : Rel B (den F ((s.withM m).over b)) g' a w' ∧ WF (Bd Q s.c s'.c) F ((s.withM m).over b) ∧ ((s.withM m).over b).T = (s'.over (entS s b args)).T := by
    generalize hβ : entS s b args = β at hws hr' ⊢
    unfold entS at hβ
    have bL : β.L = (s.over b).L := by subst hβ; rfl
    have bT : β.T = (s.over b).T := by subst hβ; rfl
    -- the state behind the call, as its caller sees it
    have mL : ∀ (m : XS S.A), m.L = (fun i => orE (s'.L i) (s.L i)) → ((s.withM m).over b).L = (s'.over β).L := by
      intro m hm
      funext i
      show orE (m.L i) (b.L i) = orE (s'.L i) (β.L i)
      rw [hm, bL]
      show orE (orE (s'.L i) (s.L i)) (b.L i) = orE (s'.L i) (orE (s.L i) (b.L i))
      cases s'.L i <;> rfl
    have mT : ∀ (m : XS S.A), m.T = (fun i => orE (s'.T i) (s.T i)) → ((s.withM m).over b).T = (s'.over β).T := by
      intro m hm
      funext i
      show orE (m.T i) (b.T i) = orE (s'.T i) (β.T i)
      rw [hm, bT]
      show orE (orE (s'.T i) (s.T i)) (b.T i) = orE (s'.T i) (orE (s.T i) (b.T i))
      cases s'.T i <;> rfl
    have mG : ∀ (m : XS S.A) i, ((s.withM m).over b).get i = (s.over b).get i := fun m i => rfl
    have back : ∀ (m : XS S.A), m.L = (fun i => orE (s'.L i) (s.L i)) → m.T = (fun i => orE (s'.T i) (s.T i)) → Rel (innerB B N a) (den (inner F N (s.over b)) (s'.over β)) g' a' w' → Rel B (den F ((s.withM m).over b)) g' a w' := by
      intro m h1 h2 hr'
      have e1 := mL m h1
      have e2 := mT m h2
      refine ⟨hr.size, fun t => ?_, hr.defers, hr'.imm, ?_, ?_, ?_, ?_, ?_, hr'.below, hr'.immle, hr'.immnew, hr'.pin, ?_⟩
      · have h3 := hr'.env (N + t)
        have hge : a'.tmps.size ≤ N + t := by rw [hr'.size]; exact Nat.le_add_right _ _
        rw [getD_ge hge] at h3
        have hlt : Nat.blt (N + t) N = false := by
          cases hq : Nat.blt (N + t) N with
          | false => rfl
          | true => have := blt hq; omega
        have h3 : Rep (denTT (s'.over β).T) g' (cond (Nat.blt (N + t) N) (denV ((s'.over β).get (N + t))) (denV (bif Nat.blt (N + t) N then .any else (bif Nat.blt (N + t - N) F.N then (s.over b).get (N + t - N) else F.ext (N + t - N))))) (a.tmps.getD (N + t - N) (B.ext (N + t - N))) := h3
        rw [hlt, Nat.add_sub_cancel_left] at h3
        show Rep (denTT ((s.withM m).over b).T) g' (cond (Nat.blt t F.N) (denV ((s.over b).get t)) (denV (F.ext t))) _
        rw [e2]
        simp only [cond_false] at h3
        cases hk : Nat.blt t F.N <;> (rw [hk] at h3; exact h3)
      · intro i ps hi
        have := hr'.box i ps (by show ((s'.over β).L i).map _ = _; rw [← e1]; exact hi)
        show ∃ cs ty, w'.heap[g'.β i]? = some (.cells cs ty (0, 0)) ∧ RepL (denTT ((s.withM m).over b).T) g' ps cs.toList ∧ _
        rw [e2]
        exact this
      · intro i i' ps ps' k1 k2
        exact hr'.apart i i' ps ps' (by show ((s'.over β).L i).map _ = _; rw [← e1]; exact k1) (by show ((s'.over β).L i').map _ = _; rw [← e1]; exact k2)
      · intro t sz m' b' c k1 k2
        exact hr'.tip t sz m' b' c (by show denTT (s'.over β).T t = _; rw [← e2]; exact k1) k2
      · intro t t' x x' b' b'' c c' k1 k2
        exact hr'.tips t t' x x' b' b'' c c' (by show denTT (s'.over β).T t = _; rw [← e2]; exact k1) (by show denTT (s'.over β).T t' = _; rw [← e2]; exact k2)
      · intro i ps t x b' c k1 k2
        exact hr'.boxtip i ps t x b' c (by show ((s'.over β).L i).map _ = _; rw [← e1]; exact k1) (by show denTT (s'.over β).T t = _; rw [← e2]; exact k2)
      · intro t ps hps
        have := hr'.prv t ps (by show denM (s'.over β).T t = _; rw [← e2]; exact hps)
        exact this.mono (by show denTT ((s.withM m).over b).T t = denTT (s'.over β).T t; rw [e2]) rfl (Imm.le_refl _) fun _ _ _ => ⟨fun _ => rfl, rfl⟩
    have wfm : ∀ (m : XS S.A), m.L = (fun i => orE (s'.L i) (s.L i)) → m.T = (fun i => orE (s'.T i) (s.T i)) → WF (Bd Q s.c s'.c) F ((s.withM m).over b) := by
      intro m h1 h2
      have e1 := mL m h1
      have e2 := mT m h2
      exact ⟨fun i => inV_mono (fun _ => .inl) (hw.env i), fun i ps hi => hws.L i ps (by rw [← e1]; exact hi), fun q x hq => hws.T q x (by rw [← e2]; exact hq), fun i => inV_mono (fun _ => .inl) (hw.ext i)⟩
    exact ⟨back m hmL hmT hr', wfm m hmL hmT, mT m hmT⟩
/-! ### A deferred call that asks for what was thrown -/
theorem wpOpsS_cons {P : Program} {ops : Array Oper} {Qf : Exit → Act → List Frame → World → Prop} {i : Nat} {rest : List Nat} {a : Act} {cs : List Frame} {w : World} {o : Oper} (ho : ops[i]? = some o)
    (h : if Region.wanted o (yielded ops a.tmps) then o.wp P a w (fun a' w' => wpOpsS P ops Qf rest a' cs w') (fun e a' w' => Qf e a' cs w') else wpOpsS P ops Qf rest (a.put o.dst undef) cs w) : wpOpsS P ops Qf (i :: rest) a cs w := by
  simp only [wpOpsS, ho]
  split
  · rename_i hw
    rw [if_pos hw] at h
    unfold Oper.wp at h
    revert h
    generalize (execOp a.eval o).run P w = r
    intro h
    split
    · exact (h : False).elim
    · exact h
  · rename_i hw
    rw [if_neg hw] at h
    exact h
theorem seqS_sound {call : XS S.A → CallT S} {K0 : Nat → Prop} {l0 lo : Nat} {b : XS S.A} (hK0 : ∀ n, K0 n → n < l0) (hC : Ok C call) (hpin : POk S B) {ops : Array Oper} {cs : List Frame} {Qf : Exit → Act → List Frame → World → Prop} {kS : XS S.A → Prop}
    (hkS : ∀ s' g a w, kS s' → lo ≤ s'.c → WF (Bd K0 l0 s'.c) F (s'.over b) → Rel B (den F (s'.over b)) g a w → Qf .normal a cs w) (hl0 : l0 ≤ lo) :
    ∀ (l : List Oper) (i : Nat) (s : XS S.A), (∀ j, l[j]? = ops[i + j]?) → runS C F.N (call b) b ops.toList (fun _ s => s.c) (fun s => { s with c := s.c + 1 }) (fun _ _ => False) (numd i l) s kS → lo ≤ s.c → WF (Bd K0 l0 s.c) F (s.over b) → ∀ g a w, Rel B (den F (s.over b)) g a w → wpOpsS C.P ops Qf (List.range' i l.length) a cs w
  | [], i, s, _, h, hc, hw, g, a, w, hr => hkS s g a w h hc hw hr
  | o :: l, i, s, hl, h, hc, hw, g, a, w, hr => by
    have ho : ops[i]? = some o := by have := hl 0; simpa using this.symm
    show wpOpsS C.P ops Qf (i :: List.range' (i + 1) l.length) a cs w
    refine wpOpsS_cons ho ?_
    refine step_sound (hC.ok b) hC.K hpin (Q := Bd K0 l0 s.c) (id := s.c) (fun n hn => hn.lt hK0 (Nat.le_trans hl0 hc)) (fun hn => Nat.lt_irrefl _ (hn.lt hK0 (Nat.le_trans hl0 hc))) hw h hr _ _ ?_ ?_
    · rintro a' w' ⟨s', g', h1, h2, h3, h4⟩
      refine seqS_sound hK0 hC hpin hkS hl0 l (i + 1) { s' with c := s'.c + 1 } (fun j => by have := hl (j + 1); rw [show i + 1 + j = i + (j + 1) by omega]; simpa using this) h1 (by show lo ≤ s'.c + 1; omega) ?_ g' a' w' h4
      refine WF.setc (h3.mono fun n hn => ?_) _
      show Bd K0 l0 (s'.c + 1) n
      rcases hn with (hn | hn) | hn
      · exact hn.up (by omega)
      · exact .inr ⟨by omega, by omega⟩
      · exact .inr ⟨by omega, by omega⟩
    · rintro e a' w' ⟨ch, rfl, p, s', g', v, h1, _⟩
      exact h1.elim
def isRec : Op → Bool
  | .call c => (match c.callee, c.args with
    | .builtin .recover, ⟨[]⟩ => true
    | _, _ => false)
  | _ => false
theorem isRec_run {P : Program} {o : Oper} (h : isRec o.op = true) (ρ : Operand → Value) (w : World) : (execOp ρ o).run P w = .ok .recover w := by
  unfold isRec at h
  split at h
  · rename_i c hc
    obtain ⟨callee, args, ats⟩ := c
    split at h
    · rename_i h1 h2
      simp only at h1 h2
      subst h1 h2
      simp only [execOp, hc, resolve]
      rw [run_bind, run_pure]
      rfl
    · cases h
  · cases h
def locsOf {A : Nat → Type} (ls : List (Option Nat)) : List (AV A) := ls.map fun o => match o with | some s => .loc s 0 | none => .sc (.pointer none)
/-- The run of a deferred function that begins with recover, which hands it v. -/
def Xd (C : Cfg S) (n fd : Nat) (ls : List (Option Nat)) (b s : XS S.A) (v : AV S.A) (k : XS S.A → Prop) : Prop := match C.P.funcs[fd]? with
  | some fn => (match fn.body, fn.results with
    | some (.seq (.region rid ⟨rc :: l⟩ false) rest), ⟨[]⟩ => (match rc.dst, rc.guard, isRec rc.op with
      | some d, none, true => bif (Nat.blt d fn.ntmps && Nat.ble ls.length fn.ntmps) && regOk (rc :: l) [] (numd 1 l) then
          runM (C.rg ((Ab.look C.ann fd).getD []) rid false) fn.ntmps (Xf C n (entS s b (locsOf ls))) (entS s b (locsOf ls)) (rc :: l) (fun _ s => s.c) (fun s => { s with c := s.c + 1 }) (fun _ _ => False) (numd 1 l) ((emp s.c : XS S.A).put d v) (fun _ => none)
            (fun s' => Xc C ((Ab.look C.ann fd).getD []) fn.ntmps (Xf C n) rest (entS s b (locsOf ls)) (clearG s') (fun e s'' => match e with
              | .normal => k { s with L := fun i => orE (s''.L i) (s.L i), T := fun i => orE (s''.T i) (s.T i), c := s''.c }
              | .ret => k { s with L := fun i => orE (s''.L i) (s.L i), T := fun i => orE (s''.T i) (s.T i), c := s''.c }
              | _ => False))
        else False
      | _, _, _ => False)
    | _, _ => False)
  | none => False
theorem flat_locs (ls : List (Option Nat)) : ∀ p ∈ (locsOf ls : List (AV S.A)), flatA p = true := by
  intro p hp
  obtain ⟨x, _, rfl⟩ := List.mem_map.1 hp
  cases x <;> rfl
theorem repT_locs {T : Nat → Option (Nat × Nat)} {g : Gh} (ls : List (Option Nat)) : RepT T g ((locsOf ls : List (AV S.A)).map denV) (ls.map (cap g.β)) := by
  unfold locsOf
  rw [List.map_map]
  exact repT_caps ls
theorem xd_sound {n fd : Nat} {ls : List (Option Nat)} {b s : XS S.A} {v : AV S.A} {k : XS S.A → Prop} (hC : Ok C (Xf C n)) (h : Xd C n fd ls b s v k) (hpin : POk S B) (hQ : ∀ n, Q n → n < s.c) (hw : WF Q F (s.over b)) (hls : ∀ x, some x ∈ ls → Q x) (hvi : inV Q v) (hvn : noG v)
    {g : Gh} {a : Act} {w : World} (hr : Rel B (den F (s.over b)) g a w) {u u' : FrameMode} {val : Value}
    (hrec : ∀ (c₀ : Frame) (cs : List Frame), c₀.mode = u → recoverD (c₀ :: cs) = some (val, { c₀ with mode := u' } :: cs) ∨ (recoverD (c₀ :: cs) = none ∧ val = .nilIface ∧ u' = u)) (hval : Rep (denTT (s.over b).T) g (denV v) val) :
    CallsD C.P fd (ls.map (cap g.β)).toArray u w fun e u2 w' => (∃ r, e = .returned r) ∧ u2 = u' ∧ ∃ s1 g', k s1 ∧ s.c ≤ s1.c ∧ (∀ i, (s1.over b).get i = (s.over b).get i) ∧ Rel B (den F (s1.over b)) g' a w' ∧ WF (Bd Q s.c s1.c) F (s1.over b) := by
  unfold Xd at h
  split at h <;> first | exact h.elim | skip
  rename_i fn hfn
  split at h <;> first | exact h.elim | skip
  rename_i rid rc l rest hbody hres
  split at h <;> first | exact h.elim | skip
  rename_i d hd hg hisr
  cases hok : ((Nat.blt d fn.ntmps && Nat.ble ls.length fn.ntmps) && regOk (rc :: l) [] (numd 1 l)) with
  | false => rw [hok] at h; exact h.elim
  | true =>
  rw [hok] at h
  simp only [cond_true] at h
  simp only [Bool.and_eq_true] at hok
  obtain ⟨⟨hdN, hlN⟩, hreg⟩ := hok
  have hla := Nat.le_of_ble_eq_true hlN
  have hai : ∀ p ∈ (locsOf ls : List (AV S.A)), inV Q p := by
    intro p hp
    obtain ⟨x, hx, rfl⟩ := List.mem_map.1 hp
    cases x with
    | none => trivial
    | some z => exact hls z hx
  obtain ⟨hr0, hw0, hbn⟩ := enter_rel (N := fn.ntmps) (args := locsOf ls) (vs := ls.map (cap g.β)) hr (repT_locs ls) (by simpa [locsOf] using hla) (flat_locs ls) hw hai
  refine callsD_of_wpS hfn hbody fun c₀ cs hu => ?_
  have eT : ((emp s.c : XS S.A).over (entS s b (locsOf ls))).T = (s.over b).T := rfl
  refine wpS_seq (wpS_region ?_)
  -- recover
  have hrange : List.range (⟨rc :: l⟩ : Array Oper).size = 0 :: List.range' 1 l.length := by
    show List.range (l.length + 1) = _
    rw [List.range_eq_range']
    rfl
  rw [hrange]
  have hput : ∀ a0 : Act, Rel (innerB B fn.ntmps a) (den (inner F fn.ntmps (s.over b)) ((emp s.c).over (entS s b (locsOf ls)))) g a0 w → Rel (innerB B fn.ntmps a) (den (inner F fn.ntmps (s.over b)) (((emp s.c).put d v).over (entS s b (locsOf ls)))) g (a0.put (some d) val) w := by
    intro a0 h0
    rw [over_put, den_put (by exact hdN)]
    exact h0.put (blt hdN) (by exact hval)
  have hwp : WF (Bd Q s.c ((emp s.c : XS S.A).put d v).c) (inner F fn.ntmps (s.over b)) (((emp s.c).put d v).over (entS s b (locsOf ls))) := by
    rw [over_put]
    exact hw0.put (inV_mono (fun _ => .inl) hvi)
  have hng : ∀ i, noG (getN (inner F fn.ntmps (s.over b)).N (((emp s.c).put d v).over (entS s b (locsOf ls))) i) := fun i => noG_in (hwp.env i)
  -- what is behind it
  have main : ∀ cs1 : List Frame, cs1 = { c₀ with mode := u' } :: cs → wpOpsS C.P ⟨rc :: l⟩ (Exit.thenS (rest.wpS C.P (bodyPostS C.P fn c₀ cs fun e u2 w' => (∃ r, e = .returned r) ∧ u2 = u' ∧ ∃ s1 g', k s1 ∧ s.c ≤ s1.c ∧ (∀ i, (s1.over b).get i = (s.over b).get i) ∧ Rel B (den F (s1.over b)) g' a w' ∧ WF (Bd Q s.c s1.c) F (s1.over b)))
      (bodyPostS C.P fn c₀ cs fun e u2 w' => (∃ r, e = .returned r) ∧ u2 = u' ∧ ∃ s1 g', k s1 ∧ s.c ≤ s1.c ∧ (∀ i, (s1.over b).get i = (s.over b).get i) ∧ Rel B (den F (s1.over b)) g' a w' ∧ WF (Bd Q s.c s1.c) F (s1.over b))) (List.range' 1 l.length)
      ({ tmps := (ls.map (cap g.β)).toArray ++ Array.replicate (fn.ntmps - (ls.map (cap g.β)).toArray.size) undef, defers := [] : Act }.put (some d) val) cs1 w := by
    intro cs1 hcs1
    have hrun := run_mg (C := C.rg ((Ab.look C.ann fd).getD []) rid false) (hC.cm (entS s b (locsOf ls))) hC.km (kp := fun _ _ => False) (fun p M s h1 h2 h3 h4 => h4) (N := fn.ntmps) (idf := fun _ s => s.c) (nx := fun s => { s with c := s.c + 1 })
      (kS := fun s' => ∃ M D kn, Mg fn.ntmps (entS s b (locsOf ls)) D kn M s' ∧ Xc C ((Ab.look C.ann fd).getD []) fn.ntmps (Xf C n) rest (entS s b (locsOf ls)) (clearG M) (fun e s'' => match e with
              | .normal => k { s with L := fun i => orE (s''.L i) (s.L i), T := fun i => orE (s''.T i) (s.T i), c := s''.c }
              | .ret => k { s with L := fun i => orE (s''.L i) (s.L i), T := fun i => orE (s''.T i) (s.T i), c := s''.c }
              | _ => False))
      (fun i M s e => e) (fun D kn M s h => h.mem2 (M' := { M with c := M.c + 1 }) (s' := { s with c := s.c + 1 }) rfl rfl h.L h.T (by show M.c + 1 = s.c + 1; rw [h.c])) (fun D kn M s h hk => ⟨M, D, kn, h, hk⟩) (numd 1 l) [] (fun _ => none) _ _ hreg (mg0 (F := inner F fn.ntmps (s.over b)) hng) h
    refine seqS_sound (C := C.rg ((Ab.look C.ann fd).getD []) rid false) (ops := ⟨rc :: l⟩) (F := inner F fn.ntmps (s.over b)) (b := entS s b (locsOf ls)) (lo := s.c) (K0 := Q) (l0 := s.c) hQ (hC.rg _ rid false) (B := innerB B fn.ntmps a) ⟨hpin.pin, hpin.gl⟩ ?_ (Nat.le_refl _) l 1 _ (fun j => by rw [Nat.add_comm]; simp) hrun (Nat.le_refl _) hwp g _ w (hput _ hr0)
    rintro s' g' a' w' ⟨M, D, kn, hm, hX⟩ hc' hw' hr'
    obtain ⟨k1, k2⟩ := clear_weak hbn hm hw' hr'
    have hcc : (clearG M).c = s'.c := hm.c
    have key := xc_sound (F := inner F fn.ntmps (s.over b)) (B := innerB B fn.ntmps a) (K0 := Q) (l0 := s.c) hQ hC ⟨hpin.pin, hpin.gl⟩ rest (entS s b (locsOf ls)) (clearG M) _ hbn (by rw [hcc]; exact hc') (by rw [hcc]; exact k1) hX _ a' w' k2
    refine wpS_of_wp (wp_mono key ?_)
    rintro e a2 w2 ⟨σ, g2, hr2, ⟨s2, hc2, hws2, hmatch⟩, hpay⟩
    have fin : σ = den (inner F fn.ntmps (s.over b)) (s2.over (entS s b (locsOf ls))) → k { s with L := fun i => orE (s2.L i) (s.L i), T := fun i => orE (s2.T i) (s.T i), c := s2.c } →
        a2.defers = [] ∧ ∃ u2, cs1 = { c₀ with mode := u2 } :: cs ∧ ∃ v, (results fn a2.tmps).run C.P w2 = .ok v w2 ∧ ((∃ r, Ending.returned v = .returned r) ∧ u2 = u' ∧ ∃ s1 g', k s1 ∧ s.c ≤ s1.c ∧ (∀ i, (s1.over b).get i = (s.over b).get i) ∧ Rel B (den F (s1.over b)) g' a w2 ∧ WF (Bd Q s.c s1.c) F (s1.over b)) := by
      intro hσ hk
      subst hσ
      obtain ⟨j1, j2, _⟩ := leave_rel (m := { s with L := fun i => orE (s2.L i) (s.L i), T := fun i => orE (s2.T i) (s.T i), c := s2.c }) hr hw hws2 hr2 rfl rfl
      refine ⟨hr2.defers, u', hcs1, .tuple #[], by rw [results_eq, hres]; simp [run_bind, run_pure], ⟨_, rfl⟩, rfl, _, g2, hk, ?_, fun i => rfl, j1, j2⟩
      show s.c ≤ s2.c
      rw [hcc] at hc2
      omega
    cases e with
    | normal => exact fin hmatch.1 hmatch.2
    | ret => exact fin hmatch.1 hmatch.2
    | exit id => exact hmatch.2.elim
    | goto l => exact hmatch.elim
    | outgrown => exact hmatch.elim
    | panic ch => obtain ⟨p, _, _, hp⟩ := hmatch; exact hp.elim
  have h0 : (⟨rc :: l⟩ : Array Oper)[0]? = some rc := rfl
  simp only [wpOpsS, h0]
  have hwant : Region.wanted rc (yielded ⟨rc :: l⟩ ((ls.map (cap g.β)).toArray ++ Array.replicate (fn.ntmps - (ls.map (cap g.β)).toArray.size) undef)) = true := by simp [Region.wanted, hg]
  rw [if_pos hwant, isRec_run hisr]
  simp only [hd]
  rcases hrec c₀ cs hu with h1 | ⟨h1, rfl, rfl⟩
  · rw [h1]
    exact main _ rfl
  · rw [h1]
    exact main _ (by subst hu; rfl)
/-! ### A function that defers one call -/
def isDfr (t : Nat) : Op → Bool
  | .defer c => (match c.callee, c.args with
    | .value (.tmp x), ⟨[]⟩ => Nat.beq x t
    | _, _ => false)
  | _ => false
/-- The code of such a function. -/
structure Dfr where
  A : Code
  Bc : Code
  rid : Nat
  mkf : Oper
  df : Oper
  rest : Code
  fd : Nat
  d : Nat
  caps : List Operand
def Dfr.code (D : Dfr) : Code := .seq D.A (.seq D.Bc (.seq (.region D.rid ⟨[D.mkf, D.df]⟩ false) D.rest))
/-- The run of such a function. -/
def Xg (C : Cfg S) (n : Nat) (an : List (Nat × Ann)) (fn : Func) (D : Dfr) (args : List (AV S.A)) (k : AV S.A → Prop) : Prop :=
  Xc C an fn.ntmps (Xf C n) D.A (entS (emp 0) (emp 0) args) (emp 0) (fun e s1 => match e with
    | .normal => Xc C an fn.ntmps (Xf C n) D.Bc (entS (emp 0) (emp 0) args) s1 (fun e s2 => match e with
      | .normal => (match capsA (D.caps.map (evA (getN fn.ntmps (s2.over (entS (emp 0) (emp 0) args))))) with
        | some ls => Xc C an fn.ntmps (Xf C n) D.rest (entS (emp 0) (emp 0) args) (s2.put D.d (.clo D.fd ls)) (fun e s3 => match e with
          | .ret => Xd C n D.fd ls (entS (emp 0) (emp 0) args) s3 (.sc .nilIface) (fun s4 => match resAll C fn.ntmps (s4.over (entS (emp 0) (emp 0) args)) fn.results.toList with
            | some ps => k (tupA ps)
            | none => False)
          | .panic p => Xd C n D.fd ls (entS (emp 0) (emp 0) args) s3 p (fun s4 => match resAll C fn.ntmps (s4.over (entS (emp 0) (emp 0) args)) fn.results.toList with
            | some ps => k (tupA ps)
            | none => False)
          | _ => False)
        | none => False)
      | _ => False)
    | _ => False)
theorem capsA_in {get : Nat → AV S.A} {Q : Nat → Prop} (hg : ∀ x, inV Q (evA get x)) {xs : List Operand} {ls : List (Option Nat)} (h : capsA (xs.map (evA get)) = some ls) : ∀ x, some x ∈ ls → Q x :=
  in_caps (fun p hp => by obtain ⟨x, _, rfl⟩ := List.mem_map.1 hp; exact hg x) h
theorem pf_defer {n f : Nat} {fn : Func} {D : Dfr} {args : List (AV S.A)} {rts : List Nat} {y : HR S rts} (hKK : KOk C.P C.K) (hmx : C.P.follows .mixedOrders = true) (hfn : C.P.funcs[f]? = some fn) (hbody : fn.body = some D.code)
    (hmk : D.mkf.op = .makeFunc (.func D.fd) #[] D.caps.toArray) (hmd : D.mkf.dst = some D.d) (hmg : D.mkf.guard = none) (hdN : Nat.blt D.d fn.ntmps = true) (hdo : isDfr D.d D.df.op = true) (hdg : D.df.guard = none) (hdd : D.df.dst = none) (hfb : fnB C.P D.fd = true)
    (hla : Nat.ble args.length fn.ntmps = true) (hl4 : Nat.ble fn.results.toList.length 4 = true) (hpl : ∀ p ∈ args, Plain p) (an : List (Nat × Ann))
    (h : Xg C n an fn D args (isR C.P rts y)) : PFk (S := S) C.P f (args.map stripA) (fun q => q = tupA (encL C.P rts y)) := by
  intro imm w vs hok hgl hargs
  have hC : Ok C (Xf C n) := ⟨fun b f args m k k' kp kp' => xf_mono hKK.km n b f args m k k' kp kp', hKK.km, xf_sound hKK.km hKK.k hmx n, hKK.k, hmx⟩
  have ha : (args.map stripA) = args.map denV := List.map_congr_left fun p hp => (hpl p hp).strip
  rw [ha] at hargs
  have hrE : Rel ⟨w, imm, noF, noPin, fun _ => undef, []⟩ (den (⟨0, fun _ => .any⟩ : Fr S) ((emp 0 : XS S.A).over (emp 0))) (gh imm) { tmps := #[], defers := [] } w := by
    refine { size := rfl, env := ?_, defers := rfl, imm := hok, box := ?_, apart := ?_, tip := ?_, tips := ?_, boxtip := ?_, below := ⟨rfl, rfl, rfl, Nat.le_refl _, fun _ _ _ => rfl⟩, immle := Imm.le_refl _, immnew := fun _ _ _ h => .inl h, pin := ?_, prv := fun _ _ h => by cases h }
    · intro t
      have : Nat.blt t 0 = false := by cases hq : Nat.blt t 0 with | false => rfl | true => have := blt hq; omega
      show Rep noT (gh imm) (cond (Nat.blt t 0) (denV (((emp 0 : XS S.A).over (emp 0)).get t)) (denV (.any : AV S.A))) _
      rw [this]
      trivial
    · intro s ps h; cases h
    · intro s s' ps ps' h; cases h
    · intro t sz m b c h; cases h
    · intro t t' x x' b b' c c' h; cases h
    · intro s ps t x b c h; cases h
    · intro s b h; cases h
  have hwE : WF (fun _ => False) (⟨0, fun _ => .any⟩ : Fr S) ((emp 0 : XS S.A).over (emp 0)) := by
    refine ⟨fun k => ?_, fun i ps h => (by cases h), fun q x h => (by cases h), fun k => trivial⟩
    unfold getN
    cases Nat.blt k 0 <;> trivial
  obtain ⟨hr0, hw0, hbn⟩ := enter_rel (N := fn.ntmps) hrE hargs (Nat.le_of_ble_eq_true hla) (fun p hp => (hpl p hp).flat) hwE (fun p hp => (hpl p hp).ins)
  generalize hβ : entS (emp 0) (emp 0) args = β at hr0 hw0 hbn
  generalize hB0 : innerB ⟨w, imm, noF, noPin, fun _ => undef, []⟩ fn.ntmps { tmps := #[], defers := [] } = B0 at hr0
  generalize hF0 : inner (⟨0, fun _ => .any⟩ : Fr S) fn.ntmps ((emp 0 : XS S.A).over (emp 0)) = F0 at hr0 hw0 hbn
  have hN0 : F0.N = fn.ntmps := by rw [← hF0]; rfl
  have hpin : POk S B0 := by subst hB0; exact ⟨fun _ => rfl, hgl⟩
  have hd0 : B0.dfr = [] := by subst hB0; rfl
  have hQ : ∀ n : Nat, (fun _ => False : Nat → Prop) n → n < (emp 0 : XS S.A).c := fun _ h => h.elim
  -- what is there at the end
  have fin : ∀ (B1 : Base) (F1 : Fr S) (s4 : XS S.A) (g4 : Gh) (a4 : Act) (w4 : World), B1.w0 = w → B1.i0 = imm → (∀ k, ¬ B1.F k) → F1.N = fn.ntmps → Rel B1 (den F1 (s4.over β)) g4 a4 w4 → (match resAll C fn.ntmps (s4.over β) fn.results.toList with
            | some ps => isR C.P rts y (tupA ps)
            | none => False) → ∃ v, (results fn a4.tmps).run C.P w4 = .ok v w4 ∧ ∃ r v' imm', (r = tupA (encL C.P rts y)) ∧ (denV r).clean = true ∧ (Ending.returned v : Ending) = .returned v' ∧ Imm.le imm imm' ∧ ImmOk imm' w4 ∧ (∀ b o u, imm' b o = some u → imm b o = some u ∨ w.heap.size ≤ b) ∧ Rep noT (gh imm') (denV r) v' ∧ Below w.heap.size w w4 := by
    intro B1 F1 s4 g4 a4 w4 e1 e2 e3 e4 hr4 hm
    split at hm <;> first | exact hm.elim | skip
    rename_i ps hps
    obtain ⟨v, hv1, hv2⟩ := results_run (F := F1) (C := C) hr4 (by rw [e4]; exact hps) hl4
    have hd : decR C.P rts (tupA ps) = some y := by
      unfold isR at hm
      split at hm
      · rename_i z hz; rw [hz, hm]
      · exact hm.elim
    refine ⟨v, hv1, _, v, g4.imm, rfl, enc_clean rts y, rfl, e2 ▸ hr4.immle, hr4.imm, fun b o u hu => ?_, rep_enc hd hv2, ?_⟩
    · rcases hr4.immnew b o u hu with h | h | h
      · rw [e2] at h; exact .inl h
      · rw [e1] at h; exact .inr h
      · exact absurd h (e3 _)
    · obtain ⟨k1, k2, k3, k4, k5⟩ := hr4.below
      rw [e1] at k1 k2 k3 k4 k5
      exact ⟨k1, k2, k3, k4, fun k hk => k5 k hk (e3 k)⟩
  refine calls_of_wp_defers hfn hbody ?_
  unfold Xg at h
  rw [hβ] at h
  have key := xc_sound (F := F0) (B := B0) (K0 := fun _ => False) (l0 := 0) hQ hC hpin D.A β (emp 0) _ hbn (Nat.le_refl _) hw0 (by rw [hN0]; exact h) _ _ w hr0
  refine wp_seq (wp_mono key ?_)
  rintro e a1 w1 ⟨σ, g1, hr1, ⟨s1, hc1, hw1, hm1⟩, hp1⟩
  cases e with
  | exit id => exact hm1.2.elim
  | goto l => exact hm1.elim
  | outgrown => exact hm1.elim
  | ret => exact hm1.2.elim
  | panic ch => obtain ⟨p, _, _, hp⟩ := hm1; exact hp.elim
  | normal =>
  obtain ⟨rfl, h1⟩ := hm1
  have key := xc_sound (F := F0) (B := B0) (K0 := fun _ => False) (l0 := 0) hQ hC hpin D.Bc β s1 _ hbn (Nat.zero_le _) hw1 (by rw [hN0]; exact h1) _ _ w1 hr1
  refine wp_seq (wp_mono key ?_)
  rintro e a2 w2 ⟨σ, g2, hr2, ⟨s2, hc2, hw2, hm2⟩, hp2⟩
  cases e with
  | exit id => exact hm2.2.elim
  | goto l => exact hm2.elim
  | outgrown => exact hm2.elim
  | ret => exact hm2.2.elim
  | panic ch => obtain ⟨p, _, _, hp⟩ := hm2; exact hp.elim
  | normal =>
  obtain ⟨rfl, h2⟩ := hm2
  simp only at h2
  split at h2 <;> first | exact h2.elim | skip
  rename_i ls hls
  have hdN0 : Nat.blt D.d F0.N = true := by rw [hN0]; exact hdN
  have hlsQ := capsA_in (fun x => hw2.ev x) (by rw [hN0]; exact hls)
  -- the closure, and the deferral
  refine wp_seq (wp_region_list ?_)
  show wpList C.P ⟨[D.mkf, D.df]⟩ _ [D.mkf, D.df] a2 w2
  have hst : VStep C.P B0 F0 (s2.over β) D.mkf D.d (.clo D.fd ls) := v_makeFunc hmd hdN0 hmk rfl (by simpa [hN0] using hls)
  refine wpList_plain hmg fun K hK => hst g2 a2 w2 hr2 K _ fun g3 a3 w3 hr3 => hK _ _ (wpList_plain hdg fun K2 hK2 => ?_)
  have hcl : a3.tmps.getD D.d undef = .func (.func D.fd) #[] (ls.map (cap g3.β)).toArray := by
    have h1 := hr3.tmp (t := D.d) (blt hdN0)
    have h1 : Rep _ g3 (cond (Nat.beq D.d D.d) (denV (.clo D.fd ls)) _) (a3.tmps.getD D.d undef) := h1
    rw [Nat.beq_refl] at h1
    exact h1
  have hdrun : (execOp a3.eval D.df).run C.P w3 = .ok (.defer { target := .fn (.func D.fd) (ls.map (cap g3.β)).toArray, args := #[] }) w3 := by
    unfold isDfr at hdo
    split at hdo
    · rename_i c hc
      obtain ⟨callee, cargs, ats⟩ := c
      split at hdo
      · rename_i x h1 h2
        simp only at h1 h2
        subst h1 h2
        obtain rfl := Nat.eq_of_beq_eq_true hdo
        simp only [execOp, hc, resolve]
        have hev : a3.eval (.tmp D.d) = .func (.func D.fd) #[] (ls.map (cap g3.β)).toArray := hcl
        rw [hev]
        simp [Deferred.ofValue, run_bind, run_pure]
      · cases hdo
    · cases hdo
  unfold Oper.wp
  rw [hdrun]
  show K2 _ w3
  rw [hdd]
  refine hK2 _ _ (wpList_nil ?_)
  show D.rest.wp C.P _ { tmps := a3.tmps, defers := _ :: a3.defers } w3
  have hdf3 : a3.defers = [] := hr3.defers.trans hd0
  rw [hdf3]
  generalize hdv : ({ target := .fn (.func D.fd) (ls.map (cap g3.β)).toArray, args := #[] } : Deferred) = dv
  -- from here on with the deferred call
  have hr4 : Rel { B0 with dfr := [dv], ext := fun k => bif Nat.beq k fn.ntmps then .func (.func D.fd) #[] (ls.map (cap g3.β)).toArray else undef } (den ⟨fn.ntmps, fun k => bif Nat.beq k fn.ntmps then .clo D.fd ls else .any⟩ ((s2.put D.d (.clo D.fd ls)).over β)) g3 { tmps := a3.tmps, defers := [dv] } w3 := by
    have hr3' : Rel B0 (den F0 ((s2.put D.d (.clo D.fd ls)).over β)) g3 a3 w3 := by rw [over_put, den_put hdN0]; exact hr3
    have hsz : a3.tmps.size = fn.ntmps := hr3.size.trans hN0
    refine ⟨hsz, fun t => ?_, rfl, hr3'.imm, hr3'.box, hr3'.apart, hr3'.tip, hr3'.tips, hr3'.boxtip, hr3'.below, hr3'.immle, hr3'.immnew, hr3'.pin, hr3'.prv⟩
    have h9 := hr3'.env t
    have h9 : Rep _ g3 (cond (Nat.blt t F0.N) (denV (((s2.put D.d (.clo D.fd ls)).over β).get t)) (denV (F0.ext t))) (a3.tmps.getD t (B0.ext t)) := h9
    rw [hN0] at h9
    show Rep _ g3 (cond (Nat.blt t fn.ntmps) (denV (((s2.put D.d (.clo D.fd ls)).over β).get t)) (denV (bif Nat.beq t fn.ntmps then .clo D.fd ls else .any))) (a3.tmps.getD t (bif Nat.beq t fn.ntmps then .func (.func D.fd) #[] (ls.map (cap g3.β)).toArray else undef))
    cases ht : Nat.blt t fn.ntmps with
    | true =>
      rw [ht] at h9
      have hlt := blt ht
      have e : ∀ d, a3.tmps.getD t d = a3.tmps[t]'(by omega) := fun d => by rw [Array.getD_eq_getD_getElem?, Array.getElem?_eq_getElem (by omega)]; rfl
      rw [e] at h9 ⊢
      exact h9
    | false =>
      have hge : fn.ntmps ≤ t := by
        rcases Nat.lt_or_ge t fn.ntmps with h | h
        · have : Nat.blt t fn.ntmps = true := Nat.ble_eq_true_of_le h
          rw [ht] at this; cases this
        · exact h
      rw [getD_ge (by omega)]
      cases Nat.beq t fn.ntmps
      · trivial
      · exact rfl
  have hw4 : WF (Bd (fun _ => False) 0 s2.c) (⟨fn.ntmps, fun k => bif Nat.beq k fn.ntmps then .clo D.fd ls else .any⟩ : Fr S) ((s2.put D.d (.clo D.fd ls)).over β) := by
    refine ⟨fun i => ?_, fun i ps hi => ?_, fun q x hq => ?_, fun i => ?_⟩
    · have := (hw2.put (d := D.d) (p := .clo D.fd ls) hlsQ).env i
      rw [hN0] at this
      rw [over_put]
      exact this
    · exact hw2.L i ps hi
    · exact hw2.T q x hq
    · show inV _ (bif Nat.beq i fn.ntmps then .clo D.fd ls else .any)
      cases Nat.beq i fn.ntmps
      · trivial
      · exact hlsQ
  have hpin1 : POk S { B0 with dfr := [dv], ext := fun k => bif Nat.beq k fn.ntmps then .func (.func D.fd) #[] (ls.map (cap g3.β)).toArray else undef } := ⟨hpin.pin, hpin.gl⟩
  have hbn1 : ∀ k, noG (getN fn.ntmps β k) := by rw [← hN0]; exact hbn
  have key := xc_sound (F := (⟨fn.ntmps, fun k => bif Nat.beq k fn.ntmps then .clo D.fd ls else .any⟩ : Fr S)) (B := { B0 with dfr := [dv], ext := fun k => bif Nat.beq k fn.ntmps then .func (.func D.fd) #[] (ls.map (cap g3.β)).toArray else undef }) (K0 := fun _ => False) (l0 := 0) hQ hC hpin1 D.rest β (s2.put D.d (.clo D.fd ls)) _ hbn1 (Nat.zero_le _) hw4 h2 _ _ w3 hr4
  obtain ⟨fnd, hf1, hf2, hf3⟩ := funcs_of hfb
  generalize hB1 : ({ B0 with dfr := [dv], ext := fun k => bif Nat.beq k fn.ntmps then .func (.func D.fd) #[] (ls.map (cap g3.β)).toArray else undef } : Base) = B1 at hr4 key hpin1
  generalize hF1 : (⟨fn.ntmps, fun k => bif Nat.beq k fn.ntmps then .clo D.fd ls else .any⟩ : Fr S) = F1 at hr4 hw4 key
  have hB1a : B1.w0 = w := by subst hB1 hB0; rfl
  have hB1b : B1.i0 = imm := by subst hB1 hB0; rfl
  have hB1c : ∀ k, ¬ B1.F k := by subst hB1 hB0; exact fun k h => h
  have hB1d : B1.dfr = [dv] := by subst hB1; rfl
  have hB1e : B1.ext fn.ntmps = .func (.func D.fd) #[] (ls.map (cap g3.β)).toArray := by subst hB1; show (bif Nat.beq fn.ntmps fn.ntmps then _ else _) = _; rw [Nat.beq_refl]; rfl
  have hF1N : F1.N = fn.ntmps := by subst hF1; rfl
  have hF1e : F1.ext fn.ntmps = .clo D.fd ls := by subst hF1; show (bif Nat.beq fn.ntmps fn.ntmps then _ else _) = _; rw [Nat.beq_refl]; rfl
  have caps : ∀ (s3 : XS S.A) (g : Gh) (a : Act) (w : World), Rel B1 (den F1 (s3.over β)) g a w → (ls.map (cap g3.β)).toArray = (ls.map (cap g.β)).toArray := by
    intro s3 g a w hr
    have h1 := hr.env fn.ntmps
    have h1 : Rep _ g (cond (Nat.blt fn.ntmps F1.N) (denV ((s3.over β).get fn.ntmps)) (denV (F1.ext fn.ntmps))) (a.tmps.getD fn.ntmps (B1.ext fn.ntmps)) := h1
    have hbl : Nat.blt fn.ntmps F1.N = false := by
      rw [hF1N]
      cases hq : Nat.blt fn.ntmps fn.ntmps with
      | false => rfl
      | true => have := blt hq; omega
    have hsz : a.tmps.size = fn.ntmps := hr.size.trans hF1N
    rw [hbl, hF1e, getD_ge (by omega), hB1e] at h1
    have h1 : (Value.func (.func D.fd) #[] (ls.map (cap g3.β)).toArray) = .func (.func D.fd) #[] (ls.map (cap g.β)).toArray := h1
    injection h1
  have last : ∀ (s3 : XS S.A) (g : Gh) (a : Act) (w3 : World) (v : AV S.A) (val : Value) (u u' : FrameMode), u ≠ .run → settle u' = .returning → Rel B1 (den F1 (s3.over β)) g a w3 → WF (Bd (fun _ => False) 0 s3.c) F1 (s3.over β) → inV (Bd (fun _ => False) 0 s3.c) v → Rep (denTT (s3.over β).T) g (denV v) val →
      (∀ (c₀ : Frame) (cs : List Frame), c₀.mode = u → recoverD (c₀ :: cs) = some (val, { c₀ with mode := u' } :: cs) ∨ (recoverD (c₀ :: cs) = none ∧ val = .nilIface ∧ u' = u)) →
      Xd C n D.fd ls β s3 v (fun s4 => match resAll C fn.ntmps (s4.over β) fn.results.toList with
            | some ps => isR C.P rts y (tupA ps)
            | none => False) → Leaves C.P fn a.tmps (fun e w' => ∃ r v imm', (r = tupA (encL C.P rts y)) ∧ (denV r).clean = true ∧ e = .returned v ∧ Imm.le imm imm' ∧ ImmOk imm' w' ∧ (∀ b o u, imm' b o = some u → imm b o = some u ∨ w.heap.size ≤ b) ∧ Rep noT (gh imm') (denV r) v ∧ Below w.heap.size w w') a.defers u w3 := by
    intro s3 g a w3 v val u u' hu hset hr hw hvi hval hrec hX
    rw [hr.defers.trans hB1d, ← hdv]
    have hls3 : ∀ x, some x ∈ ls → Bd (fun _ => False) 0 s3.c x := by
      have := hw.ext fn.ntmps
      rw [hF1e] at this
      exact this
    refine leaves_cons (f := D.fd) (args := (ls.map (cap g3.β)).toArray) hu (by show (callFunc D.fd (#[] ++ (ls.map (cap g3.β)).toArray)).run C.P w3 = _; rw [Array.empty_append]; exact run_callFunc hf1 hf2 hf3 _ _) ?_
    rw [caps s3 g a w3 hr]
    refine CallsD.mono (xd_sound hC hX hpin1 (fun x hx => hx.lt hQ (Nat.zero_le _)) hw hls3 hvi (noG_in hvi) hr hrec hval) (fun e u2 w' h => ?_)
    obtain ⟨⟨r, rfl⟩, rfl, s4, g4, hk4, hc4, hget4, hr5, hw5⟩ := h
    show Leaves C.P fn a.tmps _ [] (settle u2) w'
    rw [hset]
    exact fin B1 F1 s4 g4 a w' hB1a hB1b hB1c hF1N hr5 hk4
  refine wp_mono key ?_
  rintro e a4 w4 ⟨σ, g4, hr5, ⟨s3, hc3, hw5, hm3⟩, hp3⟩
  cases e with
  | normal => exact hm3.2.elim
  | exit id => exact hm3.2.elim
  | goto l => exact hm3.elim
  | outgrown => exact hm3.elim
  | ret =>
    obtain ⟨rfl, h3⟩ := hm3
    exact last s3 g4 a4 w4 (.sc .nilIface) .nilIface .returning .returning (by simp) rfl hr5 hw5 trivial rfl (fun c₀ cs hc => .inr ⟨by simp [recoverD, hc], rfl, rfl⟩) h3
  | panic ch =>
    obtain ⟨p, rfl, hpi, h3⟩ := hm3
    obtain ⟨v, rfl, hv⟩ := hp3
    exact last s3 g4 a4 w4 p v (.panicking [{ v, recovered := false }]) (.panicking [{ v, recovered := true }]) (by simp) rfl (Rel.pay hr5 (den F1 (s3.over β)).pay) hw5 hpi hv (fun c₀ cs hc => .inl (by simp [recoverD, hc])) h3
/-- What is to be shown of a function, in any way. -/
def RunP (C : Cfg S) (f : Nat) (rts : List Nat) : (ts : List Nat) → CT S rts ts → List (Sigma S.A) → Prop
  | [], W, acc => (∀ q, W.1 = some q → q) → PFk (S := S) C.P f ((argsA C acc).map stripA) (fun q => q = tupA (encL C.P rts W.2))
  | t :: ts, W, acc => ∀ x, OkA S 5 t x → RunP C f rts ts (W x) (acc ++ [⟨t, x⟩])
theorem con_ofP {f : Nat} {rts : List Nat} {k : AV S.A → Prop} {imm : Imm} {w : World} {vs : List Value} (hok : ImmOk imm w) (hgl : GlobOk S imm) : ∀ (ts : List Nat) (W : CT S rts ts) (acc : List (Sigma S.A)) (qs args : List (AV S.A)), RunP C f rts ts W acc → Ab.WkT (qs.map stripA) ((argsA C acc).map denV) → appC C.P rts ts W args k →
    RepT noT (gh imm) ((qs ++ args).map stripA) vs → Calls C.P f vs.toArray w fun e w' =>
      ∃ r v imm', k r ∧ (denV r).clean = true ∧ e = .returned v ∧ Imm.le imm imm' ∧ ImmOk imm' w' ∧ (∀ b o u, imm' b o = some u → imm b o = some u ∨ w.heap.size ≤ b) ∧ Rep noT (gh imm') (denV r) v ∧ Below w.heap.size w w'
  | [], W, acc, qs, [], hrun, hwk, h, hargs => by
    obtain ⟨hp, hk⟩ := withP_iff h
    rw [List.append_nil] at hargs
    have h1 := hrun hp imm w vs hok hgl (by
      rw [show (argsA C acc).map stripA = (argsA C acc).map denV from List.map_congr_left fun p hp => (argsA_plain acc p hp).strip]
      exact wk_repT hwk hargs)
    refine h1.mono ?_
    rintro e w' ⟨r, v, imm', rfl, h2, h3⟩
    exact ⟨_, v, imm', hk, h2, h3⟩
  | [], W, acc, qs, _ :: _, hrun, hwk, h, _ => h.elim
  | t :: ts, W, acc, qs, [], hrun, hwk, h, _ => h.elim
  | t :: ts, W, acc, qs, p :: ps, hrun, hwk, h, hargs => by
    simp only [appC] at h
    split at h <;> first | exact h.elim | skip
    rename_i x hx
    obtain ⟨hfl, hw⟩ := dArg_wk hx
    have h1 : denV p = den2 p := den2_flat hfl
    have e : (den2 p).strip = (den2 p).strip2 := strip_other _ (fun cs e => by rw [← h1] at e; exact flat_ne hfl cs e)
    have hs : stripA p = (den2 p).strip2 := by show (denV p).strip = _; rw [h1, e]
    have hOk : OkA S 5 t x := by
      obtain ⟨v, hv⟩ := repT_at (i := qs.length) hargs (q := stripA p) (by simp)
      rw [hs] at hv
      exact okA_arg hx (wk_repE hw hv) 5
    refine con_ofP hok hgl ts (W x) (acc ++ [⟨t, x⟩]) (qs ++ [p]) ps (hrun x hOk) (by
      rw [argsA_app, List.map_append, List.map_append]
      refine wkT_app hwk (.cons ?_ .nil)
      rw [(plain_arg (P := C.P) t x).d2, hs]
      exact hw) h (by rw [List.append_assoc]; exact hargs)
theorem con_okP {f : Nat} {ts rts : List Nat} {W : CT S rts ts} (h : RunP C f rts ts W []) : ConOk C.P f (ctr C.P ts rts W) ∧ ConMon (ctr C.P ts rts W) :=
  ⟨fun args k ha imm w vs hok hgl hargs => con_ofP hok hgl ts W [] [] args h .nil ha hargs, fun args k k' hk ha => appC_mono ts W args k k' hk ha⟩
end
end Go.Rx
namespace Go.Rx
open Go.Ab
set_option linter.unusedVariables false
structure api_Caps where
  fFour : Bool
  fAS4 : Int
  fGR : Bool
  fRestarting : Bool
  fTime : Int
  fFamily : Bool
  fForward : Bool
  fLL : Bool
  fLLTime : Int
  deriving DecidableEq, Inhabited
structure api_Open where
  fAS : Int
  fHold : Int
  fID : Int
  fCaps : api_Caps
  deriving DecidableEq, Inhabited
structure api_Prefix where
  fAddr : Int
  fLen : Int
  deriving DecidableEq, Inhabited
structure api_Segment where
  fSet : Bool
  fAS : List Int
  deriving DecidableEq, Inhabited
structure api_Raw where
  fFlags : Int
  fType : Int
  fData : List Int
  deriving DecidableEq, Inhabited
structure api_Attrs where
  fOrigin : Int
  fPath : List api_Segment
  fNext : Int
  fMed : Int
  fPref : Int
  fComms : List Int
  fRaws : List api_Raw
  deriving DecidableEq, Inhabited
structure api_Update where
  fGone : List api_Prefix
  fAttrs : api_Attrs
  fNlri : List api_Prefix
  deriving DecidableEq, Inhabited
structure api_Note where
  fCode : Int
  fSub : Int
  fData : List Int
  deriving DecidableEq, Inhabited
structure api_Msg where
  fKind : Int
  fOpen : api_Open
  fUpdate : api_Update
  fNote : api_Note
  deriving DecidableEq, Inhabited
structure stream_Stream where
  fb : List Int
  fnote : api_Note
  deriving DecidableEq, Inhabited
def api_Caps.cells (x : api_Caps) : List PV := [.sc (.bool x.fFour), .sc (.int .i64 x.fAS4), .sc (.bool x.fGR), .sc (.bool x.fRestarting), .sc (.int .i64 x.fTime), .sc (.bool x.fFamily), .sc (.bool x.fForward), .sc (.bool x.fLL), .sc (.int .i64 x.fLLTime)]
def api_Caps.enc : Enc api_Caps := ⟨9, api_Caps.cells, fun _ => rfl⟩
def api_Open.cells (x : api_Open) : List PV := [.sc (.int .i64 x.fAS), .sc (.int .i64 x.fHold), .sc (.int .u32 x.fID), .sc (.bool x.fCaps.fFour), .sc (.int .i64 x.fCaps.fAS4), .sc (.bool x.fCaps.fGR), .sc (.bool x.fCaps.fRestarting), .sc (.int .i64 x.fCaps.fTime), .sc (.bool x.fCaps.fFamily), .sc (.bool x.fCaps.fForward), .sc (.bool x.fCaps.fLL), .sc (.int .i64 x.fCaps.fLLTime)]
def api_Open.enc : Enc api_Open := ⟨12, api_Open.cells, fun _ => rfl⟩
def api_Prefix.cells (x : api_Prefix) : List PV := [.sc (.int .u32 x.fAddr), .sc (.int .i64 x.fLen)]
def api_Prefix.enc : Enc api_Prefix := ⟨2, api_Prefix.cells, fun _ => rfl⟩
def api_Segment.cells (x : api_Segment) : List PV := [.sc (.bool x.fSet), .sem (SL (eI .i64) x.fAS)]
def api_Segment.enc : Enc api_Segment := ⟨2, api_Segment.cells, fun _ => rfl⟩
def api_Raw.cells (x : api_Raw) : List PV := [.sc (.int .i64 x.fFlags), .sc (.int .i64 x.fType), .sem (SL (eI .u8) x.fData)]
def api_Raw.enc : Enc api_Raw := ⟨3, api_Raw.cells, fun _ => rfl⟩
def api_Attrs.cells (x : api_Attrs) : List PV := [.sc (.int .i64 x.fOrigin), .sem (SL api_Segment.enc x.fPath), .sc (.int .u32 x.fNext), .sc (.int .i64 x.fMed), .sc (.int .i64 x.fPref), .sem (SL (eI .u32) x.fComms), .sem (SL api_Raw.enc x.fRaws)]
def api_Attrs.enc : Enc api_Attrs := ⟨7, api_Attrs.cells, fun _ => rfl⟩
def api_Update.cells (x : api_Update) : List PV := [.sem (SL api_Prefix.enc x.fGone), .sc (.int .i64 x.fAttrs.fOrigin), .sem (SL api_Segment.enc x.fAttrs.fPath), .sc (.int .u32 x.fAttrs.fNext), .sc (.int .i64 x.fAttrs.fMed), .sc (.int .i64 x.fAttrs.fPref), .sem (SL (eI .u32) x.fAttrs.fComms), .sem (SL api_Raw.enc x.fAttrs.fRaws), .sem (SL api_Prefix.enc x.fNlri)]
def api_Update.enc : Enc api_Update := ⟨9, api_Update.cells, fun _ => rfl⟩
def api_Note.cells (x : api_Note) : List PV := [.sc (.int .i64 x.fCode), .sc (.int .i64 x.fSub), .sem (SL (eI .u8) x.fData)]
def api_Note.enc : Enc api_Note := ⟨3, api_Note.cells, fun _ => rfl⟩
def api_Msg.cells (x : api_Msg) : List PV := [.sc (.int .i64 x.fKind), .sc (.int .i64 x.fOpen.fAS), .sc (.int .i64 x.fOpen.fHold), .sc (.int .u32 x.fOpen.fID), .sc (.bool x.fOpen.fCaps.fFour), .sc (.int .i64 x.fOpen.fCaps.fAS4), .sc (.bool x.fOpen.fCaps.fGR), .sc (.bool x.fOpen.fCaps.fRestarting), .sc (.int .i64 x.fOpen.fCaps.fTime), .sc (.bool x.fOpen.fCaps.fFamily), .sc (.bool x.fOpen.fCaps.fForward), .sc (.bool x.fOpen.fCaps.fLL), .sc (.int .i64 x.fOpen.fCaps.fLLTime), .sem (SL api_Prefix.enc x.fUpdate.fGone), .sc (.int .i64 x.fUpdate.fAttrs.fOrigin), .sem (SL api_Segment.enc x.fUpdate.fAttrs.fPath), .sc (.int .u32 x.fUpdate.fAttrs.fNext), .sc (.int .i64 x.fUpdate.fAttrs.fMed), .sc (.int .i64 x.fUpdate.fAttrs.fPref), .sem (SL (eI .u32) x.fUpdate.fAttrs.fComms), .sem (SL api_Raw.enc x.fUpdate.fAttrs.fRaws), .sem (SL api_Prefix.enc x.fUpdate.fNlri), .sc (.int .i64 x.fNote.fCode), .sc (.int .i64 x.fNote.fSub), .sem (SL (eI .u8) x.fNote.fData)]
def api_Msg.enc : Enc api_Msg := ⟨25, api_Msg.cells, fun _ => rfl⟩
def stream_Stream.cells (x : stream_Stream) : List PV := [.sem (SL (eI .u8) x.fb), .sc (.int .i64 x.fnote.fCode), .sc (.int .i64 x.fnote.fSub), .sem (SL (eI .u8) x.fnote.fData)]
def stream_Stream.enc : Enc stream_Stream := ⟨4, stream_Stream.cells, fun _ => rfl⟩
def TD : Nat → Dat0 := fun t => match t with
  | 3 => ⟨Int, inferInstance⟩
  | 4 => ⟨Bool, inferInstance⟩
  | 5 => ⟨Int, inferInstance⟩
  | 12 => ⟨Int, inferInstance⟩
  | 22 => ⟨List Int, inferInstance⟩
  | 26 => ⟨Int, inferInstance⟩
  | 28 => ⟨api_Caps, inferInstance⟩
  | 30 => ⟨api_Open, inferInstance⟩
  | 31 => ⟨List api_Prefix, inferInstance⟩
  | 32 => ⟨List api_Segment, inferInstance⟩
  | 33 => ⟨List Int, inferInstance⟩
  | 34 => ⟨List api_Raw, inferInstance⟩
  | 36 => ⟨api_Attrs, inferInstance⟩
  | 38 => ⟨api_Update, inferInstance⟩
  | 40 => ⟨api_Note, inferInstance⟩
  | 42 => ⟨api_Msg, inferInstance⟩
  | 51 => ⟨stream_Stream, inferInstance⟩
  | 65 => ⟨api_Prefix, inferInstance⟩
  | 82 => ⟨api_Raw, inferInstance⟩
  | 95 => ⟨List Int, inferInstance⟩
  | 97 => ⟨api_Segment, inferInstance⟩
  | _ => ⟨Unit, inferInstance⟩
abbrev TA (t : Nat) : Type := (TD t).α
def TB : (t : Nat) → EncShp TA (TA t) := fun t => match t with
  | 3 => ⟨((eI .i64) : Enc (Int)), ({ lv := [.int .i64], toH := fun (x : Int) => (x, ()), ofH := fun h => h.1, eta := fun _ => rfl } : Shp TA (Int))⟩
  | 4 => ⟨(eB : Enc (Bool)), ({ lv := [.bool], toH := fun (x : Bool) => (x, ()), ofH := fun h => h.1, eta := fun _ => rfl } : Shp TA (Bool))⟩
  | 5 => ⟨((eI .u8) : Enc (Int)), ({ lv := [.int .u8], toH := fun (x : Int) => (x, ()), ofH := fun h => h.1, eta := fun _ => rfl } : Shp TA (Int))⟩
  | 12 => ⟨((eI .u64) : Enc (Int)), ({ lv := [.int .u64], toH := fun (x : Int) => (x, ()), ofH := fun h => h.1, eta := fun _ => rfl } : Shp TA (Int))⟩
  | 22 => ⟨((eL (eI .u8)) : Enc (List Int)), ({ lv := [.sl 5], toH := fun (x : List Int) => (x, ()), ofH := fun h => h.1, eta := fun _ => rfl } : Shp TA (List Int))⟩
  | 26 => ⟨((eI .u32) : Enc (Int)), ({ lv := [.int .u32], toH := fun (x : Int) => (x, ()), ofH := fun h => h.1, eta := fun _ => rfl } : Shp TA (Int))⟩
  | 28 => ⟨(api_Caps.enc : Enc (api_Caps)), ({ lv := [.bool, .int .i64, .bool, .bool, .int .i64, .bool, .bool, .bool, .int .i64], toH := fun (x : api_Caps) => (x.fFour, x.fAS4, x.fGR, x.fRestarting, x.fTime, x.fFamily, x.fForward, x.fLL, x.fLLTime, ()), ofH := fun h => ⟨h.1, h.2.1, h.2.2.1, h.2.2.2.1, h.2.2.2.2.1, h.2.2.2.2.2.1, h.2.2.2.2.2.2.1, h.2.2.2.2.2.2.2.1, h.2.2.2.2.2.2.2.2.1⟩, eta := fun _ => rfl } : Shp TA (api_Caps))⟩
  | 30 => ⟨(api_Open.enc : Enc (api_Open)), ({ lv := [.int .i64, .int .i64, .int .u32, .bool, .int .i64, .bool, .bool, .int .i64, .bool, .bool, .bool, .int .i64], toH := fun (x : api_Open) => (x.fAS, x.fHold, x.fID, x.fCaps.fFour, x.fCaps.fAS4, x.fCaps.fGR, x.fCaps.fRestarting, x.fCaps.fTime, x.fCaps.fFamily, x.fCaps.fForward, x.fCaps.fLL, x.fCaps.fLLTime, ()), ofH := fun h => ⟨h.1, h.2.1, h.2.2.1, ⟨h.2.2.2.1, h.2.2.2.2.1, h.2.2.2.2.2.1, h.2.2.2.2.2.2.1, h.2.2.2.2.2.2.2.1, h.2.2.2.2.2.2.2.2.1, h.2.2.2.2.2.2.2.2.2.1, h.2.2.2.2.2.2.2.2.2.2.1, h.2.2.2.2.2.2.2.2.2.2.2.1⟩⟩, eta := fun _ => rfl } : Shp TA (api_Open))⟩
  | 31 => ⟨((eL api_Prefix.enc) : Enc (List api_Prefix)), ({ lv := [.sl 65], toH := fun (x : List api_Prefix) => (x, ()), ofH := fun h => h.1, eta := fun _ => rfl } : Shp TA (List api_Prefix))⟩
  | 32 => ⟨((eL api_Segment.enc) : Enc (List api_Segment)), ({ lv := [.sl 97], toH := fun (x : List api_Segment) => (x, ()), ofH := fun h => h.1, eta := fun _ => rfl } : Shp TA (List api_Segment))⟩
  | 33 => ⟨((eL (eI .u32)) : Enc (List Int)), ({ lv := [.sl 26], toH := fun (x : List Int) => (x, ()), ofH := fun h => h.1, eta := fun _ => rfl } : Shp TA (List Int))⟩
  | 34 => ⟨((eL api_Raw.enc) : Enc (List api_Raw)), ({ lv := [.sl 82], toH := fun (x : List api_Raw) => (x, ()), ofH := fun h => h.1, eta := fun _ => rfl } : Shp TA (List api_Raw))⟩
  | 36 => ⟨(api_Attrs.enc : Enc (api_Attrs)), ({ lv := [.int .i64, .sl 97, .int .u32, .int .i64, .int .i64, .sl 26, .sl 82], toH := fun (x : api_Attrs) => (x.fOrigin, x.fPath, x.fNext, x.fMed, x.fPref, x.fComms, x.fRaws, ()), ofH := fun h => ⟨h.1, h.2.1, h.2.2.1, h.2.2.2.1, h.2.2.2.2.1, h.2.2.2.2.2.1, h.2.2.2.2.2.2.1⟩, eta := fun _ => rfl } : Shp TA (api_Attrs))⟩
  | 38 => ⟨(api_Update.enc : Enc (api_Update)), ({ lv := [.sl 65, .int .i64, .sl 97, .int .u32, .int .i64, .int .i64, .sl 26, .sl 82, .sl 65], toH := fun (x : api_Update) => (x.fGone, x.fAttrs.fOrigin, x.fAttrs.fPath, x.fAttrs.fNext, x.fAttrs.fMed, x.fAttrs.fPref, x.fAttrs.fComms, x.fAttrs.fRaws, x.fNlri, ()), ofH := fun h => ⟨h.1, ⟨h.2.1, h.2.2.1, h.2.2.2.1, h.2.2.2.2.1, h.2.2.2.2.2.1, h.2.2.2.2.2.2.1, h.2.2.2.2.2.2.2.1⟩, h.2.2.2.2.2.2.2.2.1⟩, eta := fun _ => rfl } : Shp TA (api_Update))⟩
  | 40 => ⟨(api_Note.enc : Enc (api_Note)), ({ lv := [.int .i64, .int .i64, .sl 5], toH := fun (x : api_Note) => (x.fCode, x.fSub, x.fData, ()), ofH := fun h => ⟨h.1, h.2.1, h.2.2.1⟩, eta := fun _ => rfl } : Shp TA (api_Note))⟩
  | 42 => ⟨(api_Msg.enc : Enc (api_Msg)), ({ lv := [.int .i64, .int .i64, .int .i64, .int .u32, .bool, .int .i64, .bool, .bool, .int .i64, .bool, .bool, .bool, .int .i64, .sl 65, .int .i64, .sl 97, .int .u32, .int .i64, .int .i64, .sl 26, .sl 82, .sl 65, .int .i64, .int .i64, .sl 5], toH := fun (x : api_Msg) => (x.fKind, x.fOpen.fAS, x.fOpen.fHold, x.fOpen.fID, x.fOpen.fCaps.fFour, x.fOpen.fCaps.fAS4, x.fOpen.fCaps.fGR, x.fOpen.fCaps.fRestarting, x.fOpen.fCaps.fTime, x.fOpen.fCaps.fFamily, x.fOpen.fCaps.fForward, x.fOpen.fCaps.fLL, x.fOpen.fCaps.fLLTime, x.fUpdate.fGone, x.fUpdate.fAttrs.fOrigin, x.fUpdate.fAttrs.fPath, x.fUpdate.fAttrs.fNext, x.fUpdate.fAttrs.fMed, x.fUpdate.fAttrs.fPref, x.fUpdate.fAttrs.fComms, x.fUpdate.fAttrs.fRaws, x.fUpdate.fNlri, x.fNote.fCode, x.fNote.fSub, x.fNote.fData, ()), ofH := fun h => ⟨h.1, ⟨h.2.1, h.2.2.1, h.2.2.2.1, ⟨h.2.2.2.2.1, h.2.2.2.2.2.1, h.2.2.2.2.2.2.1, h.2.2.2.2.2.2.2.1, h.2.2.2.2.2.2.2.2.1, h.2.2.2.2.2.2.2.2.2.1, h.2.2.2.2.2.2.2.2.2.2.1, h.2.2.2.2.2.2.2.2.2.2.2.1, h.2.2.2.2.2.2.2.2.2.2.2.2.1⟩⟩, ⟨h.2.2.2.2.2.2.2.2.2.2.2.2.2.1, ⟨h.2.2.2.2.2.2.2.2.2.2.2.2.2.2.1, h.2.2.2.2.2.2.2.2.2.2.2.2.2.2.2.1, h.2.2.2.2.2.2.2.2.2.2.2.2.2.2.2.2.1, h.2.2.2.2.2.2.2.2.2.2.2.2.2.2.2.2.2.1, h.2.2.2.2.2.2.2.2.2.2.2.2.2.2.2.2.2.2.1, h.2.2.2.2.2.2.2.2.2.2.2.2.2.2.2.2.2.2.2.1, h.2.2.2.2.2.2.2.2.2.2.2.2.2.2.2.2.2.2.2.2.1⟩, h.2.2.2.2.2.2.2.2.2.2.2.2.2.2.2.2.2.2.2.2.2.1⟩, ⟨h.2.2.2.2.2.2.2.2.2.2.2.2.2.2.2.2.2.2.2.2.2.2.1, h.2.2.2.2.2.2.2.2.2.2.2.2.2.2.2.2.2.2.2.2.2.2.2.1, h.2.2.2.2.2.2.2.2.2.2.2.2.2.2.2.2.2.2.2.2.2.2.2.2.1⟩⟩, eta := fun _ => rfl } : Shp TA (api_Msg))⟩
  | 51 => ⟨(stream_Stream.enc : Enc (stream_Stream)), ({ lv := [.sl 5, .int .i64, .int .i64, .sl 5], toH := fun (x : stream_Stream) => (x.fb, x.fnote.fCode, x.fnote.fSub, x.fnote.fData, ()), ofH := fun h => ⟨h.1, ⟨h.2.1, h.2.2.1, h.2.2.2.1⟩⟩, eta := fun _ => rfl } : Shp TA (stream_Stream))⟩
  | 65 => ⟨(api_Prefix.enc : Enc (api_Prefix)), ({ lv := [.int .u32, .int .i64], toH := fun (x : api_Prefix) => (x.fAddr, x.fLen, ()), ofH := fun h => ⟨h.1, h.2.1⟩, eta := fun _ => rfl } : Shp TA (api_Prefix))⟩
  | 82 => ⟨(api_Raw.enc : Enc (api_Raw)), ({ lv := [.int .i64, .int .i64, .sl 5], toH := fun (x : api_Raw) => (x.fFlags, x.fType, x.fData, ()), ofH := fun h => ⟨h.1, h.2.1, h.2.2.1⟩, eta := fun _ => rfl } : Shp TA (api_Raw))⟩
  | 95 => ⟨((eL (eI .i64)) : Enc (List Int)), ({ lv := [.sl 3], toH := fun (x : List Int) => (x, ()), ofH := fun h => h.1, eta := fun _ => rfl } : Shp TA (List Int))⟩
  | 97 => ⟨(api_Segment.enc : Enc (api_Segment)), ({ lv := [.bool, .sl 3], toH := fun (x : api_Segment) => (x.fSet, x.fAS, ()), ofH := fun h => ⟨h.1, h.2.1⟩, eta := fun _ => rfl } : Shp TA (api_Segment))⟩
  | x => ⟨⟨0, fun _ => [], fun _ => rfl⟩, { lv := [], toH := fun _ => (), ofH := fun _ => (TD x).inh.default, eta := fun _ => rfl }⟩
def TE (t : Nat) : Enc (TA t) := (TB t).E
def TG {α : Type} (e : EncShp TA α) : Prop := ∀ x, e.E.pv x = pvsH TE e.shp.lv (e.shp.toH x)
theorem TL (t : Nat) : TG (TB t) := by
  unfold TB
  split <;> intro x <;> rfl
def S : Sys := { A := TA, inh := fun t => (TD t).inh, E := TE, shp := fun t => (TB t).shp, law := TL, glob := [] }
end Go.Rx
namespace Go.Rx
noncomputable def P7 : Program := Proofs.Tryd.prog
theorem mx7 : P7.follows .mixedOrders = true := by kernel_rfl
end Go.Rx
namespace Go.L10
open Go.Rx Go.Ab
/-- How often one byte is among others. -/
def cnt (c : Int) (x : List Int) : Int := (x.count c : Nat)
def Byt (b : List Int) : Prop := ∀ x ∈ b, 0 ≤ x ∧ x ≤ 255
def P328 (x y : List Int) : Prop := y.length = 1 ∧ Byt x ∧ Byt y
def S328 (x y : List Int) : Int := cnt (ix y 0) x
def P62 (x : List Int) : Prop := x.length ≤ 140737488355328
def S62 (x : List Int) : List Int := x
def Alive : api_Msg → Prop := fun m => m.fKind = 4
/-- The messages that the laws of this text make. -/
def P309 (m : api_Msg) : Prop := (m.fKind = 3 ∨ m.fKind = 4) ∧ m.fNote.fData.length ≤ 1099511627776
def S314 (v : Int) : List Int := [IntKind.u8.wrap (IntKind.i64.wrap (v.tdiv 256)), IntKind.u8.wrap (v.tmod 256)]
def ff16 : List Int := List.replicate 16 255
def bodyS (m : api_Msg) : List Int := if m.fKind = 3 then IntKind.wrap .u8 m.fNote.fCode :: IntKind.wrap .u8 m.fNote.fSub :: m.fNote.fData else []
def okN (m : api_Msg) : Bool := if m.fKind = 3 then decide (0 ≤ m.fNote.fCode) && decide (m.fNote.fCode ≤ 255) && decide (0 ≤ m.fNote.fSub) && decide (m.fNote.fSub ≤ 255) else decide (m.fKind = 4)
def S309 (m : api_Msg) : List Int := if okN m then (if (bodyS m).length ≤ 4077 then ff16 ++ S314 (19 + (bodyS m).length) ++ [IntKind.wrap .u8 m.fKind] ++ bodyS m else []) else []
def no : api_Note := ⟨0, 0, []⟩
def P326 (b : List Int) : Prop := 2 ≤ b.length ∧ Byt b
def S326 (b : List Int) : Int := 256 * ix b 0 + ix b 1
def S327 (c s : Int) (d : List Int) : api_Note := ⟨c, s, d⟩
def sz2 (b : List Int) : Int := 256 * ix b 16 + ix b 17
def k18 (b : List Int) : Int := ix b 18
def shortS (kind size : Int) : Bool := if kind = 1 then decide (size < 29) else if kind = 2 then decide (size < 23) else if kind = 3 then decide (size < 21) else !decide (size = 19)
def P316 (b : List Int) : Prop := Byt b
def S316 (b : List Int) : Int × api_Note :=
  if b.length < 19 then (0, no)
  else if cnt 255 (sub b 0 16) ≠ 16 then (0, ⟨1, 1, []⟩)
  else if sz2 b < 19 ∨ 4096 < sz2 b then (0, ⟨1, 2, [ix b 16, ix b 17]⟩)
  else if k18 b < 1 ∨ 4 < k18 b then (0, ⟨1, 3, [ix b 18]⟩)
  else if shortS (k18 b) (sz2 b) then (0, ⟨1, 2, [ix b 16, ix b 17]⟩)
  else (sz2 b, no)
def S329 (kind size : Int) : Bool := shortS kind size
def P330 (b : List Int) : Prop := False
def S330 (b : List Int) : api_Open × api_Note := default
def P331 (b : List Int) : Prop := False
def S331 (b : List Int) : api_Update × api_Note := default
def noCaps : api_Caps := ⟨false, 0, false, false, 0, false, false, false, 0⟩
def noOpen : api_Open := ⟨0, 0, 0, noCaps⟩
def noAttrs : api_Attrs := ⟨0, [], 0, 0, 0, [], []⟩
def noUpd : api_Update := ⟨[], noAttrs, []⟩
def noMsg : api_Msg := ⟨0, noOpen, noUpd, no⟩
/-- Of these bytes Decode needs neither an OPEN's nor an UPDATE's body. -/
def P317 (b : List Int) : Prop := Byt b ∧ b.length ≤ 140737488355328 ∧ ((S316 b).2.fCode = 0 → (S316 b).1 = b.length → b.length ≠ 0 → 3 ≤ k18 b)
def S317 (b : List Int) : api_Msg × api_Note :=
  if (S316 b).2.fCode ≠ 0 then (noMsg, (S316 b).2)
  else if (S316 b).1 ≠ b.length ∨ b.length = 0 then (noMsg, ⟨1, 2, []⟩)
  else if k18 b = 3 then ({ noMsg with fKind := 3, fNote := ⟨ix b 19, ix b 20, b.drop 21⟩ }, no)
  else ({ noMsg with fKind := k18 b }, no)
def P315 (n : api_Note) : Prop := n.fData.length ≤ 140737488355328
def S315 (n : api_Note) : api_Note := n
def S306 : Bool := true
def P303 (l : List Int) : Prop := Byt l
def S303 (l : List Int) : Bool := true
def P305 (a b : List Int) : Prop := Byt a ∧ Byt b
def S305 (a b : List Int) : Bool := true
def P319 (c : api_Caps) : Prop := False
def S319 (c : api_Caps) : Bool := default
def P321 (c : api_Caps) : Prop := False
def S321 (c : api_Caps) : List Int := default
def P322 (l : api_Prefix) : Prop := False
def S322 (l : api_Prefix) : Bool := default
def P324 (l : List api_Prefix) : Prop := False
def S324 (l : List api_Prefix) : List Int := default
def P14 (a : api_Attrs) : Prop := False
def S14 (a : api_Attrs) : Bool := default
def P16 (a : api_Attrs) : Prop := False
def S16 (a : api_Attrs) : List Int := default
end Go.L10
namespace Go.Proofs.YtadmpldpipagnaaDoor
open Go.Ab Go.Rx
set_option linter.unusedSimpArgs false
set_option linter.unusedVariables false
theorem rd5 : Reads Tryd.prog 5 (eI .u8).pv (okI .u8) := reads_int Tryd.underlying5
theorem rd22 : Reads Tryd.prog 22 (eL (eI .u8)).pv (okL (okI .u8)) := reads_slice (E := (eI .u8)) Tryd.underlying22 (by kernel_rfl) (of_decide_eq_true (by kernel_rfl)) (by decide) rd5
end Go.Proofs.YtadmpldpipagnaaDoor
namespace Go.Rx
open Go.Ab Go.L10
theorem globN (imm : Imm) : GlobOk S imm := fun _ h => by cases h
theorem byt_ok {l : List Int} (h : okL (okI .u8) l) : Byt l := fun x hx => by have := okI8.1 (h.2 x hx); omega
end Go.Rx
/-
  DERIVED: THE SHELF's CONTRACTS AT THIS DUMP, IN PLAIN WORDS (tools/lay-plain.mjs out of 'SlcD.lean', which tools/lay-shelf.mjs wrote): THE SAME DECLARATIONS UNDER THE SAME NAMES: 'import', 'namespace', 'open', 'def', 'theorem' AND NOTHING ELSE: no command of the shelf's: FOR A HAND-IN. Each laying: the table of numbers ('.._ren') and one theorem, a field a fact of the dump's own or the kernel's comparison; each contract: ONE APPLICATION.
-/
namespace Go.Proofs
open Go.Shelf
def Tryd.lays13_ren : Go.Shelf.Ren := ⟨fun | 13 => 28 | 24 => 37 | 25 => 38 | 12 => 39 | 31 => 45 | 19 => 46 | 20 => 47 | 21 => 48 | 22 => 49 | 23 => 50 | 29 => 58 | 30 => 59 | n => n, fun | 22 => 22 | 3 => 3 | 4 => 4 | 0 => 0 | 5 => 5 | 9 => 9 | 33 => 77 | 40 => 113 | 39 => 26 | n => n, fun | 0 => 0 | n => n⟩
theorem Tryd.lays13 : Go.Proofs.SlLaysB.n13 Tryd.prog Tryd.lays13_ren := {
  mixed := by kernel_rfl
  f13 := Tryd.func28.trans (congrArg some (by kernel_rfl))
  f25 := Tryd.func38.trans (congrArg some (by kernel_rfl))
  t0 := Tryd.underlying0
  a0 := Tryd.isAgg0
  z0 := Tryd.sizeOf0
  v0 := Tryd.zeroValue0
  t3 := Tryd.underlying3
  a3 := Tryd.isAgg3
  z3 := Tryd.sizeOf3
  v3 := Tryd.zeroValue3
  t4 := Tryd.underlying4
  a4 := Tryd.isAgg4
  z4 := Tryd.sizeOf4
  v4 := Tryd.zeroValue4
  t5 := Tryd.underlying5
  a5 := Tryd.isAgg5
  z5 := Tryd.sizeOf5
  v5 := Tryd.zeroValue5
  t22 := Tryd.underlying22
  a22 := Tryd.isAgg22
  z22 := Tryd.sizeOf22
  v22 := Tryd.zeroValue22 }
end Go.Proofs
/-! bytes.Count of one byte. -/
namespace Go.Rx
open Go.Ab Go.L10 Go.Proofs Go.RowKit
set_option linter.unusedVariables false
set_option maxRecDepth 100000
theorem count_bytes {c : Int} (hc : 0 ≤ c ∧ c ≤ 255) : ∀ {x : List Int}, Byt x → Lib.countByte (Lib.bytesOf x) c.toNat.toUInt8 = x.count c
  | [], _ => rfl
  | y :: r, h => by
    have ih := count_bytes hc (x := r) fun z hz => h z (List.mem_cons_of_mem _ hz)
    have hy := h y List.mem_cons_self
    unfold Lib.countByte Lib.bytesOf at ih ⊢
    rw [List.map_cons, List.count_cons, List.count_cons, ih]
    congr 1
    have : (UInt8.ofNat y.toNat == c.toNat.toUInt8) = (y == c) := by
      by_cases e : y = c
      · subst e; simp
      · have h1 : (y == c) = false := by simpa using e
        rw [h1]
        have h2 : UInt8.ofNat y.toNat ≠ c.toNat.toUInt8 := fun e' => e (by
          have := congrArg UInt8.toNat e'
          simp [UInt8.toNat_ofNat'] at this
          omega)
        simpa using h2
    rw [this]
noncomputable def C328' : Cfg S := { P := P7, inl := [], K := [], ann := [] }
theorem cell_byte {imm : Imm} {w : World} {x : List Int} {v : Value} (hok : ImmOk imm w) (h : sliceH (S.E 5) x imm v) : ∃ A c, v = .slice A x.length c ∧ (A = none → c = 0) ∧ (x ≠ [] → ∃ b o, A = some ⟨b, o, none⟩ ∧ ∀ i, i < x.length → w.cell? ⟨b, o + i, none⟩ = some (.int .u8 (x.getD i 0))) := by
  obtain ⟨A, c, h1, h2, h3, h4, h5⟩ := h
  refine ⟨A, c, h1, h4, fun hne => ?_⟩
  obtain ⟨b, o, e, h6⟩ := h5 hne
  refine ⟨b, o, e, fun i hi => ?_⟩
  obtain ⟨vs, h7, h8⟩ := h6 i (x[i]) (List.getElem?_eq_getElem hi)
  obtain ⟨v, vs', rfl, h9, _, h10⟩ := h7
  have h9 : v = .int .u8 x[i] := h9
  have := hok _ _ _ (h8 0 v rfl)
  have e2 : o + i * (S.E 5).sz + 0 = o + i := by show o + i * 1 + 0 = o + i; omega
  rw [e2] at this
  rw [this, h9, List.getD_eq_getElem?_getD, List.getElem?_eq_getElem hi]
  rfl
abbrev W328 : CT S [3] [22, 22] := (fun x0 x1 => (some (P328 x0 x1), S328 x0 x1))
theorem run328 : RunP C328' 28 [3] [22, 22] W328 [] := by
  intro (x : List Int) hx (y : List Int) hy hp
  obtain ⟨hy1, hbx, hby⟩ : P328 x y := hp _ rfl
  intro imm w vs hok hgl hargs
  obtain ⟨v1, vs1, rfl, h1, v2, vs2, rfl, h2, rfl⟩ := hargs
  obtain ⟨A, c, rfl, hA, hcell⟩ := cell_byte hok (show sliceH (S.E 5) x imm v1 from h1)
  obtain ⟨A2, c2, rfl, hA2, hcell2⟩ := cell_byte hok (show sliceH (S.E 5) y imm v2 from h2)
  have hyne : y ≠ [] := fun e => by rw [e] at hy1; cases hy1
  obtain ⟨b2, o2, rfl, hc2⟩ := hcell2 hyne
  have hc2 := hc2 0 (by omega)
  rw [hy1]
  have hyr : 0 ≤ y.getD 0 0 ∧ y.getD 0 0 ≤ 255 := by
    cases y with
    | nil => cases hy1
    | cons a r => exact hby a List.mem_cons_self
  have hs : S328 x y = (x.count (y.getD 0 0) : Nat) := rfl
  have fin : ∀ {e : Ending} {w' : World}, (e = .returned (.int .i64 (Lib.countByte (Lib.bytesOf x) (y.getD 0 0).toNat.toUInt8)) ∧ w' = w) → ∃ r v imm', (fun q => q = tupA (encL (S := S) P7 [3] (S328 x y))) r ∧ (denV r).clean = true ∧ e = .returned v ∧ Imm.le imm imm' ∧ ImmOk imm' w' ∧ (∀ b o u, imm' b o = some u → imm b o = some u ∨ w.heap.size ≤ b) ∧ Rep noT (gh imm') (denV r) v ∧ Below w.heap.size w w' := by
    rintro e w' ⟨rfl, rfl⟩
    rw [count_bytes hyr hbx]
    refine ⟨_, _, imm, rfl, enc_clean (S := S) (P := P7) [3] (S328 x y), rfl, Imm.le_refl _, hok, fun b o u h => .inl h, ?_, Below.refl _ _⟩
    rw [hs]
    exact rfl
  cases A with
  | none =>
    obtain rfl := hA rfl
    have hx0 : x = [] := Classical.byContradiction fun e => by obtain ⟨_, _, e2, _⟩ := hcell e; cases e2
    subst hx0
    refine (Any.bytes_Count_one_nil Tryd.lays13 b2 o2 c2 (y.getD 0 0) w hc2).mono ?_
    rintro e w' ⟨rfl, rfl⟩
    exact fin ⟨rfl, rfl⟩
  | some a =>
    refine (Any.bytes_Count_one_at Tryd.lays13 a x.length c b2 o2 c2 x (y.getD 0 0) w rfl ?_ hc2).mono ?_
    · intro i hi
      obtain ⟨b, o, e, h⟩ := hcell fun e => by rw [e] at hi; cases hi
      cases e
      rw [show (⟨b, o, none⟩ : Addr).add i = ⟨b, o + i, none⟩ by unfold Addr.add; split <;> simp_all]
      exact h i hi
    · exact fun e w' h => fin h
abbrev Ok328 : Prop := ConOk P7 28 (ctr P7 [22, 22] [3] W328) ∧ ConMon (ctr P7 [22, 22] [3] W328)
theorem ok328 : Ok328 := con_okP (C := C328') run328
end Go.Rx
namespace Go.Rx
open Go.Ab Go.L10
set_option maxRecDepth 100000
set_option maxHeartbeats 20000000
set_option linter.unusedVariables false
/-- bytes.Clone -/
noncomputable def C62 : Cfg S := { P := P7, inl := [], K := [], ann := [] }
abbrev W62 : CT S [22] [22] := (fun x0 => (some (P62 x0), S62 x0))
abbrev Ok62 : Prop := ConOk P7 18 (ctr P7 [22] [22] W62) ∧ ConMon (ctr P7 [22] [22] W62)
theorem q62 (x0 : List Int) (v : HR S [22]) : (Xf C62 6 (emp 0) 18 (argsA C62 [⟨22, x0⟩]) (emp 0) (fun r _ => isR C62.P [22] v r) (fun _ _ => False)) = (∀ (v_1
 : Bool), (x0 ≠ [] → v_1 = false) → bif v_1 then [] = v else (nat_lit 0 = nat_lit 0 ∧ (nat_lit 0 + x0.length) * nat_lit 1 ≤ nat_lit 140737488355328) ∧ ∀ (y :
 List (Int)), y = [] ++ x0 → y = v) := by kernel_rfl
end Go.Rx
namespace Go.Rx
open Go.Ab Go.L10
set_option maxRecDepth 100000
set_option maxHeartbeats 20000000
set_option linter.unusedVariables false
/-- interregnum/msg.get2 -/
noncomputable def C326 : Cfg S := { P := P7, inl := [], K := [], ann := [] }
abbrev W326 : CT S [3] [22] := (fun x0 => (some (P326 x0), S326 x0))
abbrev Ok326 : Prop := ConOk P7 26 (ctr P7 [22] [3] W326) ∧ ConMon (ctr P7 [22] [3] W326)
theorem q326 (x0 : List Int) (v : HR S [3]) : (Xf C326 6 (emp 0) 26 (argsA C326 [⟨22, x0⟩]) (emp 0) (fun r _ => isR C326.P [3] v r) (fun _ _ => False)) = (((0
 : Int) ≤ (0 : Int) ∧ (0 : Int) < (↑x0.length : Int)) ∧ ((0 : Int) ≤ (1 : Int) ∧ (1 : Int) < (↑x0.length : Int)) ∧ ior IntKind.i64 (IntKind.i64.wrap
 (IntKind.i64.wrap (ix x0 (0 : Int)) * (2 : Int) ^ nat_lit 8)) (IntKind.i64.wrap (ix x0 (1 : Int))) = v) := by kernel_rfl
end Go.Rx
namespace Go.Rx
open Go.Ab Go.L10
set_option maxRecDepth 100000
set_option maxHeartbeats 20000000
set_option linter.unusedVariables false
/-- interregnum/msg.wrong -/
noncomputable def C327 : Cfg S := { P := P7, inl := [], K := [], ann := [] }
abbrev W327 : CT S [40] [3, 3, 22] := (fun x0 x1 x2 => (none, S327 x0 x1 x2))
abbrev Ok327 : Prop := ConOk P7 27 (ctr P7 [3, 3, 22] [40] W327) ∧ ConMon (ctr P7 [3, 3, 22] [40] W327)
theorem q327 (x0 : Int) (x1 : Int) (x2 : List Int) (v : HR S [40]) : (Xf C327 6 (emp 0) 27 (argsA C327 [⟨3, x0⟩, ⟨3, x1⟩, ⟨22, x2⟩]) (emp 0) (fun r _ => isR
 C327.P [40] v r) (fun _ _ => False)) = (api_Note.mk x0 x1 x2 = v) := by kernel_rfl
end Go.Rx
namespace Go.Rx
open Go.Ab Go.L10
set_option maxRecDepth 100000
set_option maxHeartbeats 20000000
set_option linter.unusedVariables false
/-- interregnum/msg.short -/
noncomputable def C329 : Cfg S := { P := P7, inl := [], K := [], ann := [] }
abbrev W329 : CT S [4] [3, 3] := (fun x0 x1 => (none, S329 x0 x1))
abbrev Ok329 : Prop := ConOk P7 29 (ctr P7 [3, 3] [4] W329) ∧ ConMon (ctr P7 [3, 3] [4] W329)
theorem q329 (x0 : Int) (x1 : Int) (v : HR S [4]) : (Xf C329 6 (emp 0) 29 (argsA C329 [⟨3, x0⟩, ⟨3, x1⟩]) (emp 0) (fun r _ => isR C329.P [4] v r) (fun _ _ =>
 False)) = (bif decide (x0 = (1 : Int)) then decide (x1 < (29 : Int)) = v else bif decide (x0 = (2 : Int)) then decide (x1 < (23 : Int)) = v else bif decide
 (x0 = (3 : Int)) then decide (x1 < (21 : Int)) = v else (!decide (x1 = (19 : Int))) = v) := by kernel_rfl
end Go.Rx
namespace Go.Rx
open Go.Ab Go.L10
set_option maxRecDepth 100000
set_option maxHeartbeats 20000000
set_option linter.unusedVariables false
/-- interregnum/msg.Head -/
noncomputable def C316 : Cfg S := { P := P7, inl := [], K := [(26, ctr P7 [22] [3] (fun x0 => (some (P326 x0), S326 x0))), (27, ctr P7 [3, 3, 22] [40] (fun x0 x1 x2 => (none, S327 x0 x1 x2))), (29, ctr P7 [3, 3] [4] (fun x0 x1 => (none, S329 x0 x1))), (28, ctr P7 [22, 22] [3] (fun x0 x1 => (some (P328 x0 x1), S328 x0 x1)))], ann := [] }
abbrev W316 : CT S [3, 40] [22] := (fun x0 => (some (P316 x0), S316 x0))
abbrev Ok316 : Prop := ConOk P7 16 (ctr P7 [22] [3, 40] W316) ∧ ConMon (ctr P7 [22] [3, 40] W316)
theorem q316 (x0 : List Int) (v : HR S [3, 40]) : (Xf C316 6 (emp 0) 16 (argsA C316 [⟨22, x0⟩]) (emp 0) (fun r _ => isR C316.P [3, 40] v r) (fun _ _ => False))
 = (bif decide ((↑x0.length : Int) < (19 : Int)) then ((0 : Int), api_Note.mk (0 : Int) (0 : Int) []) = v else ((0 : Int) ≤ (16 : Int) ∧ (16 : Int) ≤
 (↑x0.length : Int) ∧ (↑x0.length : Int) ≤ (↑x0.length : Int)) ∧ ((0 : Int) ≤ (18 : Int) ∧ (18 : Int) < (↑x0.length : Int)) ∧ (nat_lit 2 ≤ (sub x0 (16 : Int)
 (↑x0.length : Int)).length ∧ ∀ (x : Int), List.Mem x (sub x0 (16 : Int) (↑x0.length : Int)) → (0 : Int) ≤ x ∧ x ≤ (255 : Int)) ∧ ((0 : Int) ≤ (16 : Int) ∧ (16
 : Int) < (↑x0.length : Int)) ∧ ((0 : Int) ≤ (17 : Int) ∧ (17 : Int) < (↑x0.length : Int)) ∧ ((0 : Int) ≤ (0 : Int) ∧ (0 : Int) ≤ (16 : Int) ∧ (16 : Int) ≤
 (↑x0.length : Int)) ∧ (nat_lit 1 = nat_lit 1 ∧ (∀ (x : Int), List.Mem x (sub x0 (0 : Int) (16 : Int)) → (0 : Int) ≤ x ∧ x ≤ (255 : Int)) ∧ ∀ (x : Int),
 List.Mem x [(255 : Int)] → (0 : Int) ≤ x ∧ x ≤ (255 : Int)) ∧ bif !decide (S328 (sub x0 (0 : Int) (16 : Int)) [(255 : Int)] = (16 : Int)) then ((0 : Int),
 api_Note.mk (1 : Int) (1 : Int) []) = v else bif decide (S326 (sub x0 (16 : Int) (↑x0.length : Int)) < (19 : Int)) || decide ((4096 : Int) < S326 (sub x0 (16
 : Int) (↑x0.length : Int))) then ((0 : Int), api_Note.mk (1 : Int) (2 : Int) [ix x0 (16 : Int), ix x0 (17 : Int)]) = v else bif decide (IntKind.i64.wrap (ix
 x0 (18 : Int)) < (1 : Int)) || decide ((4 : Int) < IntKind.i64.wrap (ix x0 (18 : Int))) then ((0 : Int) ≤ (18 : Int) ∧ (18 : Int) < (↑x0.length : Int)) ∧ ((0
 : Int), api_Note.mk (1 : Int) (3 : Int) [ix x0 (18 : Int)]) = v else bif S329 (IntKind.i64.wrap (ix x0 (18 : Int))) (S326 (sub x0 (16 : Int) (↑x0.length :
 Int))) then ((0 : Int), api_Note.mk (1 : Int) (2 : Int) [ix x0 (16 : Int), ix x0 (17 : Int)]) = v else (S326 (sub x0 (16 : Int) (↑x0.length : Int)),
 api_Note.mk (0 : Int) (0 : Int) []) = v) := by kernel_rfl
end Go.Rx
namespace Go.Rx
open Go.Ab Go.L10
set_option maxRecDepth 100000
set_option maxHeartbeats 20000000
set_option linter.unusedVariables false
/-- interregnum/stream.told -/
noncomputable def C315 : Cfg S := { P := P7, inl := [], K := [(18, ctr P7 [22] [22] (fun x0 => (some (P62 x0), S62 x0)))], ann := [] }
abbrev W315 : CT S [40] [40] := (fun x0 => (some (P315 x0), S315 x0))
abbrev Ok315 : Prop := ConOk P7 15 (ctr P7 [40] [40] W315) ∧ ConMon (ctr P7 [40] [40] W315)
theorem q315 (x0 : api_Note) (v : HR S [40]) : (Xf C315 6 (emp 0) 15 (argsA C315 [⟨40, x0⟩]) (emp 0) (fun r _ => isR C315.P [40] v r) (fun _ _ => False)) =
 (x0.fData.length.le (nat_lit 140737488355328) ∧ api_Note.mk x0.fCode x0.fSub (S62 x0.fData) = v) := by kernel_rfl
end Go.Rx
/-! Small functions of seat D. -/
namespace Go.Rx
open Go.Ab Go.L10
set_option linter.unusedVariables false
set_option maxRecDepth 100000
theorem kk1 {P : Program} {f : Nat} {W : Con S.A} (h : ConOk P f W ∧ ConMon W) : KOk P [(f, W)] := kok_cons h kok_nil
theorem wrap64 {n : Int} (h : -9223372036854775808 ≤ n ∧ n ≤ 9223372036854775807) : IntKind.i64.wrap n = n := wrap64_id h
theorem wrap8 (n : Int) : IntKind.u8.wrap n = n % 256 := rfl
theorem ior_shift {x y : Int} (hx : 0 ≤ x ∧ x ≤ 255) (hy : 0 ≤ y ∧ y ≤ 255) : ior .i64 (x * 256) y = x * 256 + y := by
  rw [ior64 (by omega) (by omega)]
  have h1 : (x * 256).toNat = x.toNat <<< 8 := by rw [Nat.shiftLeft_eq]; omega
  rw [h1, ← Nat.shiftLeft_add_eq_or_of_lt (by omega), Nat.shiftLeft_eq]
  omega
theorem byt_ix {l : List Int} (h : Byt l) (i : Int) : 0 ≤ ix l i ∧ ix l i ≤ 255 := by
  unfold ix
  rw [List.getD_eq_getElem?_getD]
  by_cases hi : i.toNat < l.length
  · rw [List.getElem?_eq_getElem hi]; exact h _ (List.getElem_mem _)
  · rw [List.getElem?_eq_none (by omega)]; exact ⟨by decide, by decide⟩
theorem byt_sub {l : List Int} (h : Byt l) (i j : Int) : Byt (sub l i j) := fun x hx => h x (List.mem_of_mem_take (List.mem_of_mem_drop hx))
abbrev W330 : CT S [30, 40] [22] := (fun x0 => (some (P330 x0), S330 x0))
abbrev Ok330 : Prop := ConOk P7 30 (ctr P7 [22] [30, 40] W330) ∧ ConMon (ctr P7 [22] [30, 40] W330)
theorem ok330 : Ok330 := con_okP (C := C328') (fun _ _ hp => (hp _ rfl).elim)
abbrev W331 : CT S [38, 40] [22] := (fun x0 => (some (P331 x0), S331 x0))
abbrev Ok331 : Prop := ConOk P7 31 (ctr P7 [22] [38, 40] W331) ∧ ConMon (ctr P7 [22] [38, 40] W331)
theorem ok331 : Ok331 := con_okP (C := C328') (fun _ _ hp => (hp _ rfl).elim)
abbrev W319 : CT S [4] [28] := (fun x0 => (some (P319 x0), S319 x0))
abbrev Ok319 : Prop := ConOk P7 19 (ctr P7 [28] [4] W319) ∧ ConMon (ctr P7 [28] [4] W319)
theorem ok319 : Ok319 := con_okP (C := C328') (fun _ _ hp => (hp _ rfl).elim)
abbrev W321 : CT S [22] [28] := (fun x0 => (some (P321 x0), S321 x0))
abbrev Ok321 : Prop := ConOk P7 21 (ctr P7 [28] [22] W321) ∧ ConMon (ctr P7 [28] [22] W321)
theorem ok321 : Ok321 := con_okP (C := C328') (fun _ _ hp => (hp _ rfl).elim)
abbrev W322 : CT S [4] [65] := (fun x0 => (some (P322 x0), S322 x0))
abbrev Ok322 : Prop := ConOk P7 22 (ctr P7 [65] [4] W322) ∧ ConMon (ctr P7 [65] [4] W322)
theorem ok322 : Ok322 := con_okP (C := C328') (fun _ _ hp => (hp _ rfl).elim)
abbrev W324 : CT S [22] [31] := (fun x0 => (some (P324 x0), S324 x0))
abbrev Ok324 : Prop := ConOk P7 24 (ctr P7 [31] [22] W324) ∧ ConMon (ctr P7 [31] [22] W324)
theorem ok324 : Ok324 := con_okP (C := C328') (fun _ _ hp => (hp _ rfl).elim)
abbrev W14 : CT S [4] [36] := (fun x0 => (some (P14 x0), S14 x0))
abbrev Ok14 : Prop := ConOk P7 23 (ctr P7 [36] [4] W14) ∧ ConMon (ctr P7 [36] [4] W14)
theorem ok14 : Ok14 := con_okP (C := C328') (fun _ _ hp => (hp _ rfl).elim)
abbrev W16 : CT S [22] [36] := (fun x0 => (some (P16 x0), S16 x0))
abbrev Ok16 : Prop := ConOk P7 25 (ctr P7 [36] [22] W16) ∧ ConMon (ctr P7 [36] [22] W16)
theorem ok16 : Ok16 := con_okP (C := C328') (fun _ _ hp => (hp _ rfl).elim)
theorem run62 : RunC C62 6 18 [22] [22] W62 [] := by
  intro (x : List Int) hx hp
  have hp : x.length ≤ 140737488355328 := hp _ rfl
  refine of_eq (q62 x _) ?_
  intro v hv
  refine bif_of (fun h => ?_) (fun h => ⟨⟨rfl, by show (0 + x.length) * 1 ≤ 140737488355328; omega⟩, fun y hy => hy⟩)
  by_cases hx : x = []
  · rw [hx]; rfl
  · rw [hv hx] at h; cases h
theorem ok62 : Ok62 := con_ok (C := C62) kok_nil mx7 (by kernel_rfl) run62
theorem run326 : RunC C326 6 26 [3] [22] W326 [] := by
  intro (x : List Int) hx hp
  obtain ⟨h1, h2⟩ : P326 x := hp _ rfl
  refine of_eq (q326 x _) ⟨⟨by decide, by omega⟩, ⟨by decide, by omega⟩, ?_⟩
  have r0 := byt_ix h2 0
  have r1 := byt_ix h2 1
  show _ = S326 x
  unfold S326
  rw [wrap64 (n := ix x 0) (by omega), wrap64 (n := ix x 1) (by omega), show ix x 0 * 2 ^ 8 = ix x 0 * 256 from rfl, wrap64 (n := ix x 0 * 256) (by omega), ior_shift r0 r1]
  omega
theorem ok326 : Ok326 := con_ok (C := C326) kok_nil mx7 (by kernel_rfl) run326
theorem ok327 : Ok327 := by
  have h : fnB C327.P 27 = true := by kernel_rfl
  have k : KOk C327.P C327.K := kok_nil
  have m : C327.P.follows .mixedOrders = true := mx7
  apply con_ok (C := C327) (n := 6) (f := 27) (ts := [3, 3, 22]) (rts := [40]) (W := W327) k m h
  intro x hx y hy z hz hp
  apply of_eq (q := ((⟨x, y, z⟩ : api_Note) = S327 x y z))
  · kernel_rfl
  · rfl
theorem run329 : RunC C329 6 29 [4] [3, 3] W329 [] := by
  intro (x : Int) hx (y : Int) hy hp
  refine of_eq (q329 x y (S329 x y)) ?_
  unfold S329 shortS
  refine bif_of (fun h => ?_) fun h => bif_of (fun h2 => ?_) fun h2 => bif_of (fun h3 => ?_) fun h3 => ?_
  all_goals simp only [decide_eq_true_eq, decide_eq_false_iff_not] at *
  all_goals simp [*]
theorem ok329 : Ok329 := con_ok (C := C329) kok_nil mx7 (by kernel_rfl) run329
theorem run315 : RunC C315 6 15 [40] [40] W315 [] := by
  intro (x : api_Note) hx hp
  have hp : x.fData.length ≤ 140737488355328 := hp _ rfl
  exact of_eq (q315 x _) ⟨hp, rfl⟩
theorem ok315 : Ok315 := con_ok (C := C315) (kk1 ok62) mx7 (by kernel_rfl) run315
theorem sub_at {l : List Int} {i j : Nat} (hj : j ≤ l.length) {k : Nat} (hk : i + k < j) : ix (sub l i j) k = ix l (i + k : Nat) := by
  unfold ix sub
  rw [List.getD_eq_getElem?_getD, List.getD_eq_getElem?_getD]
  simp only [Int.toNat_natCast]
  rw [List.getElem?_drop, List.getElem?_take_of_lt (by omega)]
theorem sub_len {l : List Int} {i j : Nat} (hi : i ≤ j) (hj : j ≤ l.length) : (sub l i j).length = j - i := by
  unfold sub
  simp only [Int.toNat_natCast, List.length_take, List.length_drop]
  omega
theorem run316 : RunC C316 6 16 [3, 40] [22] W316 [] := by
  intro (x : List Int) hx hp
  have hb : Byt x := hp _ rfl
  refine of_eq (q316 x (S316 x)) ?_
  unfold S316
  refine bif_of (fun h => ?_) fun h => ?_
  · have h : (x.length : Int) < 19 := by simpa using h
    rw [if_pos (by omega)]; rfl
  have h : ¬ (x.length : Int) < 19 := by simpa using h
  rw [if_neg (by omega)]
  have hs : S326 (sub x 16 x.length) = sz2 x := by
    unfold S326 sz2
    have h1 := sub_at (l := x) (i := 16) (j := x.length) (Nat.le_refl _) (k := 0) (by omega)
    have h2 := sub_at (l := x) (i := 16) (j := x.length) (Nat.le_refl _) (k := 1) (by omega)
    rw [show ix (sub x 16 x.length) 0 = ix x 16 from h1, show ix (sub x 16 x.length) 1 = ix x 17 from h2]
  have hl : (sub x 16 x.length).length = x.length - 16 := sub_len (l := x) (i := 16) (j := x.length) (by omega) (Nat.le_refl _)
  have hk := byt_ix hb 18
  have hw : IntKind.i64.wrap (ix x 18) = k18 x := wrap64 (by omega)
  rw [hs, hw]
  refine ⟨⟨by decide, by omega, by omega⟩, ⟨by decide, by omega⟩, ⟨by rw [hl]; show 2 ≤ _; omega, byt_sub hb _ _⟩, ⟨by decide, by omega⟩, ⟨by decide, by omega⟩, ⟨by decide, by decide, by omega⟩, ⟨rfl, byt_sub hb _ _, ?_⟩, ?_⟩
  · intro y hy
    cases hy with
    | head => decide
    | tail _ h => cases h
  have hc : S328 (sub x 0 16) [255] = cnt 255 (sub x 0 16) := rfl
  rw [hc]
  refine bif_of (fun h => ?_) fun h => ?_
  · rw [if_pos (by simpa using h)]
  rw [if_neg (by simpa using h)]
  refine bif_of (fun h => ?_) fun h => ?_
  · rw [if_pos (by simpa using h)]
  rw [if_neg (by simpa using h)]
  refine bif_of (fun h => ⟨⟨by decide, by omega⟩, ?_⟩) fun h => ?_
  · rw [if_pos (by simpa using h)]
  rw [if_neg (by simpa using h)]
  unfold S329
  refine bif_of (fun h => ?_) fun h => ?_
  · rw [if_pos h]
  · rw [h]; rfl
theorem ok316 : Ok316 := con_ok (C := C316) (kok_cons ok326 (kok_cons ok327 (kok_cons ok329 (kk1 ok328)))) mx7 (by kernel_rfl) run316
end Go.Rx
namespace Go.Rx
open Go.Ab Go.L10
set_option maxRecDepth 100000
set_option maxHeartbeats 20000000
set_option linter.unusedVariables false
/-- interregnum/msg.Decode -/
noncomputable def C317 : Cfg S := { P := P7, inl := [], K := [(18, ctr P7 [22] [22] (fun x0 => (some (P62 x0), S62 x0))), (27, ctr P7 [3, 3, 22] [40] (fun x0 x1 x2 => (none, S327 x0 x1 x2))), (16, ctr P7 [22] [3, 40] (fun x0 => (some (P316 x0), S316 x0))), (30, ctr P7 [22] [30, 40] (fun x0 => (some (P330 x0), S330 x0))), (31, ctr P7 [22] [38, 40] (fun x0 => (some (P331 x0), S331 x0)))], ann := [(17, [(3, .all), (16, .all)])] }
abbrev W317 : CT S [42, 40] [22] := (fun x0 => (some (P317 x0), S317 x0))
abbrev Ok317 : Prop := ConOk P7 17 (ctr P7 [22] [42, 40] W317) ∧ ConMon (ctr P7 [22] [42, 40] W317)
theorem q317 (x0 : List Int) (v : HR S [42, 40]) : (Xf C317 6 (emp 0) 17 (argsA C317 [⟨22, x0⟩]) (emp 0) (fun r _ => isR C317.P [42, 40] v r) (fun _ _ =>
 False)) = ((∀ (x : Int), List.Mem x x0 → (0 : Int) ≤ x ∧ x ≤ (255 : Int)) ∧ bif !decide ((S316 x0).snd.fCode = (0 : Int)) then ((api_Msg.mk (0 : Int)
 (api_Open.mk (0 : Int) (0 : Int) (0 : Int) (api_Caps.mk false (0 : Int) false false (0 : Int) false false false (0 : Int))) (api_Update.mk [] (api_Attrs.mk (0
 : Int) [] (0 : Int) (0 : Int) (0 : Int) [] []) []) (api_Note.mk (0 : Int) (0 : Int) []), (S316 x0).snd) = v ∧ (api_Msg.mk (0 : Int) (api_Open.mk (0 : Int) (0
 : Int) (0 : Int) (api_Caps.mk false (0 : Int) false false (0 : Int) false false false (0 : Int))) (api_Update.mk [] (api_Attrs.mk (0 : Int) [] (0 : Int) (0 :
 Int) (0 : Int) [] []) []) (api_Note.mk (0 : Int) (0 : Int) []), (S316 x0).snd) = v) ∧ (api_Msg.mk (0 : Int) (api_Open.mk (0 : Int) (0 : Int) (0 : Int)
 (api_Caps.mk false (0 : Int) false false (0 : Int) false false false (0 : Int))) (api_Update.mk [] (api_Attrs.mk (0 : Int) [] (0 : Int) (0 : Int) (0 : Int) []
 []) []) (api_Note.mk (0 : Int) (0 : Int) []), (S316 x0).snd) = v else bif !decide ((S316 x0).fst = (↑x0.length : Int)) || decide ((S316 x0).fst = (0 : Int))
 then (api_Msg.mk (0 : Int) (api_Open.mk (0 : Int) (0 : Int) (0 : Int) (api_Caps.mk false (0 : Int) false false (0 : Int) false false false (0 : Int)))
 (api_Update.mk [] (api_Attrs.mk (0 : Int) [] (0 : Int) (0 : Int) (0 : Int) [] []) []) (api_Note.mk (0 : Int) (0 : Int) []), api_Note.mk (1 : Int) (2 : Int)
 []) = v else ((0 : Int) ≤ (18 : Int) ∧ (18 : Int) < (↑x0.length : Int)) ∧ ((0 : Int) ≤ (19 : Int) ∧ (19 : Int) ≤ (↑x0.length : Int) ∧ (↑x0.length : Int) ≤
 (↑x0.length : Int)) ∧ bif decide (IntKind.i64.wrap (ix x0 (18 : Int)) = (1 : Int)) then False ∧ (api_Msg.mk (IntKind.i64.wrap (ix x0 (18 : Int))) (api_Open.mk
 default default default (api_Caps.mk false default false false default false false false default)) (api_Update.mk [] (api_Attrs.mk (0 : Int) [] (0 : Int) (0 :
 Int) (0 : Int) [] []) []) (api_Note.mk (0 : Int) (0 : Int) []), api_Note.mk (0 : Int) (0 : Int) []) = v else bif decide (IntKind.i64.wrap (ix x0 (18 : Int)) =
 (2 : Int)) then False ∧ (api_Msg.mk (IntKind.i64.wrap (ix x0 (18 : Int))) (api_Open.mk (0 : Int) (0 : Int) (0 : Int) (api_Caps.mk false (0 : Int) false false
 (0 : Int) false false false (0 : Int))) (api_Update.mk default (api_Attrs.mk default default default default default default default) default) (api_Note.mk (0
 : Int) (0 : Int) []), api_Note.mk (0 : Int) (0 : Int) []) = v else bif decide (IntKind.i64.wrap (ix x0 (18 : Int)) = (3 : Int)) then ((0 : Int) ≤ (0 : Int) ∧
 (0 : Int) < (↑(sub x0 (19 : Int) (↑x0.length : Int)).length : Int)) ∧ ((0 : Int) ≤ (1 : Int) ∧ (1 : Int) < (↑(sub x0 (19 : Int) (↑x0.length : Int)).length :
 Int)) ∧ ((0 : Int) ≤ (2 : Int) ∧ (2 : Int) ≤ (↑(sub x0 (19 : Int) (↑x0.length : Int)).length : Int) ∧ (↑(sub x0 (19 : Int) (↑x0.length : Int)).length : Int) ≤
 (↑(sub x0 (19 : Int) (↑x0.length : Int)).length : Int)) ∧ (sub (sub x0 (19 : Int) (↑x0.length : Int)) (2 : Int) (↑(sub x0 (19 : Int) (↑x0.length :
 Int)).length : Int)).length.le (nat_lit 140737488355328) ∧ bif !decide ((S316 x0).snd.fCode = (0 : Int)) then ((api_Msg.mk (0 : Int) (api_Open.mk (0 : Int) (0
 : Int) (0 : Int) (api_Caps.mk false (0 : Int) false false (0 : Int) false false false (0 : Int))) (api_Update.mk [] (api_Attrs.mk (0 : Int) [] (0 : Int) (0 :
 Int) (0 : Int) [] []) []) (api_Note.mk (0 : Int) (0 : Int) []), (S316 x0).snd) = v ∧ (api_Msg.mk (0 : Int) (api_Open.mk (0 : Int) (0 : Int) (0 : Int)
 (api_Caps.mk false (0 : Int) false false (0 : Int) false false false (0 : Int))) (api_Update.mk [] (api_Attrs.mk (0 : Int) [] (0 : Int) (0 : Int) (0 : Int) []
 []) []) (api_Note.mk (0 : Int) (0 : Int) []), (S316 x0).snd) = v) ∧ (api_Msg.mk (0 : Int) (api_Open.mk (0 : Int) (0 : Int) (0 : Int) (api_Caps.mk false (0 :
 Int) false false (0 : Int) false false false (0 : Int))) (api_Update.mk [] (api_Attrs.mk (0 : Int) [] (0 : Int) (0 : Int) (0 : Int) [] []) []) (api_Note.mk (0
 : Int) (0 : Int) []), (S316 x0).snd) = v else (api_Msg.mk (IntKind.i64.wrap (ix x0 (18 : Int))) (api_Open.mk (0 : Int) (0 : Int) (0 : Int) (api_Caps.mk false
 (0 : Int) false false (0 : Int) false false false (0 : Int))) (api_Update.mk [] (api_Attrs.mk (0 : Int) [] (0 : Int) (0 : Int) (0 : Int) [] []) [])
 (api_Note.mk (IntKind.i64.wrap (ix (sub x0 (19 : Int) (↑x0.length : Int)) (0 : Int))) (IntKind.i64.wrap (ix (sub x0 (19 : Int) (↑x0.length : Int)) (1 : Int)))
 (S62 (sub (sub x0 (19 : Int) (↑x0.length : Int)) (2 : Int) (↑(sub x0 (19 : Int) (↑x0.length : Int)).length : Int)))), api_Note.mk (0 : Int) (0 : Int) []) = v
 else bif !decide ((S316 x0).snd.fCode = (0 : Int)) then ((api_Msg.mk (0 : Int) (api_Open.mk (0 : Int) (0 : Int) (0 : Int) (api_Caps.mk false (0 : Int) false
 false (0 : Int) false false false (0 : Int))) (api_Update.mk [] (api_Attrs.mk (0 : Int) [] (0 : Int) (0 : Int) (0 : Int) [] []) []) (api_Note.mk (0 : Int) (0
 : Int) []), (S316 x0).snd) = v ∧ (api_Msg.mk (0 : Int) (api_Open.mk (0 : Int) (0 : Int) (0 : Int) (api_Caps.mk false (0 : Int) false false (0 : Int) false
 false false (0 : Int))) (api_Update.mk [] (api_Attrs.mk (0 : Int) [] (0 : Int) (0 : Int) (0 : Int) [] []) []) (api_Note.mk (0 : Int) (0 : Int) []), (S316
 x0).snd) = v) ∧ (api_Msg.mk (0 : Int) (api_Open.mk (0 : Int) (0 : Int) (0 : Int) (api_Caps.mk false (0 : Int) false false (0 : Int) false false false (0 :
 Int))) (api_Update.mk [] (api_Attrs.mk (0 : Int) [] (0 : Int) (0 : Int) (0 : Int) [] []) []) (api_Note.mk (0 : Int) (0 : Int) []), (S316 x0).snd) = v else
 (api_Msg.mk (IntKind.i64.wrap (ix x0 (18 : Int))) (api_Open.mk (0 : Int) (0 : Int) (0 : Int) (api_Caps.mk false (0 : Int) false false (0 : Int) false false
 false (0 : Int))) (api_Update.mk [] (api_Attrs.mk (0 : Int) [] (0 : Int) (0 : Int) (0 : Int) [] []) []) (api_Note.mk (0 : Int) (0 : Int) []), api_Note.mk (0 :
 Int) (0 : Int) []) = v) := by kernel_rfl
end Go.Rx
namespace Go.Rx
open Go.Ab Go.L10
set_option maxRecDepth 100000
set_option maxHeartbeats 20000000
set_option linter.unusedVariables false
/-- interregnum/interregnumref05.two -/
noncomputable def C314 : Cfg S := { P := P7, inl := [], K := [], ann := [] }
abbrev W314 : CT S [22] [3] := (fun x0 => (none, S314 x0))
abbrev Ok314 : Prop := ConOk P7 14 (ctr P7 [3] [22] W314) ∧ ConMon (ctr P7 [3] [22] W314)
theorem q314 (x0 : Int) (v : HR S [22]) : (Xf C314 6 (emp 0) 14 (argsA C314 [⟨3, x0⟩]) (emp 0) (fun r _ => isR C314.P [22] v r) (fun _ _ => False)) =
 ([IntKind.u8.wrap (IntKind.i64.wrap (x0.tdiv (256 : Int))), IntKind.u8.wrap (x0.tmod (256 : Int))] = v) := by kernel_rfl
end Go.Rx
namespace Go.Rx
open Go.Ab Go.L10
set_option maxRecDepth 100000
set_option maxHeartbeats 20000000
set_option linter.unusedVariables false
/-- interregnum/interregnumref05.Message -/
noncomputable def C309 : Cfg S := { P := P7, inl := [], K := [(19, ctr P7 [28] [4] (fun x0 => (some (P319 x0), S319 x0))), (21, ctr P7 [28] [22] (fun x0 => (some (P321 x0), S321 x0))), (22, ctr P7 [65] [4] (fun x0 => (some (P322 x0), S322 x0))), (24, ctr P7 [31] [22] (fun x0 => (some (P324 x0), S324 x0))), (23, ctr P7 [36] [4] (fun x0 => (some (P14 x0), S14 x0))), (25, ctr P7 [36] [22] (fun x0 => (some (P16 x0), S16 x0))), (14, ctr P7 [3] [22] (fun x0 => (none, S314 x0)))], ann := [(9, [(6, .loop [(.sl 5, .own 5), (.sl 6, .int .i64)])]), (13, [(9, .join [(.sl 5, .int .i64)]), (30, .join [(.sl 12, .sl 5)]), (21, .loop [(.sl 10, .int .i64)]), (16, .loop [(.sl 9, .int .i64)])])] }
abbrev W309 : CT S [22] [42] := (fun x0 => (some (P309 x0), S309 x0))
abbrev Ok309 : Prop := ConOk P7 9 (ctr P7 [42] [22] W309) ∧ ConMon (ctr P7 [42] [22] W309)
theorem q309 (x0 : api_Msg) (v : HR S [22]) : (Xf C309 6 (emp 0) 9 (argsA C309 [⟨42, x0⟩]) (emp 0) (fun r _ => isR C309.P [22] v r) (fun _ _ => False)) = (bif
 decide (x0.fKind = (1 : Int)) then bif decide (x0.fOpen.fAS < (1 : Int)) || decide ((4294967295 : Int) < x0.fOpen.fAS) || decide (x0.fOpen.fHold < (0 : Int))
 || decide ((65535 : Int) < x0.fOpen.fHold) then [] = v else False ∧ [] = v else bif decide (x0.fKind = (2 : Int)) then LOOP (fun (h : Int) (J : Int → Prop) =>
 bif decide (h < (↑x0.fUpdate.fGone.length : Int)) then ((0 : Int) ≤ h ∧ h < (↑x0.fUpdate.fGone.length : Int)) ∧ False ∧ [] = v else LOOP (fun (h : Int) (J :
 Int → Prop) => bif decide (h < (↑x0.fUpdate.fNlri.length : Int)) then ((0 : Int) ≤ h ∧ h < (↑x0.fUpdate.fNlri.length : Int)) ∧ False ∧ [] = v else bif decide
 ((0 : Int) < (↑x0.fUpdate.fNlri.length : Int)) then False ∧ [] = v else False ∧ JP (fun (h : List Int) => False) fun (J : List Int → Prop) => bif decide ((0 :
 Int) < (↑x0.fUpdate.fNlri.length : Int)) then False ∧ J (S16 x0.fUpdate.fAttrs) else J []) (0 : Int)) (0 : Int) else bif decide (x0.fKind = (3 : Int)) then
 ([IntKind.u8.wrap x0.fNote.fCode, IntKind.u8.wrap x0.fNote.fSub].length = [IntKind.u8.wrap x0.fNote.fCode, IntKind.u8.wrap x0.fNote.fSub].length ∧
 ([IntKind.u8.wrap x0.fNote.fCode, IntKind.u8.wrap x0.fNote.fSub].length + x0.fNote.fData.length) * nat_lit 1 ≤ nat_lit 140737488355328) ∧ ∀ (y : List (Int)),
 y = [IntKind.u8.wrap x0.fNote.fCode, IntKind.u8.wrap x0.fNote.fSub] ++ x0.fNote.fData → bif !(decide ((0 : Int) ≤ x0.fNote.fCode) && decide (x0.fNote.fCode ≤
 (255 : Int)) && decide ((0 : Int) ≤ x0.fNote.fSub) && decide (x0.fNote.fSub ≤ (255 : Int))) || decide ((4077 : Int) < (↑y.length : Int)) then [] = v else LOOP
 (fun (h : List Int × Int) (J : List Int × Int → Prop) => bif decide (h.snd < (16 : Int)) then (h.fst.length = h.fst.length ∧ (h.fst.length + nat_lit 1) *
 nat_lit 1 ≤ nat_lit 140737488355328) ∧ ∀ (y : List (Int)), y = h.fst ++ [(255 : Int)] → y.length = y.length ∧ J (y, IntKind.i64.wrap (h.snd + (1 : Int))) else
 (h.fst.length = h.fst.length ∧ (h.fst.length + (S314 (IntKind.i64.wrap ((19 : Int) + (↑y.length : Int)))).length) * nat_lit 1 ≤ nat_lit 140737488355328) ∧ ∀
 (y_1 : List (Int)), y_1 = h.fst ++ S314 (IntKind.i64.wrap ((19 : Int) + (↑y.length : Int))) → (y_1.length = y_1.length ∧ (y_1.length + [IntKind.u8.wrap
 x0.fKind].length) * nat_lit 1 ≤ nat_lit 140737488355328) ∧ ∀ (y_2 : List (Int)), y_2 = y_1 ++ [IntKind.u8.wrap x0.fKind] → (y_2.length = y_2.length ∧
 (y_2.length + y.length) * nat_lit 1 ≤ nat_lit 140737488355328) ∧ ∀ (y_3 : List (Int)), y_3 = y_2 ++ y → y_3 = v) ([], (0 : Int)) else bif !decide (x0.fKind =
 (4 : Int)) && true then [] = v else LOOP (fun (h : List Int × Int) (J : List Int × Int → Prop) => bif decide (h.snd < (16 : Int)) then (h.fst.length =
 h.fst.length ∧ (h.fst.length + nat_lit 1) * nat_lit 1 ≤ nat_lit 140737488355328) ∧ ∀ (y : List (Int)), y = h.fst ++ [(255 : Int)] → y.length = y.length ∧ J
 (y, IntKind.i64.wrap (h.snd + (1 : Int))) else (h.fst.length = h.fst.length ∧ (h.fst.length + nat_lit 2) * nat_lit 1 ≤ nat_lit 140737488355328) ∧ ∀ (y : List
 (Int)), y = h.fst ++ S314 (IntKind.i64.wrap ((19 : Int) + (↑(nat_lit 0) : Int))) → (y.length = y.length ∧ (y.length + [IntKind.u8.wrap x0.fKind].length) *
 nat_lit 1 ≤ nat_lit 140737488355328) ∧ ∀ (y_1 : List (Int)), y_1 = y ++ [IntKind.u8.wrap x0.fKind] → (y_1.length = y_1.length ∧ (y_1.length + nat_lit 0) *
 nat_lit 1 ≤ nat_lit 140737488355328) ∧ ∀ (y : List (Int)), y = y_1 ++ [] → y = v) ([], (0 : Int))) := by kernel_rfl
end Go.Rx
/-! msg.Decode of NOTIFICATIONs and KEEPALIVEs. -/
namespace Go.Rx
open Go.Ab Go.L10
set_option linter.unusedVariables false
set_option maxRecDepth 100000
theorem s316_ok {b : List Int} (h0 : (S316 b).2.fCode = 0) (h1 : (S316 b).1 ≠ 0) : 19 ≤ b.length ∧ (1 ≤ k18 b ∧ k18 b ≤ 4) ∧ (19 ≤ sz2 b ∧ sz2 b ≤ 4096) ∧ (S316 b).1 = sz2 b ∧ shortS (k18 b) (sz2 b) = false ∧ cnt 255 (sub b 0 16) = 16 ∧ S316 b = (sz2 b, no) := by
  unfold S316 at h0 h1 ⊢
  by_cases c1 : b.length < 19
  · rw [if_pos c1] at h1; exact absurd rfl h1
  rw [if_neg c1] at h0 h1 ⊢
  by_cases c2 : cnt 255 (sub b 0 16) ≠ 16
  · rw [if_pos c2] at h0; cases h0
  rw [if_neg c2] at h0 h1 ⊢
  by_cases c3 : sz2 b < 19 ∨ 4096 < sz2 b
  · rw [if_pos c3] at h0; cases h0
  rw [if_neg c3] at h0 h1 ⊢
  by_cases c4 : k18 b < 1 ∨ 4 < k18 b
  · rw [if_pos c4] at h0; cases h0
  rw [if_neg c4] at h0 h1 ⊢
  by_cases c5 : shortS (k18 b) (sz2 b) = true
  · rw [if_pos c5] at h0; cases h0
  rw [if_neg c5] at h0 h1 ⊢
  exact ⟨by omega, by omega, by omega, rfl, by simpa using c5, by simpa using c2, rfl⟩
theorem sub_drop' {l : List Int} {i : Nat} (hi : i ≤ l.length) : sub l i l.length = l.drop i := by
  unfold sub
  simp
theorem ix_drop {l : List Int} {i k : Nat} : ix (l.drop i) k = ix l (i + k : Nat) := by
  unfold ix
  simp only [Int.toNat_natCast]
  rw [List.getD_eq_getElem?_getD, List.getD_eq_getElem?_getD, List.getElem?_drop]
theorem run317 : RunC C317 6 17 [42, 40] [22] W317 [] := by
  intro (x : List Int) hx hp
  obtain ⟨hb, hlen, hk⟩ : P317 x := hp _ rfl
  refine of_eq (q317 x (S317 x)) ⟨hb, ?_⟩
  refine bif_of (fun h => ?_) fun h => ?_
  · have h : (S316 x).2.fCode ≠ 0 := by simpa using h
    have e : S317 x = (noMsg, (S316 x).2) := by unfold S317; rw [if_pos h]
    rw [e]
    exact ⟨⟨rfl, rfl⟩, rfl⟩
  have h0 : (S316 x).2.fCode = 0 := by simpa using h
  unfold S317
  rw [if_neg (by simpa using h0)]
  refine bif_of (fun h => ?_) fun h => ?_
  · have h : (S316 x).1 ≠ x.length ∨ (S316 x).1 = 0 := by simpa using h
    rw [if_pos (by omega)]
    rfl
  have h : (S316 x).1 = x.length ∧ (S316 x).1 ≠ 0 := by simpa using h
  rw [if_neg (by omega)]
  obtain ⟨j1, j2, j3, j4, j5, -⟩ := s316_ok h0 h.2
  have hk := hk h0 h.1 (by omega)
  have r18 := byt_ix hb 18
  have hw : IntKind.i64.wrap (ix x 18) = k18 x := wrap64 (by omega)
  rw [hw]
  have hd : sub x 19 x.length = x.drop 19 := sub_drop' (l := x) (i := 19) (by omega)
  rw [hd]
  refine ⟨⟨by decide, by omega⟩, ⟨by decide, by omega, by omega⟩, ?_⟩
  refine bif_of (fun h => ?_) fun _ => bif_of (fun h => ?_) fun _ => bif_of (fun h => ?_) fun h => ?_
  · have h : k18 x = 1 := by simpa using h
    omega
  · have h : k18 x = 2 := by simpa using h
    omega
  · have h3 : k18 x = 3 := by simpa using h
    rw [if_pos h3]
    have hsh : ¬ sz2 x < 21 := by
      rw [h3] at j5
      simpa [shortS] using j5
    have hl : (x.drop 19).length = x.length - 19 := List.length_drop
    have hd2 : sub (x.drop 19) 2 (x.drop 19).length = x.drop 21 := by
      rw [show sub (x.drop 19) 2 (x.drop 19).length = (x.drop 19).drop 2 from sub_drop' (l := x.drop 19) (i := 2) (by omega), List.drop_drop]
    rw [hd2]
    have hlen21 : (x.drop 21).length = x.length - 21 := List.length_drop
    refine ⟨⟨by decide, by omega⟩, ⟨by decide, by omega⟩, ⟨by decide, by omega, by omega⟩, by show (x.drop 21).length ≤ 140737488355328; omega, bif_of (fun h => ?_) fun h => ?_⟩
    · have h : (S316 x).2.fCode ≠ 0 := by simpa using h
      exact absurd h0 h
    · have e0 : ix (x.drop 19) 0 = ix x 19 := ix_drop (l := x) (i := 19) (k := 0)
      have e1 : ix (x.drop 19) 1 = ix x 20 := ix_drop (l := x) (i := 19) (k := 1)
      have r19 := byt_ix hb 19
      have r20 := byt_ix hb 20
      rw [e0, e1, wrap64 (n := ix x 19) (by omega), wrap64 (n := ix x 20) (by omega), h3]
      rfl
  · rw [if_neg (by simpa using h)]
    refine bif_of (fun h => ?_) fun h => ?_
    · have h : (S316 x).2.fCode ≠ 0 := by simpa using h
      exact absurd h0 h
    · rfl
theorem ok317 : Ok317 := con_ok (C := C317) (kok_cons ok62 (kok_cons ok327 (kok_cons ok316 (kok_cons ok330 (kk1 ok331))))) mx7 (by kernel_rfl) run317
theorem run314 : RunC C314 6 14 [22] [3] W314 [] := by
  intro (x : Int) hx hp
  exact of_eq (q314 x _) rfl
theorem ok314 : Ok314 := con_ok (C := C314) kok_nil mx7 (by kernel_rfl) run314
/-- The marker's loop. -/
theorem ffLoop {Q : List Int → Prop} (h0 : Q ff16) : LOOP (fun (h : List Int × Int) (J : List Int × Int → Prop) => bif decide (h.snd < (16 : Int)) then (h.fst.length = h.fst.length ∧ (h.fst.length + nat_lit 1) * nat_lit 1 ≤ nat_lit 140737488355328) ∧ ∀ (y : List Int), y = h.fst ++ [(255 : Int)] → y.length = y.length ∧ J (y, IntKind.i64.wrap (h.snd + (1 : Int))) else Q h.fst) ([], (0 : Int)) := by
  refine LOOP.of (fun h => ∃ n : Nat, n ≤ 16 ∧ h = (List.replicate n 255, (n : Int))) (fun h => (16 - h.2).toNat) ⟨0, by decide, rfl⟩ ?_
  rintro _ ⟨n, hn, rfl⟩ J hJ
  refine bif_of (fun h => ?_) fun h => ?_
  · have h : (n : Int) < 16 := by simpa using h
    refine ⟨⟨rfl, ?_⟩, ?_⟩
    · show ((List.replicate n (255 : Int)).length + 1) * 1 ≤ 140737488355328
      rw [List.length_replicate]; omega
    · rintro _ rfl
      refine ⟨rfl, hJ _ ⟨n + 1, by omega, ?_⟩ ?_⟩
      · rw [wrap64 (by omega)]
        show (List.replicate n (255 : Int) ++ [255], _) = _
        rw [← List.replicate_succ']; rfl
      · rw [wrap64 (by omega)]; omega
  · have h : ¬ (n : Int) < 16 := by simpa using h
    obtain rfl : n = 16 := by omega
    exact h0
theorem run309 : RunC C309 6 9 [22] [42] W309 [] := by
  intro (x : api_Msg) hx hp
  obtain ⟨hk, hlen⟩ : P309 x := hp _ rfl
  refine of_eq (q309 x (S309 x)) ?_
  refine bif_of (fun h => ?_) fun _ => bif_of (fun h => ?_) fun _ => bif_of (fun h => ?_) fun h => ?_
  · have h : x.fKind = 1 := by simpa using h
    omega
  · have h : x.fKind = 2 := by simpa using h
    omega
  · have h3 : x.fKind = 3 := by simpa using h
    refine ⟨⟨rfl, by show (2 + x.fNote.fData.length) * 1 ≤ 140737488355328; omega⟩, ?_⟩
    intro y hy
    have hb : bodyS x = y := by unfold bodyS; rw [if_pos h3, hy]; rfl
    have hyl : y.length = 2 + x.fNote.fData.length := by rw [hy]; simp; omega
    refine bif_of (fun h => ?_) fun h => ?_
    · unfold S309
      rw [hb]
      by_cases ho : okN x = true
      · rw [if_pos ho]
        unfold okN at ho
        rw [if_pos h3] at ho
        rw [ho, Bool.not_true, Bool.false_or, decide_eq_true_eq] at h
        rw [if_neg (by omega)]
      · rw [if_neg ho]
    · rw [Bool.or_eq_false_iff] at h
      obtain ⟨h1, h2⟩ := h
      have ho : okN x = true := by
        unfold okN
        rw [if_pos h3]
        simpa using h1
      have h2 : ¬ (4077 : Int) < y.length := by simpa using h2
      refine ffLoop (Q := fun o => (o.length = o.length ∧ (o.length + (S314 (IntKind.i64.wrap ((19 : Int) + (↑y.length : Int)))).length) * nat_lit 1 ≤ nat_lit 140737488355328) ∧ ∀ (y_1 : List Int), y_1 = o ++ S314 (IntKind.i64.wrap ((19 : Int) + (↑y.length : Int))) → (y_1.length = y_1.length ∧ (y_1.length + [IntKind.u8.wrap x.fKind].length) * nat_lit 1 ≤ nat_lit 140737488355328) ∧ ∀ (y_2 : List Int), y_2 = y_1 ++ [IntKind.u8.wrap x.fKind] → (y_2.length = y_2.length ∧ (y_2.length + y.length) * nat_lit 1 ≤ nat_lit 140737488355328) ∧ ∀ (y_3 : List Int), y_3 = y_2 ++ y → y_3 = S309 x) ?_
      have e : IntKind.i64.wrap ((19 : Int) + (y.length : Int)) = 19 + y.length := wrap64 (by omega)
      rw [e]
      refine ⟨⟨rfl, by show (16 + 2) * 1 ≤ 140737488355328; decide⟩, ?_⟩
      rintro _ rfl
      refine ⟨⟨rfl, by show (18 + 1) * 1 ≤ 140737488355328; decide⟩, ?_⟩
      rintro _ rfl
      refine ⟨⟨rfl, by show (19 + y.length) * 1 ≤ 140737488355328; omega⟩, ?_⟩
      rintro _ rfl
      unfold S309
      rw [hb, if_pos ho, if_pos (by omega)]
  · have h3 : ¬ x.fKind = 3 := by simpa using h
    have h4 : x.fKind = 4 := by omega
    have hb : bodyS x = [] := by unfold bodyS; rw [if_neg h3]
    have ho : okN x = true := by unfold okN; rw [if_neg h3, h4]; rfl
    refine bif_of (fun h => ?_) fun h => ?_
    · rw [h4] at h; cases h
    · refine ffLoop (Q := fun o => (o.length = o.length ∧ (o.length + nat_lit 2) * nat_lit 1 ≤ nat_lit 140737488355328) ∧ ∀ (y : List Int), y = o ++ S314 (IntKind.i64.wrap ((19 : Int) + (↑(nat_lit 0) : Int))) → (y.length = y.length ∧ (y.length + [IntKind.u8.wrap x.fKind].length) * nat_lit 1 ≤ nat_lit 140737488355328) ∧ ∀ (y_1 : List Int), y_1 = y ++ [IntKind.u8.wrap x.fKind] → (y_1.length = y_1.length ∧ (y_1.length + nat_lit 0) * nat_lit 1 ≤ nat_lit 140737488355328) ∧ ∀ (y : List Int), y = y_1 ++ [] → y = S309 x) ?_
      refine ⟨⟨rfl, by show (16 + 2) * 1 ≤ 140737488355328; decide⟩, ?_⟩
      rintro _ rfl
      refine ⟨⟨rfl, by show (18 + 1) * 1 ≤ 140737488355328; decide⟩, ?_⟩
      rintro _ rfl
      refine ⟨⟨rfl, by show (19 + 0) * 1 ≤ 140737488355328; decide⟩, ?_⟩
      rintro _ rfl
      unfold S309
      rw [hb, if_pos ho, if_pos (by decide)]
      rfl
theorem ok309 : Ok309 := con_ok (C := C309) (kok_cons ok319 (kok_cons ok321 (kok_cons ok322 (kok_cons ok324 (kok_cons ok14 (kok_cons ok16 (kk1 ok314))))))) mx7 (by kernel_rfl) run309
end Go.Rx
namespace Go.Rx
open Go.Ab Go.L10
set_option maxRecDepth 100000
set_option maxHeartbeats 20000000
set_option linter.unusedVariables false
/-- interregnum/interregnumlaw10.answers -/
noncomputable def C306 : Cfg S := { P := P7, inl := [], K := [(18, ctr P7 [22] [22] (fun x0 => (some (P62 x0), S62 x0))), (16, ctr P7 [22] [3, 40] (fun x0 => (some (P316 x0), S316 x0))), (17, ctr P7 [22] [42, 40] (fun x0 => (some (P317 x0), S317 x0))), (15, ctr P7 [40] [40] (fun x0 => (some (P315 x0), S315 x0))), (9, ctr P7 [42] [22] (fun x0 => (some (P309 x0), S309 x0)))], ann := [(10, [(12, .hyb [(0, ([], [10])), (1, ([], [13])), (2, ([], [3])), (3, ([2], [4])), (4, ([3], [5])), (5, ([4], [7, 12, 15])), (6, ([], [7])), (7, ([5, 6], [8])), (9, ([12], [15])), (10, ([0], [11])), (11, ([10], [12])), (13, ([1], [14])), (14, ([13], [15]))] (.one 0 (.one 1 (.one 2 (.one 3 (.one 4 (.one 5 (.one 6 (.one 7 (.alt 8 (.one 10 (.one 11 (.alt 9 (.alt 12 (.one 13 (.one 14 (.alt 15 .done .done))) .done) (.alt 12 (.one 9 (.one 13 (.one 14 (.alt 15 .done .done)))) .done)))) (.alt 9 (.alt 8 (.one 10 (.one 11 (.alt 12 (.one 13 (.one 14 (.alt 15 .done .done))) .done))) .done) .done))))))))))), (13, .hyb [(0, ([], [3, 4])), (1, ([], [2, 3, 4])), (5, ([], []))] (.one 0 (.one 1 (.alt 2 (.alt 3 (.alt 4 (.one 5 .done) .done) .done) .done))))])] }
abbrev W306 : CT S [4] [] := (none, S306)
abbrev Ok306 : Prop := ConOk P7 6 (ctr P7 [] [4] W306) ∧ ConMon (ctr P7 [] [4] W306)
theorem q306 (v : HR S [4]) : (Xf C306 6 (emp 0) 6 (argsA C306 []) (emp 0) (fun r _ => isR C306.P [4] v r) (fun _ _ => False)) = ((((4 : Int) = (3 : Int) ∨ (4
 : Int) = (4 : Int)) ∧ nat_lit 0 ≤ nat_lit 1099511627776) ∧ ((0 : Int) ≤ (0 : Int) ∧ (0 : Int) ≤ (5 : Int) ∧ (5 : Int) ≤ (↑(nat_lit 19) : Int)) ∧ nat_lit 5 ≤
 nat_lit 140737488355328 ∧ ∀ (y : List (Int)), y = sub (S309 (api_Msg.mk (4 : Int) (api_Open.mk (0 : Int) (0 : Int) (0 : Int) (api_Caps.mk false (0 : Int)
 false false (0 : Int) false false false (0 : Int))) (api_Update.mk [] (api_Attrs.mk (0 : Int) [] (0 : Int) (0 : Int) (0 : Int) [] []) []) (api_Note.mk (0 :
 Int) (0 : Int) []))) (0 : Int) (5 : Int) → (∀ (x : Int), List.Mem x y → (0 : Int) ≤ x ∧ x ≤ (255 : Int)) ∧ bif !decide ((S316 y).snd.fCode = (0 : Int)) then
 (S316 y).snd.fData.length.le (nat_lit 140737488355328) ∧ ((0 : Int) ≤ (5 : Int) ∧ (5 : Int) ≤ (↑(nat_lit 19) : Int) ∧ (↑(nat_lit 19) : Int) ≤ (↑(nat_lit 19) :
 Int)) ∧ bif decide ((↑(nat_lit 14) : Int) ≤ IntKind.i64.wrap ((1048576 : Int) - (↑y.length : Int))) then (y.length = y.length ∧ (y.length + nat_lit 14) *
 nat_lit 1 ≤ nat_lit 140737488355328) ∧ ∀ (y_1 : List (Int)), y_1 = y ++ sub (S309 (api_Msg.mk (4 : Int) (api_Open.mk (0 : Int) (0 : Int) (0 : Int)
 (api_Caps.mk false (0 : Int) false false (0 : Int) false false false (0 : Int))) (api_Update.mk [] (api_Attrs.mk (0 : Int) [] (0 : Int) (0 : Int) (0 : Int) []
 []) []) (api_Note.mk (0 : Int) (0 : Int) []))) (5 : Int) (↑(nat_lit 19) : Int) → bif !decide ((S316 y).snd.fCode = (0 : Int)) then (S316
 y).snd.fData.length.le (nat_lit 140737488355328) ∧ false = v else (∀ (x : Int), List.Mem x y_1 → (0 : Int) ≤ x ∧ x ≤ (255 : Int)) ∧ bif !decide ((S316
 y_1).snd.fCode = (0 : Int)) then (S316 y_1).snd.fData.length.le (nat_lit 140737488355328) ∧ false = v else bif decide ((S316 y_1).fst = (0 : Int)) || decide
 ((↑y_1.length : Int) < (S316 y_1).fst) then false = v else ((S316 y_1).fst = (S316 y_1).fst ∧ (0 : Int) ≤ (0 : Int) ∧ (0 : Int) ≤ (S316 y_1).fst ∧ (S316
 y_1).fst ≤ (↑y_1.length : Int)) ∧ ((∀ (x : Int), List.Mem x (sub y_1 (0 : Int) (S316 y_1).fst) → (0 : Int) ≤ x ∧ x ≤ (255 : Int)) ∧ (sub y_1 (0 : Int) (S316
 y_1).fst).length ≤ nat_lit 140737488355328 ∧ ((S316 (sub y_1 (0 : Int) (S316 y_1).fst)).snd.fCode = (0 : Int) → (S316 (sub y_1 (0 : Int) (S316 y_1).fst)).fst
 = (↑(sub y_1 (0 : Int) (S316 y_1).fst).length : Int) → (sub y_1 (0 : Int) (S316 y_1).fst).length ≠ nat_lit 0 → (3 : Int) ≤ k18 (sub y_1 (0 : Int) (S316
 y_1).fst))) ∧ ((0 : Int) ≤ (S316 y_1).fst ∧ (S316 y_1).fst ≤ (↑y_1.length : Int) ∧ (↑y_1.length : Int) ≤ (↑y_1.length : Int)) ∧ ((sub y_1 (S316 y_1).fst
 (↑y_1.length : Int)).length.le (nat_lit 140737488355328) ∧ (((((S317 (sub y_1 (0 : Int) (S316 y_1).fst)).snd.fData.length.le (nat_lit 140737488355328) ∧
 (false = v ∧ True) ∧ True) ∧ True) ∧ True) ∧ True) ∧ ((((S317 (sub y_1 (0 : Int) (S316 y_1).fst)).snd.fData.length.le (nat_lit 140737488355328) ∧ (false = v ∧
 True) ∧ True) ∧ True) ∧ True) ∧ True) ∧ (((sub y_1 (S316 y_1).fst (↑y_1.length : Int)).length.le (nat_lit 140737488355328) ∧ ((((S317 (sub y_1 (0 : Int) (S316
 y_1).fst)).snd.fData.length.le (nat_lit 140737488355328) ∧ (false = v ∧ True) ∧ True) ∧ True) ∧ True) ∧ True) ∧ True) ∧ True else bif !decide ((S316
 y).snd.fCode = (0 : Int)) then (S316 y).snd.fData.length.le (nat_lit 140737488355328) ∧ false = v else (∀ (x : Int), List.Mem x y → (0 : Int) ≤ x ∧ x ≤ (255 :
 Int)) ∧ bif !decide ((S316 y).snd.fCode = (0 : Int)) then (S316 y).snd.fData.length.le (nat_lit 140737488355328) ∧ false = v else bif decide ((S316 y).fst =
 (0 : Int)) || decide ((↑y.length : Int) < (S316 y).fst) then false = v else ((S316 y).fst = (S316 y).fst ∧ (0 : Int) ≤ (0 : Int) ∧ (0 : Int) ≤ (S316 y).fst ∧
 (S316 y).fst ≤ (↑y.length : Int)) ∧ ((∀ (x : Int), List.Mem x (sub y (0 : Int) (S316 y).fst) → (0 : Int) ≤ x ∧ x ≤ (255 : Int)) ∧ (sub y (0 : Int) (S316
 y).fst).length ≤ nat_lit 140737488355328 ∧ ((S316 (sub y (0 : Int) (S316 y).fst)).snd.fCode = (0 : Int) → (S316 (sub y (0 : Int) (S316 y).fst)).fst = (↑(sub y
 (0 : Int) (S316 y).fst).length : Int) → (sub y (0 : Int) (S316 y).fst).length ≠ nat_lit 0 → (3 : Int) ≤ k18 (sub y (0 : Int) (S316 y).fst))) ∧ ((0 : Int) ≤
 (S316 y).fst ∧ (S316 y).fst ≤ (↑y.length : Int) ∧ (↑y.length : Int) ≤ (↑y.length : Int)) ∧ ((sub y (S316 y).fst (↑y.length : Int)).length.le (nat_lit
 140737488355328) ∧ (((((S317 (sub y (0 : Int) (S316 y).fst)).snd.fData.length.le (nat_lit 140737488355328) ∧ (false = v ∧ True) ∧ True) ∧ True) ∧ True) ∧
 True) ∧ ((((S317 (sub y (0 : Int) (S316 y).fst)).snd.fData.length.le (nat_lit 140737488355328) ∧ (false = v ∧ True) ∧ True) ∧ True) ∧ True) ∧ True) ∧ (((sub y
 (S316 y).fst (↑y.length : Int)).length.le (nat_lit 140737488355328) ∧ ((((S317 (sub y (0 : Int) (S316 y).fst)).snd.fData.length.le (nat_lit 140737488355328) ∧
 (false = v ∧ True) ∧ True) ∧ True) ∧ True) ∧ True) ∧ True) ∧ True else bif decide ((S316 y).fst = (0 : Int)) || decide ((↑y.length : Int) < (S316 y).fst) then
 ((0 : Int) ≤ (5 : Int) ∧ (5 : Int) ≤ (↑(nat_lit 19) : Int) ∧ (↑(nat_lit 19) : Int) ≤ (↑(nat_lit 19) : Int)) ∧ bif decide ((↑(nat_lit 14) : Int) ≤
 IntKind.i64.wrap ((1048576 : Int) - (↑y.length : Int))) then (y.length = y.length ∧ (y.length + nat_lit 14) * nat_lit 1 ≤ nat_lit 140737488355328) ∧ ∀ (y_1 :
 List (Int)), y_1 = y ++ sub (S309 (api_Msg.mk (4 : Int) (api_Open.mk (0 : Int) (0 : Int) (0 : Int) (api_Caps.mk false (0 : Int) false false (0 : Int) false
 false false (0 : Int))) (api_Update.mk [] (api_Attrs.mk (0 : Int) [] (0 : Int) (0 : Int) (0 : Int) [] []) []) (api_Note.mk (0 : Int) (0 : Int) []))) (5 : Int)
 (↑(nat_lit 19) : Int) → (∀ (x : Int), List.Mem x y_1 → (0 : Int) ≤ x ∧ x ≤ (255 : Int)) ∧ bif !decide ((S316 y_1).snd.fCode = (0 : Int)) then (S316
 y_1).snd.fData.length.le (nat_lit 140737488355328) ∧ bif decide ((S316 y_1).snd.fCode = (0 : Int)) && false then decide ((↑y_1.length : Int) = (0 : Int)) = v
 else false = v else bif decide ((S316 y_1).fst = (0 : Int)) || decide ((↑y_1.length : Int) < (S316 y_1).fst) then false = v else ((S316 y_1).fst = (S316
 y_1).fst ∧ (0 : Int) ≤ (0 : Int) ∧ (0 : Int) ≤ (S316 y_1).fst ∧ (S316 y_1).fst ≤ (↑y_1.length : Int)) ∧ ((∀ (x : Int), List.Mem x (sub y_1 (0 : Int) (S316
 y_1).fst) → (0 : Int) ≤ x ∧ x ≤ (255 : Int)) ∧ (sub y_1 (0 : Int) (S316 y_1).fst).length ≤ nat_lit 140737488355328 ∧ ((S316 (sub y_1 (0 : Int) (S316
 y_1).fst)).snd.fCode = (0 : Int) → (S316 (sub y_1 (0 : Int) (S316 y_1).fst)).fst = (↑(sub y_1 (0 : Int) (S316 y_1).fst).length : Int) → (sub y_1 (0 : Int)
 (S316 y_1).fst).length ≠ nat_lit 0 → (3 : Int) ≤ k18 (sub y_1 (0 : Int) (S316 y_1).fst))) ∧ ((0 : Int) ≤ (S316 y_1).fst ∧ (S316 y_1).fst ≤ (↑y_1.length : Int)
 ∧ (↑y_1.length : Int) ≤ (↑y_1.length : Int)) ∧ ((sub y_1 (S316 y_1).fst (↑y_1.length : Int)).length.le (nat_lit 140737488355328) ∧ (((((S317 (sub y_1 (0 :
 Int) (S316 y_1).fst)).snd.fData.length.le (nat_lit 140737488355328) ∧ ((bif decide ((S317 (sub y_1 (0 : Int) (S316 y_1).fst)).snd.fCode = (0 : Int)) && decide
 ((S317 (sub y_1 (0 : Int) (S316 y_1).fst)).fst.fKind = (4 : Int)) then decide ((↑(S62 (sub y_1 (S316 y_1).fst (↑y_1.length : Int))).length : Int) = (0 : Int))
 = v else false = v) ∧ True) ∧ True) ∧ True) ∧ True) ∧ True) ∧ ((((S317 (sub y_1 (0 : Int) (S316 y_1).fst)).snd.fData.length.le (nat_lit 140737488355328) ∧
 ((bif decide ((S317 (sub y_1 (0 : Int) (S316 y_1).fst)).snd.fCode = (0 : Int)) && decide ((S317 (sub y_1 (0 : Int) (S316 y_1).fst)).fst.fKind = (4 : Int))
 then decide ((↑(S62 (sub y_1 (S316 y_1).fst (↑y_1.length : Int))).length : Int) = (0 : Int)) = v else false = v) ∧ True) ∧ True) ∧ True) ∧ True) ∧ True) ∧
 (((sub y_1 (S316 y_1).fst (↑y_1.length : Int)).length.le (nat_lit 140737488355328) ∧ ((((S317 (sub y_1 (0 : Int) (S316 y_1).fst)).snd.fData.length.le (nat_lit
 140737488355328) ∧ ((bif decide ((S317 (sub y_1 (0 : Int) (S316 y_1).fst)).snd.fCode = (0 : Int)) && decide ((S317 (sub y_1 (0 : Int) (S316
 y_1).fst)).fst.fKind = (4 : Int)) then decide ((↑(S62 (sub y_1 (S316 y_1).fst (↑y_1.length : Int))).length : Int) = (0 : Int)) = v else false = v) ∧ True) ∧
 True) ∧ True) ∧ True) ∧ True) ∧ True) ∧ True else (∀ (x : Int), List.Mem x y → (0 : Int) ≤ x ∧ x ≤ (255 : Int)) ∧ bif !decide ((S316 y).snd.fCode = (0 : Int))
 then (S316 y).snd.fData.length.le (nat_lit 140737488355328) ∧ bif decide ((S316 y).snd.fCode = (0 : Int)) && false then decide ((↑y.length : Int) = (0 : Int))
 = v else false = v else bif decide ((S316 y).fst = (0 : Int)) || decide ((↑y.length : Int) < (S316 y).fst) then false = v else ((S316 y).fst = (S316 y).fst ∧
 (0 : Int) ≤ (0 : Int) ∧ (0 : Int) ≤ (S316 y).fst ∧ (S316 y).fst ≤ (↑y.length : Int)) ∧ ((∀ (x : Int), List.Mem x (sub y (0 : Int) (S316 y).fst) → (0 : Int) ≤
 x ∧ x ≤ (255 : Int)) ∧ (sub y (0 : Int) (S316 y).fst).length ≤ nat_lit 140737488355328 ∧ ((S316 (sub y (0 : Int) (S316 y).fst)).snd.fCode = (0 : Int) → (S316
 (sub y (0 : Int) (S316 y).fst)).fst = (↑(sub y (0 : Int) (S316 y).fst).length : Int) → (sub y (0 : Int) (S316 y).fst).length ≠ nat_lit 0 → (3 : Int) ≤ k18
 (sub y (0 : Int) (S316 y).fst))) ∧ ((0 : Int) ≤ (S316 y).fst ∧ (S316 y).fst ≤ (↑y.length : Int) ∧ (↑y.length : Int) ≤ (↑y.length : Int)) ∧ ((sub y (S316
 y).fst (↑y.length : Int)).length.le (nat_lit 140737488355328) ∧ (((((S317 (sub y (0 : Int) (S316 y).fst)).snd.fData.length.le (nat_lit 140737488355328) ∧
 ((bif decide ((S317 (sub y (0 : Int) (S316 y).fst)).snd.fCode = (0 : Int)) && decide ((S317 (sub y (0 : Int) (S316 y).fst)).fst.fKind = (4 : Int)) then decide
 ((↑(S62 (sub y (S316 y).fst (↑y.length : Int))).length : Int) = (0 : Int)) = v else false = v) ∧ True) ∧ True) ∧ True) ∧ True) ∧ True) ∧ ((((S317 (sub y (0 :
 Int) (S316 y).fst)).snd.fData.length.le (nat_lit 140737488355328) ∧ ((bif decide ((S317 (sub y (0 : Int) (S316 y).fst)).snd.fCode = (0 : Int)) && decide
 ((S317 (sub y (0 : Int) (S316 y).fst)).fst.fKind = (4 : Int)) then decide ((↑(S62 (sub y (S316 y).fst (↑y.length : Int))).length : Int) = (0 : Int)) = v else
 false = v) ∧ True) ∧ True) ∧ True) ∧ True) ∧ True) ∧ (((sub y (S316 y).fst (↑y.length : Int)).length.le (nat_lit 140737488355328) ∧ ((((S317 (sub y (0 : Int)
 (S316 y).fst)).snd.fData.length.le (nat_lit 140737488355328) ∧ ((bif decide ((S317 (sub y (0 : Int) (S316 y).fst)).snd.fCode = (0 : Int)) && decide ((S317
 (sub y (0 : Int) (S316 y).fst)).fst.fKind = (4 : Int)) then decide ((↑(S62 (sub y (S316 y).fst (↑y.length : Int))).length : Int) = (0 : Int)) = v else false =
 v) ∧ True) ∧ True) ∧ True) ∧ True) ∧ True) ∧ True) ∧ True else ((S316 y).fst = (S316 y).fst ∧ (0 : Int) ≤ (0 : Int) ∧ (0 : Int) ≤ (S316 y).fst ∧ (S316 y).fst
 ≤ (↑y.length : Int)) ∧ ((∀ (x : Int), List.Mem x (sub y (0 : Int) (S316 y).fst) → (0 : Int) ≤ x ∧ x ≤ (255 : Int)) ∧ (sub y (0 : Int) (S316 y).fst).length ≤
 nat_lit 140737488355328 ∧ ((S316 (sub y (0 : Int) (S316 y).fst)).snd.fCode = (0 : Int) → (S316 (sub y (0 : Int) (S316 y).fst)).fst = (↑(sub y (0 : Int) (S316
 y).fst).length : Int) → (sub y (0 : Int) (S316 y).fst).length ≠ nat_lit 0 → (3 : Int) ≤ k18 (sub y (0 : Int) (S316 y).fst))) ∧ ((0 : Int) ≤ (S316 y).fst ∧
 (S316 y).fst ≤ (↑y.length : Int) ∧ (↑y.length : Int) ≤ (↑y.length : Int)) ∧ ((sub y (S316 y).fst (↑y.length : Int)).length.le (nat_lit 140737488355328) ∧
 (((((S317 (sub y (0 : Int) (S316 y).fst)).snd.fData.length.le (nat_lit 140737488355328) ∧ ((((0 : Int) ≤ (5 : Int) ∧ (5 : Int) ≤ (↑(nat_lit 19) : Int) ∧
 (↑(nat_lit 19) : Int) ≤ (↑(nat_lit 19) : Int)) ∧ bif decide ((↑(nat_lit 14) : Int) ≤ IntKind.i64.wrap ((1048576 : Int) - (↑(S62 (sub y (S316 y).fst (↑y.length
 : Int))).length : Int))) then False else bif !decide ((S317 (sub y (0 : Int) (S316 y).fst)).snd.fCode = (0 : Int)) then (S317 (sub y (0 : Int) (S316
 y).fst)).snd.fData.length.le (nat_lit 140737488355328) ∧ false = v else (∀ (x : Int), List.Mem x (S62 (sub y (S316 y).fst (↑y.length : Int))) → (0 : Int) ≤ x
 ∧ x ≤ (255 : Int)) ∧ bif !decide ((S316 (S62 (sub y (S316 y).fst (↑y.length : Int)))).snd.fCode = (0 : Int)) then (S316 (S62 (sub y (S316 y).fst (↑y.length :
 Int)))).snd.fData.length.le (nat_lit 140737488355328) ∧ false = v else bif decide ((S316 (S62 (sub y (S316 y).fst (↑y.length : Int)))).fst = (0 : Int)) ||
 decide ((↑(S62 (sub y (S316 y).fst (↑y.length : Int))).length : Int) < (S316 (S62 (sub y (S316 y).fst (↑y.length : Int)))).fst) then false = v else ((S316
 (S62 (sub y (S316 y).fst (↑y.length : Int)))).fst = (S316 (S62 (sub y (S316 y).fst (↑y.length : Int)))).fst ∧ (0 : Int) ≤ (0 : Int) ∧ (0 : Int) ≤ (S316 (S62
 (sub y (S316 y).fst (↑y.length : Int)))).fst ∧ (S316 (S62 (sub y (S316 y).fst (↑y.length : Int)))).fst ≤ (↑(S62 (sub y (S316 y).fst (↑y.length : Int))).length
 : Int)) ∧ ((∀ (x : Int), List.Mem x (sub (S62 (sub y (S316 y).fst (↑y.length : Int))) (0 : Int) (S316 (S62 (sub y (S316 y).fst (↑y.length : Int)))).fst) → (0
 : Int) ≤ x ∧ x ≤ (255 : Int)) ∧ (sub (S62 (sub y (S316 y).fst (↑y.length : Int))) (0 : Int) (S316 (S62 (sub y (S316 y).fst (↑y.length : Int)))).fst).length ≤
 nat_lit 140737488355328 ∧ ((S316 (sub (S62 (sub y (S316 y).fst (↑y.length : Int))) (0 : Int) (S316 (S62 (sub y (S316 y).fst (↑y.length :
 Int)))).fst)).snd.fCode = (0 : Int) → (S316 (sub (S62 (sub y (S316 y).fst (↑y.length : Int))) (0 : Int) (S316 (S62 (sub y (S316 y).fst (↑y.length :
 Int)))).fst)).fst = (↑(sub (S62 (sub y (S316 y).fst (↑y.length : Int))) (0 : Int) (S316 (S62 (sub y (S316 y).fst (↑y.length : Int)))).fst).length : Int) →
 (sub (S62 (sub y (S316 y).fst (↑y.length : Int))) (0 : Int) (S316 (S62 (sub y (S316 y).fst (↑y.length : Int)))).fst).length ≠ nat_lit 0 → (3 : Int) ≤ k18 (sub
 (S62 (sub y (S316 y).fst (↑y.length : Int))) (0 : Int) (S316 (S62 (sub y (S316 y).fst (↑y.length : Int)))).fst))) ∧ ((0 : Int) ≤ (S316 (S62 (sub y (S316
 y).fst (↑y.length : Int)))).fst ∧ (S316 (S62 (sub y (S316 y).fst (↑y.length : Int)))).fst ≤ (↑(S62 (sub y (S316 y).fst (↑y.length : Int))).length : Int) ∧
 (↑(S62 (sub y (S316 y).fst (↑y.length : Int))).length : Int) ≤ (↑(S62 (sub y (S316 y).fst (↑y.length : Int))).length : Int)) ∧ ((sub (S62 (sub y (S316 y).fst
 (↑y.length : Int))) (S316 (S62 (sub y (S316 y).fst (↑y.length : Int)))).fst (↑(S62 (sub y (S316 y).fst (↑y.length : Int))).length : Int)).length.le (nat_lit
 140737488355328) ∧ (((((S317 (sub (S62 (sub y (S316 y).fst (↑y.length : Int))) (0 : Int) (S316 (S62 (sub y (S316 y).fst (↑y.length :
 Int)))).fst)).snd.fData.length.le (nat_lit 140737488355328) ∧ (false = v ∧ True) ∧ True) ∧ True) ∧ True) ∧ True) ∧ ((((S317 (sub (S62 (sub y (S316 y).fst
 (↑y.length : Int))) (0 : Int) (S316 (S62 (sub y (S316 y).fst (↑y.length : Int)))).fst)).snd.fData.length.le (nat_lit 140737488355328) ∧ (false = v ∧ True) ∧
 True) ∧ True) ∧ True) ∧ True) ∧ (((sub (S62 (sub y (S316 y).fst (↑y.length : Int))) (S316 (S62 (sub y (S316 y).fst (↑y.length : Int)))).fst (↑(S62 (sub y
 (S316 y).fst (↑y.length : Int))).length : Int)).length.le (nat_lit 140737488355328) ∧ ((((S317 (sub (S62 (sub y (S316 y).fst (↑y.length : Int))) (0 : Int)
 (S316 (S62 (sub y (S316 y).fst (↑y.length : Int)))).fst)).snd.fData.length.le (nat_lit 140737488355328) ∧ (false = v ∧ True) ∧ True) ∧ True) ∧ True) ∧ True) ∧
 True) ∧ True) ∧ True) ∧ True) ∧ True) ∧ True) ∧ True) ∧ ((((S317 (sub y (0 : Int) (S316 y).fst)).snd.fData.length.le (nat_lit 140737488355328) ∧ ((((0 : Int)
 ≤ (5 : Int) ∧ (5 : Int) ≤ (↑(nat_lit 19) : Int) ∧ (↑(nat_lit 19) : Int) ≤ (↑(nat_lit 19) : Int)) ∧ bif decide ((↑(nat_lit 14) : Int) ≤ IntKind.i64.wrap
 ((1048576 : Int) - (↑(S62 (sub y (S316 y).fst (↑y.length : Int))).length : Int))) then False else bif !decide ((S317 (sub y (0 : Int) (S316 y).fst)).snd.fCode
 = (0 : Int)) then (S317 (sub y (0 : Int) (S316 y).fst)).snd.fData.length.le (nat_lit 140737488355328) ∧ false = v else (∀ (x : Int), List.Mem x (S62 (sub y
 (S316 y).fst (↑y.length : Int))) → (0 : Int) ≤ x ∧ x ≤ (255 : Int)) ∧ bif !decide ((S316 (S62 (sub y (S316 y).fst (↑y.length : Int)))).snd.fCode = (0 : Int))
 then (S316 (S62 (sub y (S316 y).fst (↑y.length : Int)))).snd.fData.length.le (nat_lit 140737488355328) ∧ false = v else bif decide ((S316 (S62 (sub y (S316
 y).fst (↑y.length : Int)))).fst = (0 : Int)) || decide ((↑(S62 (sub y (S316 y).fst (↑y.length : Int))).length : Int) < (S316 (S62 (sub y (S316 y).fst
 (↑y.length : Int)))).fst) then false = v else ((S316 (S62 (sub y (S316 y).fst (↑y.length : Int)))).fst = (S316 (S62 (sub y (S316 y).fst (↑y.length :
 Int)))).fst ∧ (0 : Int) ≤ (0 : Int) ∧ (0 : Int) ≤ (S316 (S62 (sub y (S316 y).fst (↑y.length : Int)))).fst ∧ (S316 (S62 (sub y (S316 y).fst (↑y.length :
 Int)))).fst ≤ (↑(S62 (sub y (S316 y).fst (↑y.length : Int))).length : Int)) ∧ ((∀ (x : Int), List.Mem x (sub (S62 (sub y (S316 y).fst (↑y.length : Int))) (0 :
 Int) (S316 (S62 (sub y (S316 y).fst (↑y.length : Int)))).fst) → (0 : Int) ≤ x ∧ x ≤ (255 : Int)) ∧ (sub (S62 (sub y (S316 y).fst (↑y.length : Int))) (0 : Int)
 (S316 (S62 (sub y (S316 y).fst (↑y.length : Int)))).fst).length ≤ nat_lit 140737488355328 ∧ ((S316 (sub (S62 (sub y (S316 y).fst (↑y.length : Int))) (0 : Int)
 (S316 (S62 (sub y (S316 y).fst (↑y.length : Int)))).fst)).snd.fCode = (0 : Int) → (S316 (sub (S62 (sub y (S316 y).fst (↑y.length : Int))) (0 : Int) (S316 (S62
 (sub y (S316 y).fst (↑y.length : Int)))).fst)).fst = (↑(sub (S62 (sub y (S316 y).fst (↑y.length : Int))) (0 : Int) (S316 (S62 (sub y (S316 y).fst (↑y.length :
 Int)))).fst).length : Int) → (sub (S62 (sub y (S316 y).fst (↑y.length : Int))) (0 : Int) (S316 (S62 (sub y (S316 y).fst (↑y.length : Int)))).fst).length ≠
 nat_lit 0 → (3 : Int) ≤ k18 (sub (S62 (sub y (S316 y).fst (↑y.length : Int))) (0 : Int) (S316 (S62 (sub y (S316 y).fst (↑y.length : Int)))).fst))) ∧ ((0 :
 Int) ≤ (S316 (S62 (sub y (S316 y).fst (↑y.length : Int)))).fst ∧ (S316 (S62 (sub y (S316 y).fst (↑y.length : Int)))).fst ≤ (↑(S62 (sub y (S316 y).fst
 (↑y.length : Int))).length : Int) ∧ (↑(S62 (sub y (S316 y).fst (↑y.length : Int))).length : Int) ≤ (↑(S62 (sub y (S316 y).fst (↑y.length : Int))).length :
 Int)) ∧ ((sub (S62 (sub y (S316 y).fst (↑y.length : Int))) (S316 (S62 (sub y (S316 y).fst (↑y.length : Int)))).fst (↑(S62 (sub y (S316 y).fst (↑y.length :
 Int))).length : Int)).length.le (nat_lit 140737488355328) ∧ (((((S317 (sub (S62 (sub y (S316 y).fst (↑y.length : Int))) (0 : Int) (S316 (S62 (sub y (S316
 y).fst (↑y.length : Int)))).fst)).snd.fData.length.le (nat_lit 140737488355328) ∧ (false = v ∧ True) ∧ True) ∧ True) ∧ True) ∧ True) ∧ ((((S317 (sub (S62 (sub
 y (S316 y).fst (↑y.length : Int))) (0 : Int) (S316 (S62 (sub y (S316 y).fst (↑y.length : Int)))).fst)).snd.fData.length.le (nat_lit 140737488355328) ∧ (false
 = v ∧ True) ∧ True) ∧ True) ∧ True) ∧ True) ∧ (((sub (S62 (sub y (S316 y).fst (↑y.length : Int))) (S316 (S62 (sub y (S316 y).fst (↑y.length : Int)))).fst
 (↑(S62 (sub y (S316 y).fst (↑y.length : Int))).length : Int)).length.le (nat_lit 140737488355328) ∧ ((((S317 (sub (S62 (sub y (S316 y).fst (↑y.length : Int)))
 (0 : Int) (S316 (S62 (sub y (S316 y).fst (↑y.length : Int)))).fst)).snd.fData.length.le (nat_lit 140737488355328) ∧ (false = v ∧ True) ∧ True) ∧ True) ∧ True)
 ∧ True) ∧ True) ∧ True) ∧ True) ∧ True) ∧ True) ∧ True) ∧ True) ∧ (((sub y (S316 y).fst (↑y.length : Int)).length.le (nat_lit 140737488355328) ∧ ((((S317 (sub
 y (0 : Int) (S316 y).fst)).snd.fData.length.le (nat_lit 140737488355328) ∧ ((((0 : Int) ≤ (5 : Int) ∧ (5 : Int) ≤ (↑(nat_lit 19) : Int) ∧ (↑(nat_lit 19) :
 Int) ≤ (↑(nat_lit 19) : Int)) ∧ bif decide ((↑(nat_lit 14) : Int) ≤ IntKind.i64.wrap ((1048576 : Int) - (↑(S62 (sub y (S316 y).fst (↑y.length : Int))).length
 : Int))) then False else bif !decide ((S317 (sub y (0 : Int) (S316 y).fst)).snd.fCode = (0 : Int)) then (S317 (sub y (0 : Int) (S316
 y).fst)).snd.fData.length.le (nat_lit 140737488355328) ∧ false = v else (∀ (x : Int), List.Mem x (S62 (sub y (S316 y).fst (↑y.length : Int))) → (0 : Int) ≤ x
 ∧ x ≤ (255 : Int)) ∧ bif !decide ((S316 (S62 (sub y (S316 y).fst (↑y.length : Int)))).snd.fCode = (0 : Int)) then (S316 (S62 (sub y (S316 y).fst (↑y.length :
 Int)))).snd.fData.length.le (nat_lit 140737488355328) ∧ false = v else bif decide ((S316 (S62 (sub y (S316 y).fst (↑y.length : Int)))).fst = (0 : Int)) ||
 decide ((↑(S62 (sub y (S316 y).fst (↑y.length : Int))).length : Int) < (S316 (S62 (sub y (S316 y).fst (↑y.length : Int)))).fst) then false = v else ((S316
 (S62 (sub y (S316 y).fst (↑y.length : Int)))).fst = (S316 (S62 (sub y (S316 y).fst (↑y.length : Int)))).fst ∧ (0 : Int) ≤ (0 : Int) ∧ (0 : Int) ≤ (S316 (S62
 (sub y (S316 y).fst (↑y.length : Int)))).fst ∧ (S316 (S62 (sub y (S316 y).fst (↑y.length : Int)))).fst ≤ (↑(S62 (sub y (S316 y).fst (↑y.length : Int))).length
 : Int)) ∧ ((∀ (x : Int), List.Mem x (sub (S62 (sub y (S316 y).fst (↑y.length : Int))) (0 : Int) (S316 (S62 (sub y (S316 y).fst (↑y.length : Int)))).fst) → (0
 : Int) ≤ x ∧ x ≤ (255 : Int)) ∧ (sub (S62 (sub y (S316 y).fst (↑y.length : Int))) (0 : Int) (S316 (S62 (sub y (S316 y).fst (↑y.length : Int)))).fst).length ≤
 nat_lit 140737488355328 ∧ ((S316 (sub (S62 (sub y (S316 y).fst (↑y.length : Int))) (0 : Int) (S316 (S62 (sub y (S316 y).fst (↑y.length :
 Int)))).fst)).snd.fCode = (0 : Int) → (S316 (sub (S62 (sub y (S316 y).fst (↑y.length : Int))) (0 : Int) (S316 (S62 (sub y (S316 y).fst (↑y.length :
 Int)))).fst)).fst = (↑(sub (S62 (sub y (S316 y).fst (↑y.length : Int))) (0 : Int) (S316 (S62 (sub y (S316 y).fst (↑y.length : Int)))).fst).length : Int) →
 (sub (S62 (sub y (S316 y).fst (↑y.length : Int))) (0 : Int) (S316 (S62 (sub y (S316 y).fst (↑y.length : Int)))).fst).length ≠ nat_lit 0 → (3 : Int) ≤ k18 (sub
 (S62 (sub y (S316 y).fst (↑y.length : Int))) (0 : Int) (S316 (S62 (sub y (S316 y).fst (↑y.length : Int)))).fst))) ∧ ((0 : Int) ≤ (S316 (S62 (sub y (S316
 y).fst (↑y.length : Int)))).fst ∧ (S316 (S62 (sub y (S316 y).fst (↑y.length : Int)))).fst ≤ (↑(S62 (sub y (S316 y).fst (↑y.length : Int))).length : Int) ∧
 (↑(S62 (sub y (S316 y).fst (↑y.length : Int))).length : Int) ≤ (↑(S62 (sub y (S316 y).fst (↑y.length : Int))).length : Int)) ∧ ((sub (S62 (sub y (S316 y).fst
 (↑y.length : Int))) (S316 (S62 (sub y (S316 y).fst (↑y.length : Int)))).fst (↑(S62 (sub y (S316 y).fst (↑y.length : Int))).length : Int)).length.le (nat_lit
 140737488355328) ∧ (((((S317 (sub (S62 (sub y (S316 y).fst (↑y.length : Int))) (0 : Int) (S316 (S62 (sub y (S316 y).fst (↑y.length :
 Int)))).fst)).snd.fData.length.le (nat_lit 140737488355328) ∧ (false = v ∧ True) ∧ True) ∧ True) ∧ True) ∧ True) ∧ ((((S317 (sub (S62 (sub y (S316 y).fst
 (↑y.length : Int))) (0 : Int) (S316 (S62 (sub y (S316 y).fst (↑y.length : Int)))).fst)).snd.fData.length.le (nat_lit 140737488355328) ∧ (false = v ∧ True) ∧
 True) ∧ True) ∧ True) ∧ True) ∧ (((sub (S62 (sub y (S316 y).fst (↑y.length : Int))) (S316 (S62 (sub y (S316 y).fst (↑y.length : Int)))).fst (↑(S62 (sub y
 (S316 y).fst (↑y.length : Int))).length : Int)).length.le (nat_lit 140737488355328) ∧ ((((S317 (sub (S62 (sub y (S316 y).fst (↑y.length : Int))) (0 : Int)
 (S316 (S62 (sub y (S316 y).fst (↑y.length : Int)))).fst)).snd.fData.length.le (nat_lit 140737488355328) ∧ (false = v ∧ True) ∧ True) ∧ True) ∧ True) ∧ True) ∧
 True) ∧ True) ∧ True) ∧ True) ∧ True) ∧ True) ∧ True) ∧ True) ∧ True) := by kernel_rfl
end Go.Rx
namespace Go.Rx
open Go.Ab Go.L10
set_option maxRecDepth 100000
set_option maxHeartbeats 20000000
set_option linter.unusedVariables false
/-- interregnum/interregnumlaw10.StreamJunk -/
noncomputable def C305 : Cfg S := { P := P7, inl := [], K := [(18, ctr P7 [22] [22] (fun x0 => (some (P62 x0), S62 x0))), (16, ctr P7 [22] [3, 40] (fun x0 => (some (P316 x0), S316 x0))), (17, ctr P7 [22] [42, 40] (fun x0 => (some (P317 x0), S317 x0))), (15, ctr P7 [40] [40] (fun x0 => (some (P315 x0), S315 x0))), (6, ctr P7 [] [4] (none, S306))], ann := [(10, [(12, .hyb [(0, ([], [10])), (1, ([], [13])), (2, ([], [3])), (3, ([2], [4])), (4, ([3], [5])), (5, ([4], [7, 12, 15])), (6, ([], [7])), (7, ([5, 6], [8])), (9, ([12], [15])), (10, ([0], [11])), (11, ([10], [12])), (13, ([1], [14])), (14, ([13], [15]))] (.one 0 (.one 1 (.one 2 (.one 3 (.one 4 (.one 5 (.one 6 (.one 7 (.alt 8 (.one 10 (.one 11 (.alt 9 (.alt 12 (.one 13 (.one 14 (.alt 15 .done .done))) .done) (.alt 12 (.one 9 (.one 13 (.one 14 (.alt 15 .done .done)))) .done)))) (.alt 9 (.alt 8 (.one 10 (.one 11 (.alt 12 (.one 13 (.one 14 (.alt 15 .done .done))) .done))) .done) .done))))))))))), (13, .hyb [(0, ([], [3, 4])), (1, ([], [2, 3, 4])), (5, ([], []))] (.one 0 (.one 1 (.alt 2 (.alt 3 (.alt 4 (.one 5 .done) .done) .done) .done))))])] }
abbrev W305 : CT S [4] [22, 22] := (fun x0 x1 => (some (P305 x0 x1), S305 x0 x1))
abbrev Ok305 : Prop := ConOk P7 5 (ctr P7 [22, 22] [4] W305) ∧ ConMon (ctr P7 [22, 22] [4] W305)
theorem q305 (x0 : List Int) (x1 : List Int) (v : HR S [4]) : (Xf C305 6 (emp 0) 5 (argsA C305 [⟨22, x0⟩, ⟨22, x1⟩]) (emp 0) (fun r _ => isR C305.P [4] v r)
 (fun _ _ => False)) = (((decide ((↑x0.length : Int) < (19 : Int)) || decide ((1000 : Int) < (↑x0.length : Int)) || decide ((1000 : Int) < (↑x1.length : Int)))
 = false → (0 : Int) ≤ (0 : Int) ∧ (0 : Int) < (↑x0.length : Int)) ∧ bif decide ((↑x0.length : Int) < (19 : Int)) || decide ((1000 : Int) < (↑x0.length : Int))
 || decide ((1000 : Int) < (↑x1.length : Int)) || decide (ix x0 (0 : Int) = (255 : Int)) then true = v else bif decide ((↑x0.length : Int) ≤ IntKind.i64.wrap
 ((1048576 : Int) - (↑(nat_lit 0) : Int))) then x0.length * nat_lit 1 ≤ nat_lit 140737488355328 ∧ ∀ (y : List (Int)), y = x0 → (∀ (x : Int), List.Mem x y → (0
 : Int) ≤ x ∧ x ≤ (255 : Int)) ∧ bif !decide ((S316 y).snd.fCode = (0 : Int)) then (S316 y).snd.fData.length.le (nat_lit 140737488355328) ∧ bif decide
 ((↑x1.length : Int) ≤ IntKind.i64.wrap ((1048576 : Int) - (↑y.length : Int))) then (y.length = y.length ∧ (y.length + x1.length) * nat_lit 1 ≤ nat_lit
 140737488355328) ∧ ∀ (y_1 : List (Int)), y_1 = y ++ x1 → bif !decide ((S316 y).snd.fCode = (0 : Int)) then (S316 y).snd.fData.length.le (nat_lit
 140737488355328) ∧ bif decide ((S316 y).snd.fCode = (1 : Int)) && decide ((S316 y).snd.fSub = (1 : Int)) && decide ((S316 y).snd.fCode = (1 : Int)) && decide
 ((S316 y).snd.fSub = (1 : Int)) && true then decide ((↑y_1.length : Int) = IntKind.i64.wrap ((↑x0.length : Int) + (↑x1.length : Int))) = v else false = v else
 (∀ (x : Int), List.Mem x y_1 → (0 : Int) ≤ x ∧ x ≤ (255 : Int)) ∧ bif !decide ((S316 y_1).snd.fCode = (0 : Int)) then (S316 y_1).snd.fData.length.le (nat_lit
 140737488355328) ∧ bif decide ((S316 y).snd.fCode = (1 : Int)) && decide ((S316 y).snd.fSub = (1 : Int)) && decide ((S316 y_1).snd.fCode = (1 : Int)) &&
 decide ((S316 y_1).snd.fSub = (1 : Int)) && true then decide ((↑y_1.length : Int) = IntKind.i64.wrap ((↑x0.length : Int) + (↑x1.length : Int))) = v else false
 = v else bif decide ((S316 y_1).fst = (0 : Int)) || decide ((↑y_1.length : Int) < (S316 y_1).fst) then false = v else ((S316 y_1).fst = (S316 y_1).fst ∧ (0 :
 Int) ≤ (0 : Int) ∧ (0 : Int) ≤ (S316 y_1).fst ∧ (S316 y_1).fst ≤ (↑y_1.length : Int)) ∧ ((∀ (x : Int), List.Mem x (sub y_1 (0 : Int) (S316 y_1).fst) → (0 :
 Int) ≤ x ∧ x ≤ (255 : Int)) ∧ (sub y_1 (0 : Int) (S316 y_1).fst).length ≤ nat_lit 140737488355328 ∧ ((S316 (sub y_1 (0 : Int) (S316 y_1).fst)).snd.fCode = (0
 : Int) → (S316 (sub y_1 (0 : Int) (S316 y_1).fst)).fst = (↑(sub y_1 (0 : Int) (S316 y_1).fst).length : Int) → (sub y_1 (0 : Int) (S316 y_1).fst).length ≠
 nat_lit 0 → (3 : Int) ≤ k18 (sub y_1 (0 : Int) (S316 y_1).fst))) ∧ ((0 : Int) ≤ (S316 y_1).fst ∧ (S316 y_1).fst ≤ (↑y_1.length : Int) ∧ (↑y_1.length : Int) ≤
 (↑y_1.length : Int)) ∧ ((sub y_1 (S316 y_1).fst (↑y_1.length : Int)).length.le (nat_lit 140737488355328) ∧ (((((S317 (sub y_1 (0 : Int) (S316
 y_1).fst)).snd.fData.length.le (nat_lit 140737488355328) ∧ ((bif decide ((S316 y).snd.fCode = (1 : Int)) && decide ((S316 y).snd.fSub = (1 : Int)) && decide
 ((S317 (sub y_1 (0 : Int) (S316 y_1).fst)).snd.fCode = (1 : Int)) && decide ((S317 (sub y_1 (0 : Int) (S316 y_1).fst)).snd.fSub = (1 : Int)) && decide
 (IntKind.i64.wrap ((0 : Int) + (S317 (sub y_1 (0 : Int) (S316 y_1).fst)).fst.fKind) = (0 : Int)) then decide ((↑(S62 (sub y_1 (S316 y_1).fst (↑y_1.length :
 Int))).length : Int) = IntKind.i64.wrap ((↑x0.length : Int) + (↑x1.length : Int))) = v else false = v) ∧ True) ∧ True) ∧ True) ∧ True) ∧ True) ∧ ((((S317 (sub
 y_1 (0 : Int) (S316 y_1).fst)).snd.fData.length.le (nat_lit 140737488355328) ∧ ((bif decide ((S316 y).snd.fCode = (1 : Int)) && decide ((S316 y).snd.fSub = (1
 : Int)) && decide ((S317 (sub y_1 (0 : Int) (S316 y_1).fst)).snd.fCode = (1 : Int)) && decide ((S317 (sub y_1 (0 : Int) (S316 y_1).fst)).snd.fSub = (1 : Int))
 && decide (IntKind.i64.wrap ((0 : Int) + (S317 (sub y_1 (0 : Int) (S316 y_1).fst)).fst.fKind) = (0 : Int)) then decide ((↑(S62 (sub y_1 (S316 y_1).fst
 (↑y_1.length : Int))).length : Int) = IntKind.i64.wrap ((↑x0.length : Int) + (↑x1.length : Int))) = v else false = v) ∧ True) ∧ True) ∧ True) ∧ True) ∧ True)
 ∧ (((sub y_1 (S316 y_1).fst (↑y_1.length : Int)).length.le (nat_lit 140737488355328) ∧ ((((S317 (sub y_1 (0 : Int) (S316 y_1).fst)).snd.fData.length.le
 (nat_lit 140737488355328) ∧ ((bif decide ((S316 y).snd.fCode = (1 : Int)) && decide ((S316 y).snd.fSub = (1 : Int)) && decide ((S317 (sub y_1 (0 : Int) (S316
 y_1).fst)).snd.fCode = (1 : Int)) && decide ((S317 (sub y_1 (0 : Int) (S316 y_1).fst)).snd.fSub = (1 : Int)) && decide (IntKind.i64.wrap ((0 : Int) + (S317
 (sub y_1 (0 : Int) (S316 y_1).fst)).fst.fKind) = (0 : Int)) then decide ((↑(S62 (sub y_1 (S316 y_1).fst (↑y_1.length : Int))).length : Int) = IntKind.i64.wrap
 ((↑x0.length : Int) + (↑x1.length : Int))) = v else false = v) ∧ True) ∧ True) ∧ True) ∧ True) ∧ True) ∧ True) ∧ True else bif !decide ((S316 y).snd.fCode =
 (0 : Int)) then (S316 y).snd.fData.length.le (nat_lit 140737488355328) ∧ bif decide ((S316 y).snd.fCode = (1 : Int)) && decide ((S316 y).snd.fSub = (1 : Int))
 && decide ((S316 y).snd.fCode = (1 : Int)) && decide ((S316 y).snd.fSub = (1 : Int)) && true then decide ((↑y.length : Int) = IntKind.i64.wrap ((↑x0.length :
 Int) + (↑x1.length : Int))) = v else false = v else (∀ (x : Int), List.Mem x y → (0 : Int) ≤ x ∧ x ≤ (255 : Int)) ∧ bif !decide ((S316 y).snd.fCode = (0 :
 Int)) then (S316 y).snd.fData.length.le (nat_lit 140737488355328) ∧ bif decide ((S316 y).snd.fCode = (1 : Int)) && decide ((S316 y).snd.fSub = (1 : Int)) &&
 decide ((S316 y).snd.fCode = (1 : Int)) && decide ((S316 y).snd.fSub = (1 : Int)) && true then decide ((↑y.length : Int) = IntKind.i64.wrap ((↑x0.length :
 Int) + (↑x1.length : Int))) = v else false = v else bif decide ((S316 y).fst = (0 : Int)) || decide ((↑y.length : Int) < (S316 y).fst) then false = v else
 ((S316 y).fst = (S316 y).fst ∧ (0 : Int) ≤ (0 : Int) ∧ (0 : Int) ≤ (S316 y).fst ∧ (S316 y).fst ≤ (↑y.length : Int)) ∧ ((∀ (x : Int), List.Mem x (sub y (0 :
 Int) (S316 y).fst) → (0 : Int) ≤ x ∧ x ≤ (255 : Int)) ∧ (sub y (0 : Int) (S316 y).fst).length ≤ nat_lit 140737488355328 ∧ ((S316 (sub y (0 : Int) (S316
 y).fst)).snd.fCode = (0 : Int) → (S316 (sub y (0 : Int) (S316 y).fst)).fst = (↑(sub y (0 : Int) (S316 y).fst).length : Int) → (sub y (0 : Int) (S316
 y).fst).length ≠ nat_lit 0 → (3 : Int) ≤ k18 (sub y (0 : Int) (S316 y).fst))) ∧ ((0 : Int) ≤ (S316 y).fst ∧ (S316 y).fst ≤ (↑y.length : Int) ∧ (↑y.length :
 Int) ≤ (↑y.length : Int)) ∧ ((sub y (S316 y).fst (↑y.length : Int)).length.le (nat_lit 140737488355328) ∧ (((((S317 (sub y (0 : Int) (S316
 y).fst)).snd.fData.length.le (nat_lit 140737488355328) ∧ ((bif decide ((S316 y).snd.fCode = (1 : Int)) && decide ((S316 y).snd.fSub = (1 : Int)) && decide
 ((S317 (sub y (0 : Int) (S316 y).fst)).snd.fCode = (1 : Int)) && decide ((S317 (sub y (0 : Int) (S316 y).fst)).snd.fSub = (1 : Int)) && decide
 (IntKind.i64.wrap ((0 : Int) + (S317 (sub y (0 : Int) (S316 y).fst)).fst.fKind) = (0 : Int)) then decide ((↑(S62 (sub y (S316 y).fst (↑y.length :
 Int))).length : Int) = IntKind.i64.wrap ((↑x0.length : Int) + (↑x1.length : Int))) = v else false = v) ∧ True) ∧ True) ∧ True) ∧ True) ∧ True) ∧ ((((S317 (sub
 y (0 : Int) (S316 y).fst)).snd.fData.length.le (nat_lit 140737488355328) ∧ ((bif decide ((S316 y).snd.fCode = (1 : Int)) && decide ((S316 y).snd.fSub = (1 :
 Int)) && decide ((S317 (sub y (0 : Int) (S316 y).fst)).snd.fCode = (1 : Int)) && decide ((S317 (sub y (0 : Int) (S316 y).fst)).snd.fSub = (1 : Int)) && decide
 (IntKind.i64.wrap ((0 : Int) + (S317 (sub y (0 : Int) (S316 y).fst)).fst.fKind) = (0 : Int)) then decide ((↑(S62 (sub y (S316 y).fst (↑y.length :
 Int))).length : Int) = IntKind.i64.wrap ((↑x0.length : Int) + (↑x1.length : Int))) = v else false = v) ∧ True) ∧ True) ∧ True) ∧ True) ∧ True) ∧ (((sub y
 (S316 y).fst (↑y.length : Int)).length.le (nat_lit 140737488355328) ∧ ((((S317 (sub y (0 : Int) (S316 y).fst)).snd.fData.length.le (nat_lit 140737488355328) ∧
 ((bif decide ((S316 y).snd.fCode = (1 : Int)) && decide ((S316 y).snd.fSub = (1 : Int)) && decide ((S317 (sub y (0 : Int) (S316 y).fst)).snd.fCode = (1 :
 Int)) && decide ((S317 (sub y (0 : Int) (S316 y).fst)).snd.fSub = (1 : Int)) && decide (IntKind.i64.wrap ((0 : Int) + (S317 (sub y (0 : Int) (S316
 y).fst)).fst.fKind) = (0 : Int)) then decide ((↑(S62 (sub y (S316 y).fst (↑y.length : Int))).length : Int) = IntKind.i64.wrap ((↑x0.length : Int) +
 (↑x1.length : Int))) = v else false = v) ∧ True) ∧ True) ∧ True) ∧ True) ∧ True) ∧ True) ∧ True else bif decide ((S316 y).fst = (0 : Int)) || decide
 ((↑y.length : Int) < (S316 y).fst) then bif decide ((↑x1.length : Int) ≤ IntKind.i64.wrap ((1048576 : Int) - (↑y.length : Int))) then (y.length = y.length ∧
 (y.length + x1.length) * nat_lit 1 ≤ nat_lit 140737488355328) ∧ ∀ (y_1 : List (Int)), y_1 = y ++ x1 → (∀ (x : Int), List.Mem x y_1 → (0 : Int) ≤ x ∧ x ≤ (255
 : Int)) ∧ bif !decide ((S316 y_1).snd.fCode = (0 : Int)) then (S316 y_1).snd.fData.length.le (nat_lit 140737488355328) ∧ false = v else bif decide ((S316
 y_1).fst = (0 : Int)) || decide ((↑y_1.length : Int) < (S316 y_1).fst) then false = v else ((S316 y_1).fst = (S316 y_1).fst ∧ (0 : Int) ≤ (0 : Int) ∧ (0 :
 Int) ≤ (S316 y_1).fst ∧ (S316 y_1).fst ≤ (↑y_1.length : Int)) ∧ ((∀ (x : Int), List.Mem x (sub y_1 (0 : Int) (S316 y_1).fst) → (0 : Int) ≤ x ∧ x ≤ (255 :
 Int)) ∧ (sub y_1 (0 : Int) (S316 y_1).fst).length ≤ nat_lit 140737488355328 ∧ ((S316 (sub y_1 (0 : Int) (S316 y_1).fst)).snd.fCode = (0 : Int) → (S316 (sub
 y_1 (0 : Int) (S316 y_1).fst)).fst = (↑(sub y_1 (0 : Int) (S316 y_1).fst).length : Int) → (sub y_1 (0 : Int) (S316 y_1).fst).length ≠ nat_lit 0 → (3 : Int) ≤
 k18 (sub y_1 (0 : Int) (S316 y_1).fst))) ∧ ((0 : Int) ≤ (S316 y_1).fst ∧ (S316 y_1).fst ≤ (↑y_1.length : Int) ∧ (↑y_1.length : Int) ≤ (↑y_1.length : Int)) ∧
 ((sub y_1 (S316 y_1).fst (↑y_1.length : Int)).length.le (nat_lit 140737488355328) ∧ (((((S317 (sub y_1 (0 : Int) (S316 y_1).fst)).snd.fData.length.le (nat_lit
 140737488355328) ∧ (false = v ∧ True) ∧ True) ∧ True) ∧ True) ∧ True) ∧ ((((S317 (sub y_1 (0 : Int) (S316 y_1).fst)).snd.fData.length.le (nat_lit
 140737488355328) ∧ (false = v ∧ True) ∧ True) ∧ True) ∧ True) ∧ True) ∧ (((sub y_1 (S316 y_1).fst (↑y_1.length : Int)).length.le (nat_lit 140737488355328) ∧
 ((((S317 (sub y_1 (0 : Int) (S316 y_1).fst)).snd.fData.length.le (nat_lit 140737488355328) ∧ (false = v ∧ True) ∧ True) ∧ True) ∧ True) ∧ True) ∧ True) ∧ True
 else (∀ (x : Int), List.Mem x y → (0 : Int) ≤ x ∧ x ≤ (255 : Int)) ∧ bif !decide ((S316 y).snd.fCode = (0 : Int)) then (S316 y).snd.fData.length.le (nat_lit
 140737488355328) ∧ false = v else bif decide ((S316 y).fst = (0 : Int)) || decide ((↑y.length : Int) < (S316 y).fst) then false = v else ((S316 y).fst = (S316
 y).fst ∧ (0 : Int) ≤ (0 : Int) ∧ (0 : Int) ≤ (S316 y).fst ∧ (S316 y).fst ≤ (↑y.length : Int)) ∧ ((∀ (x : Int), List.Mem x (sub y (0 : Int) (S316 y).fst) → (0
 : Int) ≤ x ∧ x ≤ (255 : Int)) ∧ (sub y (0 : Int) (S316 y).fst).length ≤ nat_lit 140737488355328 ∧ ((S316 (sub y (0 : Int) (S316 y).fst)).snd.fCode = (0 : Int)
 → (S316 (sub y (0 : Int) (S316 y).fst)).fst = (↑(sub y (0 : Int) (S316 y).fst).length : Int) → (sub y (0 : Int) (S316 y).fst).length ≠ nat_lit 0 → (3 : Int) ≤
 k18 (sub y (0 : Int) (S316 y).fst))) ∧ ((0 : Int) ≤ (S316 y).fst ∧ (S316 y).fst ≤ (↑y.length : Int) ∧ (↑y.length : Int) ≤ (↑y.length : Int)) ∧ ((sub y (S316
 y).fst (↑y.length : Int)).length.le (nat_lit 140737488355328) ∧ (((((S317 (sub y (0 : Int) (S316 y).fst)).snd.fData.length.le (nat_lit 140737488355328) ∧
 (false = v ∧ True) ∧ True) ∧ True) ∧ True) ∧ True) ∧ ((((S317 (sub y (0 : Int) (S316 y).fst)).snd.fData.length.le (nat_lit 140737488355328) ∧ (false = v ∧
 True) ∧ True) ∧ True) ∧ True) ∧ True) ∧ (((sub y (S316 y).fst (↑y.length : Int)).length.le (nat_lit 140737488355328) ∧ ((((S317 (sub y (0 : Int) (S316
 y).fst)).snd.fData.length.le (nat_lit 140737488355328) ∧ (false = v ∧ True) ∧ True) ∧ True) ∧ True) ∧ True) ∧ True) ∧ True else ((S316 y).fst = (S316 y).fst ∧
 (0 : Int) ≤ (0 : Int) ∧ (0 : Int) ≤ (S316 y).fst ∧ (S316 y).fst ≤ (↑y.length : Int)) ∧ ((∀ (x : Int), List.Mem x (sub y (0 : Int) (S316 y).fst) → (0 : Int) ≤
 x ∧ x ≤ (255 : Int)) ∧ (sub y (0 : Int) (S316 y).fst).length ≤ nat_lit 140737488355328 ∧ ((S316 (sub y (0 : Int) (S316 y).fst)).snd.fCode = (0 : Int) → (S316
 (sub y (0 : Int) (S316 y).fst)).fst = (↑(sub y (0 : Int) (S316 y).fst).length : Int) → (sub y (0 : Int) (S316 y).fst).length ≠ nat_lit 0 → (3 : Int) ≤ k18
 (sub y (0 : Int) (S316 y).fst))) ∧ ((0 : Int) ≤ (S316 y).fst ∧ (S316 y).fst ≤ (↑y.length : Int) ∧ (↑y.length : Int) ≤ (↑y.length : Int)) ∧ ((sub y (S316
 y).fst (↑y.length : Int)).length.le (nat_lit 140737488355328) ∧ (((((S317 (sub y (0 : Int) (S316 y).fst)).snd.fData.length.le (nat_lit 140737488355328) ∧
 ((bif decide ((↑x1.length : Int) ≤ IntKind.i64.wrap ((1048576 : Int) - (↑(S62 (sub y (S316 y).fst (↑y.length : Int))).length : Int))) then False else bif
 !decide ((S317 (sub y (0 : Int) (S316 y).fst)).snd.fCode = (0 : Int)) then (S317 (sub y (0 : Int) (S316 y).fst)).snd.fData.length.le (nat_lit 140737488355328)
 ∧ bif decide ((S317 (sub y (0 : Int) (S316 y).fst)).snd.fCode = (1 : Int)) && decide ((S317 (sub y (0 : Int) (S316 y).fst)).snd.fSub = (1 : Int)) && decide
 ((S317 (sub y (0 : Int) (S316 y).fst)).snd.fCode = (1 : Int)) && decide ((S317 (sub y (0 : Int) (S316 y).fst)).snd.fSub = (1 : Int)) && decide
 (IntKind.i64.wrap ((S317 (sub y (0 : Int) (S316 y).fst)).fst.fKind + (0 : Int)) = (0 : Int)) then decide ((↑(S62 (sub y (S316 y).fst (↑y.length :
 Int))).length : Int) = IntKind.i64.wrap ((↑x0.length : Int) + (↑x1.length : Int))) = v else false = v else (∀ (x : Int), List.Mem x (S62 (sub y (S316 y).fst
 (↑y.length : Int))) → (0 : Int) ≤ x ∧ x ≤ (255 : Int)) ∧ bif !decide ((S316 (S62 (sub y (S316 y).fst (↑y.length : Int)))).snd.fCode = (0 : Int)) then (S316
 (S62 (sub y (S316 y).fst (↑y.length : Int)))).snd.fData.length.le (nat_lit 140737488355328) ∧ bif decide ((S317 (sub y (0 : Int) (S316 y).fst)).snd.fCode = (1
 : Int)) && decide ((S317 (sub y (0 : Int) (S316 y).fst)).snd.fSub = (1 : Int)) && decide ((S316 (S62 (sub y (S316 y).fst (↑y.length : Int)))).snd.fCode = (1 :
 Int)) && decide ((S316 (S62 (sub y (S316 y).fst (↑y.length : Int)))).snd.fSub = (1 : Int)) && decide (IntKind.i64.wrap ((S317 (sub y (0 : Int) (S316
 y).fst)).fst.fKind + (0 : Int)) = (0 : Int)) then decide ((↑(S62 (sub y (S316 y).fst (↑y.length : Int))).length : Int) = IntKind.i64.wrap ((↑x0.length : Int)
 + (↑x1.length : Int))) = v else false = v else bif decide ((S316 (S62 (sub y (S316 y).fst (↑y.length : Int)))).fst = (0 : Int)) || decide ((↑(S62 (sub y (S316
 y).fst (↑y.length : Int))).length : Int) < (S316 (S62 (sub y (S316 y).fst (↑y.length : Int)))).fst) then false = v else ((S316 (S62 (sub y (S316 y).fst
 (↑y.length : Int)))).fst = (S316 (S62 (sub y (S316 y).fst (↑y.length : Int)))).fst ∧ (0 : Int) ≤ (0 : Int) ∧ (0 : Int) ≤ (S316 (S62 (sub y (S316 y).fst
 (↑y.length : Int)))).fst ∧ (S316 (S62 (sub y (S316 y).fst (↑y.length : Int)))).fst ≤ (↑(S62 (sub y (S316 y).fst (↑y.length : Int))).length : Int)) ∧ ((∀ (x :
 Int), List.Mem x (sub (S62 (sub y (S316 y).fst (↑y.length : Int))) (0 : Int) (S316 (S62 (sub y (S316 y).fst (↑y.length : Int)))).fst) → (0 : Int) ≤ x ∧ x ≤
 (255 : Int)) ∧ (sub (S62 (sub y (S316 y).fst (↑y.length : Int))) (0 : Int) (S316 (S62 (sub y (S316 y).fst (↑y.length : Int)))).fst).length ≤ nat_lit
 140737488355328 ∧ ((S316 (sub (S62 (sub y (S316 y).fst (↑y.length : Int))) (0 : Int) (S316 (S62 (sub y (S316 y).fst (↑y.length : Int)))).fst)).snd.fCode = (0
 : Int) → (S316 (sub (S62 (sub y (S316 y).fst (↑y.length : Int))) (0 : Int) (S316 (S62 (sub y (S316 y).fst (↑y.length : Int)))).fst)).fst = (↑(sub (S62 (sub y
 (S316 y).fst (↑y.length : Int))) (0 : Int) (S316 (S62 (sub y (S316 y).fst (↑y.length : Int)))).fst).length : Int) → (sub (S62 (sub y (S316 y).fst (↑y.length :
 Int))) (0 : Int) (S316 (S62 (sub y (S316 y).fst (↑y.length : Int)))).fst).length ≠ nat_lit 0 → (3 : Int) ≤ k18 (sub (S62 (sub y (S316 y).fst (↑y.length :
 Int))) (0 : Int) (S316 (S62 (sub y (S316 y).fst (↑y.length : Int)))).fst))) ∧ ((0 : Int) ≤ (S316 (S62 (sub y (S316 y).fst (↑y.length : Int)))).fst ∧ (S316
 (S62 (sub y (S316 y).fst (↑y.length : Int)))).fst ≤ (↑(S62 (sub y (S316 y).fst (↑y.length : Int))).length : Int) ∧ (↑(S62 (sub y (S316 y).fst (↑y.length :
 Int))).length : Int) ≤ (↑(S62 (sub y (S316 y).fst (↑y.length : Int))).length : Int)) ∧ ((sub (S62 (sub y (S316 y).fst (↑y.length : Int))) (S316 (S62 (sub y
 (S316 y).fst (↑y.length : Int)))).fst (↑(S62 (sub y (S316 y).fst (↑y.length : Int))).length : Int)).length.le (nat_lit 140737488355328) ∧ (((((S317 (sub (S62
 (sub y (S316 y).fst (↑y.length : Int))) (0 : Int) (S316 (S62 (sub y (S316 y).fst (↑y.length : Int)))).fst)).snd.fData.length.le (nat_lit 140737488355328) ∧
 ((bif decide ((S317 (sub y (0 : Int) (S316 y).fst)).snd.fCode = (1 : Int)) && decide ((S317 (sub y (0 : Int) (S316 y).fst)).snd.fSub = (1 : Int)) && decide
 ((S317 (sub (S62 (sub y (S316 y).fst (↑y.length : Int))) (0 : Int) (S316 (S62 (sub y (S316 y).fst (↑y.length : Int)))).fst)).snd.fCode = (1 : Int)) && decide
 ((S317 (sub (S62 (sub y (S316 y).fst (↑y.length : Int))) (0 : Int) (S316 (S62 (sub y (S316 y).fst (↑y.length : Int)))).fst)).snd.fSub = (1 : Int)) && decide
 (IntKind.i64.wrap ((S317 (sub y (0 : Int) (S316 y).fst)).fst.fKind + (S317 (sub (S62 (sub y (S316 y).fst (↑y.length : Int))) (0 : Int) (S316 (S62 (sub y (S316
 y).fst (↑y.length : Int)))).fst)).fst.fKind) = (0 : Int)) then decide ((↑(S62 (sub (S62 (sub y (S316 y).fst (↑y.length : Int))) (S316 (S62 (sub y (S316 y).fst
 (↑y.length : Int)))).fst (↑(S62 (sub y (S316 y).fst (↑y.length : Int))).length : Int))).length : Int) = IntKind.i64.wrap ((↑x0.length : Int) + (↑x1.length :
 Int))) = v else false = v) ∧ True) ∧ True) ∧ True) ∧ True) ∧ True) ∧ ((((S317 (sub (S62 (sub y (S316 y).fst (↑y.length : Int))) (0 : Int) (S316 (S62 (sub y
 (S316 y).fst (↑y.length : Int)))).fst)).snd.fData.length.le (nat_lit 140737488355328) ∧ ((bif decide ((S317 (sub y (0 : Int) (S316 y).fst)).snd.fCode = (1 :
 Int)) && decide ((S317 (sub y (0 : Int) (S316 y).fst)).snd.fSub = (1 : Int)) && decide ((S317 (sub (S62 (sub y (S316 y).fst (↑y.length : Int))) (0 : Int)
 (S316 (S62 (sub y (S316 y).fst (↑y.length : Int)))).fst)).snd.fCode = (1 : Int)) && decide ((S317 (sub (S62 (sub y (S316 y).fst (↑y.length : Int))) (0 : Int)
 (S316 (S62 (sub y (S316 y).fst (↑y.length : Int)))).fst)).snd.fSub = (1 : Int)) && decide (IntKind.i64.wrap ((S317 (sub y (0 : Int) (S316 y).fst)).fst.fKind +
 (S317 (sub (S62 (sub y (S316 y).fst (↑y.length : Int))) (0 : Int) (S316 (S62 (sub y (S316 y).fst (↑y.length : Int)))).fst)).fst.fKind) = (0 : Int)) then
 decide ((↑(S62 (sub (S62 (sub y (S316 y).fst (↑y.length : Int))) (S316 (S62 (sub y (S316 y).fst (↑y.length : Int)))).fst (↑(S62 (sub y (S316 y).fst (↑y.length
 : Int))).length : Int))).length : Int) = IntKind.i64.wrap ((↑x0.length : Int) + (↑x1.length : Int))) = v else false = v) ∧ True) ∧ True) ∧ True) ∧ True) ∧
 True) ∧ (((sub (S62 (sub y (S316 y).fst (↑y.length : Int))) (S316 (S62 (sub y (S316 y).fst (↑y.length : Int)))).fst (↑(S62 (sub y (S316 y).fst (↑y.length :
 Int))).length : Int)).length.le (nat_lit 140737488355328) ∧ ((((S317 (sub (S62 (sub y (S316 y).fst (↑y.length : Int))) (0 : Int) (S316 (S62 (sub y (S316
 y).fst (↑y.length : Int)))).fst)).snd.fData.length.le (nat_lit 140737488355328) ∧ ((bif decide ((S317 (sub y (0 : Int) (S316 y).fst)).snd.fCode = (1 : Int))
 && decide ((S317 (sub y (0 : Int) (S316 y).fst)).snd.fSub = (1 : Int)) && decide ((S317 (sub (S62 (sub y (S316 y).fst (↑y.length : Int))) (0 : Int) (S316 (S62
 (sub y (S316 y).fst (↑y.length : Int)))).fst)).snd.fCode = (1 : Int)) && decide ((S317 (sub (S62 (sub y (S316 y).fst (↑y.length : Int))) (0 : Int) (S316 (S62
 (sub y (S316 y).fst (↑y.length : Int)))).fst)).snd.fSub = (1 : Int)) && decide (IntKind.i64.wrap ((S317 (sub y (0 : Int) (S316 y).fst)).fst.fKind + (S317 (sub
 (S62 (sub y (S316 y).fst (↑y.length : Int))) (0 : Int) (S316 (S62 (sub y (S316 y).fst (↑y.length : Int)))).fst)).fst.fKind) = (0 : Int)) then decide ((↑(S62
 (sub (S62 (sub y (S316 y).fst (↑y.length : Int))) (S316 (S62 (sub y (S316 y).fst (↑y.length : Int)))).fst (↑(S62 (sub y (S316 y).fst (↑y.length :
 Int))).length : Int))).length : Int) = IntKind.i64.wrap ((↑x0.length : Int) + (↑x1.length : Int))) = v else false = v) ∧ True) ∧ True) ∧ True) ∧ True) ∧ True)
 ∧ True) ∧ True) ∧ True) ∧ True) ∧ True) ∧ True) ∧ True) ∧ ((((S317 (sub y (0 : Int) (S316 y).fst)).snd.fData.length.le (nat_lit 140737488355328) ∧ ((bif
 decide ((↑x1.length : Int) ≤ IntKind.i64.wrap ((1048576 : Int) - (↑(S62 (sub y (S316 y).fst (↑y.length : Int))).length : Int))) then False else bif !decide
 ((S317 (sub y (0 : Int) (S316 y).fst)).snd.fCode = (0 : Int)) then (S317 (sub y (0 : Int) (S316 y).fst)).snd.fData.length.le (nat_lit 140737488355328) ∧ bif
 decide ((S317 (sub y (0 : Int) (S316 y).fst)).snd.fCode = (1 : Int)) && decide ((S317 (sub y (0 : Int) (S316 y).fst)).snd.fSub = (1 : Int)) && decide ((S317
 (sub y (0 : Int) (S316 y).fst)).snd.fCode = (1 : Int)) && decide ((S317 (sub y (0 : Int) (S316 y).fst)).snd.fSub = (1 : Int)) && decide (IntKind.i64.wrap
 ((S317 (sub y (0 : Int) (S316 y).fst)).fst.fKind + (0 : Int)) = (0 : Int)) then decide ((↑(S62 (sub y (S316 y).fst (↑y.length : Int))).length : Int) =
 IntKind.i64.wrap ((↑x0.length : Int) + (↑x1.length : Int))) = v else false = v else (∀ (x : Int), List.Mem x (S62 (sub y (S316 y).fst (↑y.length : Int))) → (0
 : Int) ≤ x ∧ x ≤ (255 : Int)) ∧ bif !decide ((S316 (S62 (sub y (S316 y).fst (↑y.length : Int)))).snd.fCode = (0 : Int)) then (S316 (S62 (sub y (S316 y).fst
 (↑y.length : Int)))).snd.fData.length.le (nat_lit 140737488355328) ∧ bif decide ((S317 (sub y (0 : Int) (S316 y).fst)).snd.fCode = (1 : Int)) && decide ((S317
 (sub y (0 : Int) (S316 y).fst)).snd.fSub = (1 : Int)) && decide ((S316 (S62 (sub y (S316 y).fst (↑y.length : Int)))).snd.fCode = (1 : Int)) && decide ((S316
 (S62 (sub y (S316 y).fst (↑y.length : Int)))).snd.fSub = (1 : Int)) && decide (IntKind.i64.wrap ((S317 (sub y (0 : Int) (S316 y).fst)).fst.fKind + (0 : Int))
 = (0 : Int)) then decide ((↑(S62 (sub y (S316 y).fst (↑y.length : Int))).length : Int) = IntKind.i64.wrap ((↑x0.length : Int) + (↑x1.length : Int))) = v else
 false = v else bif decide ((S316 (S62 (sub y (S316 y).fst (↑y.length : Int)))).fst = (0 : Int)) || decide ((↑(S62 (sub y (S316 y).fst (↑y.length :
 Int))).length : Int) < (S316 (S62 (sub y (S316 y).fst (↑y.length : Int)))).fst) then false = v else ((S316 (S62 (sub y (S316 y).fst (↑y.length : Int)))).fst =
 (S316 (S62 (sub y (S316 y).fst (↑y.length : Int)))).fst ∧ (0 : Int) ≤ (0 : Int) ∧ (0 : Int) ≤ (S316 (S62 (sub y (S316 y).fst (↑y.length : Int)))).fst ∧ (S316
 (S62 (sub y (S316 y).fst (↑y.length : Int)))).fst ≤ (↑(S62 (sub y (S316 y).fst (↑y.length : Int))).length : Int)) ∧ ((∀ (x : Int), List.Mem x (sub (S62 (sub y
 (S316 y).fst (↑y.length : Int))) (0 : Int) (S316 (S62 (sub y (S316 y).fst (↑y.length : Int)))).fst) → (0 : Int) ≤ x ∧ x ≤ (255 : Int)) ∧ (sub (S62 (sub y
 (S316 y).fst (↑y.length : Int))) (0 : Int) (S316 (S62 (sub y (S316 y).fst (↑y.length : Int)))).fst).length ≤ nat_lit 140737488355328 ∧ ((S316 (sub (S62 (sub y
 (S316 y).fst (↑y.length : Int))) (0 : Int) (S316 (S62 (sub y (S316 y).fst (↑y.length : Int)))).fst)).snd.fCode = (0 : Int) → (S316 (sub (S62 (sub y (S316
 y).fst (↑y.length : Int))) (0 : Int) (S316 (S62 (sub y (S316 y).fst (↑y.length : Int)))).fst)).fst = (↑(sub (S62 (sub y (S316 y).fst (↑y.length : Int))) (0 :
 Int) (S316 (S62 (sub y (S316 y).fst (↑y.length : Int)))).fst).length : Int) → (sub (S62 (sub y (S316 y).fst (↑y.length : Int))) (0 : Int) (S316 (S62 (sub y
 (S316 y).fst (↑y.length : Int)))).fst).length ≠ nat_lit 0 → (3 : Int) ≤ k18 (sub (S62 (sub y (S316 y).fst (↑y.length : Int))) (0 : Int) (S316 (S62 (sub y
 (S316 y).fst (↑y.length : Int)))).fst))) ∧ ((0 : Int) ≤ (S316 (S62 (sub y (S316 y).fst (↑y.length : Int)))).fst ∧ (S316 (S62 (sub y (S316 y).fst (↑y.length :
 Int)))).fst ≤ (↑(S62 (sub y (S316 y).fst (↑y.length : Int))).length : Int) ∧ (↑(S62 (sub y (S316 y).fst (↑y.length : Int))).length : Int) ≤ (↑(S62 (sub y
 (S316 y).fst (↑y.length : Int))).length : Int)) ∧ ((sub (S62 (sub y (S316 y).fst (↑y.length : Int))) (S316 (S62 (sub y (S316 y).fst (↑y.length : Int)))).fst
 (↑(S62 (sub y (S316 y).fst (↑y.length : Int))).length : Int)).length.le (nat_lit 140737488355328) ∧ (((((S317 (sub (S62 (sub y (S316 y).fst (↑y.length :
 Int))) (0 : Int) (S316 (S62 (sub y (S316 y).fst (↑y.length : Int)))).fst)).snd.fData.length.le (nat_lit 140737488355328) ∧ ((bif decide ((S317 (sub y (0 :
 Int) (S316 y).fst)).snd.fCode = (1 : Int)) && decide ((S317 (sub y (0 : Int) (S316 y).fst)).snd.fSub = (1 : Int)) && decide ((S317 (sub (S62 (sub y (S316
 y).fst (↑y.length : Int))) (0 : Int) (S316 (S62 (sub y (S316 y).fst (↑y.length : Int)))).fst)).snd.fCode = (1 : Int)) && decide ((S317 (sub (S62 (sub y (S316
 y).fst (↑y.length : Int))) (0 : Int) (S316 (S62 (sub y (S316 y).fst (↑y.length : Int)))).fst)).snd.fSub = (1 : Int)) && decide (IntKind.i64.wrap ((S317 (sub y
 (0 : Int) (S316 y).fst)).fst.fKind + (S317 (sub (S62 (sub y (S316 y).fst (↑y.length : Int))) (0 : Int) (S316 (S62 (sub y (S316 y).fst (↑y.length :
 Int)))).fst)).fst.fKind) = (0 : Int)) then decide ((↑(S62 (sub (S62 (sub y (S316 y).fst (↑y.length : Int))) (S316 (S62 (sub y (S316 y).fst (↑y.length :
 Int)))).fst (↑(S62 (sub y (S316 y).fst (↑y.length : Int))).length : Int))).length : Int) = IntKind.i64.wrap ((↑x0.length : Int) + (↑x1.length : Int))) = v
 else false = v) ∧ True) ∧ True) ∧ True) ∧ True) ∧ True) ∧ ((((S317 (sub (S62 (sub y (S316 y).fst (↑y.length : Int))) (0 : Int) (S316 (S62 (sub y (S316 y).fst
 (↑y.length : Int)))).fst)).snd.fData.length.le (nat_lit 140737488355328) ∧ ((bif decide ((S317 (sub y (0 : Int) (S316 y).fst)).snd.fCode = (1 : Int)) &&
 decide ((S317 (sub y (0 : Int) (S316 y).fst)).snd.fSub = (1 : Int)) && decide ((S317 (sub (S62 (sub y (S316 y).fst (↑y.length : Int))) (0 : Int) (S316 (S62
 (sub y (S316 y).fst (↑y.length : Int)))).fst)).snd.fCode = (1 : Int)) && decide ((S317 (sub (S62 (sub y (S316 y).fst (↑y.length : Int))) (0 : Int) (S316 (S62
 (sub y (S316 y).fst (↑y.length : Int)))).fst)).snd.fSub = (1 : Int)) && decide (IntKind.i64.wrap ((S317 (sub y (0 : Int) (S316 y).fst)).fst.fKind + (S317 (sub
 (S62 (sub y (S316 y).fst (↑y.length : Int))) (0 : Int) (S316 (S62 (sub y (S316 y).fst (↑y.length : Int)))).fst)).fst.fKind) = (0 : Int)) then decide ((↑(S62
 (sub (S62 (sub y (S316 y).fst (↑y.length : Int))) (S316 (S62 (sub y (S316 y).fst (↑y.length : Int)))).fst (↑(S62 (sub y (S316 y).fst (↑y.length :
 Int))).length : Int))).length : Int) = IntKind.i64.wrap ((↑x0.length : Int) + (↑x1.length : Int))) = v else false = v) ∧ True) ∧ True) ∧ True) ∧ True) ∧ True)
 ∧ (((sub (S62 (sub y (S316 y).fst (↑y.length : Int))) (S316 (S62 (sub y (S316 y).fst (↑y.length : Int)))).fst (↑(S62 (sub y (S316 y).fst (↑y.length :
 Int))).length : Int)).length.le (nat_lit 140737488355328) ∧ ((((S317 (sub (S62 (sub y (S316 y).fst (↑y.length : Int))) (0 : Int) (S316 (S62 (sub y (S316
 y).fst (↑y.length : Int)))).fst)).snd.fData.length.le (nat_lit 140737488355328) ∧ ((bif decide ((S317 (sub y (0 : Int) (S316 y).fst)).snd.fCode = (1 : Int))
 && decide ((S317 (sub y (0 : Int) (S316 y).fst)).snd.fSub = (1 : Int)) && decide ((S317 (sub (S62 (sub y (S316 y).fst (↑y.length : Int))) (0 : Int) (S316 (S62
 (sub y (S316 y).fst (↑y.length : Int)))).fst)).snd.fCode = (1 : Int)) && decide ((S317 (sub (S62 (sub y (S316 y).fst (↑y.length : Int))) (0 : Int) (S316 (S62
 (sub y (S316 y).fst (↑y.length : Int)))).fst)).snd.fSub = (1 : Int)) && decide (IntKind.i64.wrap ((S317 (sub y (0 : Int) (S316 y).fst)).fst.fKind + (S317 (sub
 (S62 (sub y (S316 y).fst (↑y.length : Int))) (0 : Int) (S316 (S62 (sub y (S316 y).fst (↑y.length : Int)))).fst)).fst.fKind) = (0 : Int)) then decide ((↑(S62
 (sub (S62 (sub y (S316 y).fst (↑y.length : Int))) (S316 (S62 (sub y (S316 y).fst (↑y.length : Int)))).fst (↑(S62 (sub y (S316 y).fst (↑y.length :
 Int))).length : Int))).length : Int) = IntKind.i64.wrap ((↑x0.length : Int) + (↑x1.length : Int))) = v else false = v) ∧ True) ∧ True) ∧ True) ∧ True) ∧ True)
 ∧ True) ∧ True) ∧ True) ∧ True) ∧ True) ∧ True) ∧ True) ∧ (((sub y (S316 y).fst (↑y.length : Int)).length.le (nat_lit 140737488355328) ∧ ((((S317 (sub y (0 :
 Int) (S316 y).fst)).snd.fData.length.le (nat_lit 140737488355328) ∧ ((bif decide ((↑x1.length : Int) ≤ IntKind.i64.wrap ((1048576 : Int) - (↑(S62 (sub y (S316
 y).fst (↑y.length : Int))).length : Int))) then False else bif !decide ((S317 (sub y (0 : Int) (S316 y).fst)).snd.fCode = (0 : Int)) then (S317 (sub y (0 :
 Int) (S316 y).fst)).snd.fData.length.le (nat_lit 140737488355328) ∧ bif decide ((S317 (sub y (0 : Int) (S316 y).fst)).snd.fCode = (1 : Int)) && decide ((S317
 (sub y (0 : Int) (S316 y).fst)).snd.fSub = (1 : Int)) && decide ((S317 (sub y (0 : Int) (S316 y).fst)).snd.fCode = (1 : Int)) && decide ((S317 (sub y (0 :
 Int) (S316 y).fst)).snd.fSub = (1 : Int)) && decide (IntKind.i64.wrap ((S317 (sub y (0 : Int) (S316 y).fst)).fst.fKind + (0 : Int)) = (0 : Int)) then decide
 ((↑(S62 (sub y (S316 y).fst (↑y.length : Int))).length : Int) = IntKind.i64.wrap ((↑x0.length : Int) + (↑x1.length : Int))) = v else false = v else (∀ (x :
 Int), List.Mem x (S62 (sub y (S316 y).fst (↑y.length : Int))) → (0 : Int) ≤ x ∧ x ≤ (255 : Int)) ∧ bif !decide ((S316 (S62 (sub y (S316 y).fst (↑y.length :
 Int)))).snd.fCode = (0 : Int)) then (S316 (S62 (sub y (S316 y).fst (↑y.length : Int)))).snd.fData.length.le (nat_lit 140737488355328) ∧ bif decide ((S317 (sub
 y (0 : Int) (S316 y).fst)).snd.fCode = (1 : Int)) && decide ((S317 (sub y (0 : Int) (S316 y).fst)).snd.fSub = (1 : Int)) && decide ((S316 (S62 (sub y (S316
 y).fst (↑y.length : Int)))).snd.fCode = (1 : Int)) && decide ((S316 (S62 (sub y (S316 y).fst (↑y.length : Int)))).snd.fSub = (1 : Int)) && decide
 (IntKind.i64.wrap ((S317 (sub y (0 : Int) (S316 y).fst)).fst.fKind + (0 : Int)) = (0 : Int)) then decide ((↑(S62 (sub y (S316 y).fst (↑y.length :
 Int))).length : Int) = IntKind.i64.wrap ((↑x0.length : Int) + (↑x1.length : Int))) = v else false = v else bif decide ((S316 (S62 (sub y (S316 y).fst
 (↑y.length : Int)))).fst = (0 : Int)) || decide ((↑(S62 (sub y (S316 y).fst (↑y.length : Int))).length : Int) < (S316 (S62 (sub y (S316 y).fst (↑y.length :
 Int)))).fst) then false = v else ((S316 (S62 (sub y (S316 y).fst (↑y.length : Int)))).fst = (S316 (S62 (sub y (S316 y).fst (↑y.length : Int)))).fst ∧ (0 :
 Int) ≤ (0 : Int) ∧ (0 : Int) ≤ (S316 (S62 (sub y (S316 y).fst (↑y.length : Int)))).fst ∧ (S316 (S62 (sub y (S316 y).fst (↑y.length : Int)))).fst ≤ (↑(S62 (sub
 y (S316 y).fst (↑y.length : Int))).length : Int)) ∧ ((∀ (x : Int), List.Mem x (sub (S62 (sub y (S316 y).fst (↑y.length : Int))) (0 : Int) (S316 (S62 (sub y
 (S316 y).fst (↑y.length : Int)))).fst) → (0 : Int) ≤ x ∧ x ≤ (255 : Int)) ∧ (sub (S62 (sub y (S316 y).fst (↑y.length : Int))) (0 : Int) (S316 (S62 (sub y
 (S316 y).fst (↑y.length : Int)))).fst).length ≤ nat_lit 140737488355328 ∧ ((S316 (sub (S62 (sub y (S316 y).fst (↑y.length : Int))) (0 : Int) (S316 (S62 (sub y
 (S316 y).fst (↑y.length : Int)))).fst)).snd.fCode = (0 : Int) → (S316 (sub (S62 (sub y (S316 y).fst (↑y.length : Int))) (0 : Int) (S316 (S62 (sub y (S316
 y).fst (↑y.length : Int)))).fst)).fst = (↑(sub (S62 (sub y (S316 y).fst (↑y.length : Int))) (0 : Int) (S316 (S62 (sub y (S316 y).fst (↑y.length :
 Int)))).fst).length : Int) → (sub (S62 (sub y (S316 y).fst (↑y.length : Int))) (0 : Int) (S316 (S62 (sub y (S316 y).fst (↑y.length : Int)))).fst).length ≠
 nat_lit 0 → (3 : Int) ≤ k18 (sub (S62 (sub y (S316 y).fst (↑y.length : Int))) (0 : Int) (S316 (S62 (sub y (S316 y).fst (↑y.length : Int)))).fst))) ∧ ((0 :
 Int) ≤ (S316 (S62 (sub y (S316 y).fst (↑y.length : Int)))).fst ∧ (S316 (S62 (sub y (S316 y).fst (↑y.length : Int)))).fst ≤ (↑(S62 (sub y (S316 y).fst
 (↑y.length : Int))).length : Int) ∧ (↑(S62 (sub y (S316 y).fst (↑y.length : Int))).length : Int) ≤ (↑(S62 (sub y (S316 y).fst (↑y.length : Int))).length :
 Int)) ∧ ((sub (S62 (sub y (S316 y).fst (↑y.length : Int))) (S316 (S62 (sub y (S316 y).fst (↑y.length : Int)))).fst (↑(S62 (sub y (S316 y).fst (↑y.length :
 Int))).length : Int)).length.le (nat_lit 140737488355328) ∧ (((((S317 (sub (S62 (sub y (S316 y).fst (↑y.length : Int))) (0 : Int) (S316 (S62 (sub y (S316
 y).fst (↑y.length : Int)))).fst)).snd.fData.length.le (nat_lit 140737488355328) ∧ ((bif decide ((S317 (sub y (0 : Int) (S316 y).fst)).snd.fCode = (1 : Int))
 && decide ((S317 (sub y (0 : Int) (S316 y).fst)).snd.fSub = (1 : Int)) && decide ((S317 (sub (S62 (sub y (S316 y).fst (↑y.length : Int))) (0 : Int) (S316 (S62
 (sub y (S316 y).fst (↑y.length : Int)))).fst)).snd.fCode = (1 : Int)) && decide ((S317 (sub (S62 (sub y (S316 y).fst (↑y.length : Int))) (0 : Int) (S316 (S62
 (sub y (S316 y).fst (↑y.length : Int)))).fst)).snd.fSub = (1 : Int)) && decide (IntKind.i64.wrap ((S317 (sub y (0 : Int) (S316 y).fst)).fst.fKind + (S317 (sub
 (S62 (sub y (S316 y).fst (↑y.length : Int))) (0 : Int) (S316 (S62 (sub y (S316 y).fst (↑y.length : Int)))).fst)).fst.fKind) = (0 : Int)) then decide ((↑(S62
 (sub (S62 (sub y (S316 y).fst (↑y.length : Int))) (S316 (S62 (sub y (S316 y).fst (↑y.length : Int)))).fst (↑(S62 (sub y (S316 y).fst (↑y.length :
 Int))).length : Int))).length : Int) = IntKind.i64.wrap ((↑x0.length : Int) + (↑x1.length : Int))) = v else false = v) ∧ True) ∧ True) ∧ True) ∧ True) ∧ True)
 ∧ ((((S317 (sub (S62 (sub y (S316 y).fst (↑y.length : Int))) (0 : Int) (S316 (S62 (sub y (S316 y).fst (↑y.length : Int)))).fst)).snd.fData.length.le (nat_lit
 140737488355328) ∧ ((bif decide ((S317 (sub y (0 : Int) (S316 y).fst)).snd.fCode = (1 : Int)) && decide ((S317 (sub y (0 : Int) (S316 y).fst)).snd.fSub = (1 :
 Int)) && decide ((S317 (sub (S62 (sub y (S316 y).fst (↑y.length : Int))) (0 : Int) (S316 (S62 (sub y (S316 y).fst (↑y.length : Int)))).fst)).snd.fCode = (1 :
 Int)) && decide ((S317 (sub (S62 (sub y (S316 y).fst (↑y.length : Int))) (0 : Int) (S316 (S62 (sub y (S316 y).fst (↑y.length : Int)))).fst)).snd.fSub = (1 :
 Int)) && decide (IntKind.i64.wrap ((S317 (sub y (0 : Int) (S316 y).fst)).fst.fKind + (S317 (sub (S62 (sub y (S316 y).fst (↑y.length : Int))) (0 : Int) (S316
 (S62 (sub y (S316 y).fst (↑y.length : Int)))).fst)).fst.fKind) = (0 : Int)) then decide ((↑(S62 (sub (S62 (sub y (S316 y).fst (↑y.length : Int))) (S316 (S62
 (sub y (S316 y).fst (↑y.length : Int)))).fst (↑(S62 (sub y (S316 y).fst (↑y.length : Int))).length : Int))).length : Int) = IntKind.i64.wrap ((↑x0.length :
 Int) + (↑x1.length : Int))) = v else false = v) ∧ True) ∧ True) ∧ True) ∧ True) ∧ True) ∧ (((sub (S62 (sub y (S316 y).fst (↑y.length : Int))) (S316 (S62 (sub
 y (S316 y).fst (↑y.length : Int)))).fst (↑(S62 (sub y (S316 y).fst (↑y.length : Int))).length : Int)).length.le (nat_lit 140737488355328) ∧ ((((S317 (sub (S62
 (sub y (S316 y).fst (↑y.length : Int))) (0 : Int) (S316 (S62 (sub y (S316 y).fst (↑y.length : Int)))).fst)).snd.fData.length.le (nat_lit 140737488355328) ∧
 ((bif decide ((S317 (sub y (0 : Int) (S316 y).fst)).snd.fCode = (1 : Int)) && decide ((S317 (sub y (0 : Int) (S316 y).fst)).snd.fSub = (1 : Int)) && decide
 ((S317 (sub (S62 (sub y (S316 y).fst (↑y.length : Int))) (0 : Int) (S316 (S62 (sub y (S316 y).fst (↑y.length : Int)))).fst)).snd.fCode = (1 : Int)) && decide
 ((S317 (sub (S62 (sub y (S316 y).fst (↑y.length : Int))) (0 : Int) (S316 (S62 (sub y (S316 y).fst (↑y.length : Int)))).fst)).snd.fSub = (1 : Int)) && decide
 (IntKind.i64.wrap ((S317 (sub y (0 : Int) (S316 y).fst)).fst.fKind + (S317 (sub (S62 (sub y (S316 y).fst (↑y.length : Int))) (0 : Int) (S316 (S62 (sub y (S316
 y).fst (↑y.length : Int)))).fst)).fst.fKind) = (0 : Int)) then decide ((↑(S62 (sub (S62 (sub y (S316 y).fst (↑y.length : Int))) (S316 (S62 (sub y (S316 y).fst
 (↑y.length : Int)))).fst (↑(S62 (sub y (S316 y).fst (↑y.length : Int))).length : Int))).length : Int) = IntKind.i64.wrap ((↑x0.length : Int) + (↑x1.length :
 Int))) = v else false = v) ∧ True) ∧ True) ∧ True) ∧ True) ∧ True) ∧ True) ∧ True) ∧ True) ∧ True) ∧ True) ∧ True) ∧ True) ∧ True) ∧ True else (∀ (x : Int),
 List.Mem x [] → (0 : Int) ≤ x ∧ x ≤ (255 : Int)) ∧ bif decide ((↑x1.length : Int) ≤ IntKind.i64.wrap ((1048576 : Int) - (↑(nat_lit 0) : Int))) then x1.length
 * nat_lit 1 ≤ nat_lit 140737488355328 ∧ ∀ (y : List (Int)), y = x1 → (∀ (x : Int), List.Mem x y → (0 : Int) ≤ x ∧ x ≤ (255 : Int)) ∧ bif !decide ((S316
 y).snd.fCode = (0 : Int)) then (S316 y).snd.fData.length.le (nat_lit 140737488355328) ∧ false = v else bif decide ((S316 y).fst = (0 : Int)) || decide
 ((↑y.length : Int) < (S316 y).fst) then false = v else ((S316 y).fst = (S316 y).fst ∧ (0 : Int) ≤ (0 : Int) ∧ (0 : Int) ≤ (S316 y).fst ∧ (S316 y).fst ≤
 (↑y.length : Int)) ∧ ((∀ (x : Int), List.Mem x (sub y (0 : Int) (S316 y).fst) → (0 : Int) ≤ x ∧ x ≤ (255 : Int)) ∧ (sub y (0 : Int) (S316 y).fst).length ≤
 nat_lit 140737488355328 ∧ ((S316 (sub y (0 : Int) (S316 y).fst)).snd.fCode = (0 : Int) → (S316 (sub y (0 : Int) (S316 y).fst)).fst = (↑(sub y (0 : Int) (S316
 y).fst).length : Int) → (sub y (0 : Int) (S316 y).fst).length ≠ nat_lit 0 → (3 : Int) ≤ k18 (sub y (0 : Int) (S316 y).fst))) ∧ ((0 : Int) ≤ (S316 y).fst ∧
 (S316 y).fst ≤ (↑y.length : Int) ∧ (↑y.length : Int) ≤ (↑y.length : Int)) ∧ ((sub y (S316 y).fst (↑y.length : Int)).length.le (nat_lit 140737488355328) ∧
 (((((S317 (sub y (0 : Int) (S316 y).fst)).snd.fData.length.le (nat_lit 140737488355328) ∧ (false = v ∧ True) ∧ True) ∧ True) ∧ True) ∧ True) ∧ ((((S317 (sub y
 (0 : Int) (S316 y).fst)).snd.fData.length.le (nat_lit 140737488355328) ∧ (false = v ∧ True) ∧ True) ∧ True) ∧ True) ∧ True) ∧ (((sub y (S316 y).fst (↑y.length
 : Int)).length.le (nat_lit 140737488355328) ∧ ((((S317 (sub y (0 : Int) (S316 y).fst)).snd.fData.length.le (nat_lit 140737488355328) ∧ (false = v ∧ True) ∧
 True) ∧ True) ∧ True) ∧ True) ∧ True) ∧ True else (∀ (x : Int), List.Mem x [] → (0 : Int) ≤ x ∧ x ≤ (255 : Int)) ∧ false = v) := by kernel_rfl
end Go.Rx
/-! What the program answers at all. -/
namespace Go.Rx
open Go.Ab Go.L10
set_option linter.unusedVariables false
set_option maxRecDepth 100000
theorem bif_t {b : Bool} {p q : Prop} (h : b = true) (hp : p) : bif b then p else q := by subst h; exact hp
theorem bif_f {b : Bool} {p q : Prop} (h : b = false) (hq : q) : bif b then p else q := by subst h; exact hq
def five : List Int := [255, 255, 255, 255, 255]
def aliveB : List Int := [255, 255, 255, 255, 255, 255, 255, 255, 255, 255, 255, 255, 255, 255, 255, 255, 0, 19, 4]
def aliveM : api_Msg := { noMsg with fKind := 4 }
theorem byt_five : Byt five := by unfold Byt five; decide
theorem byt_alive : Byt aliveB := by unfold Byt aliveB; decide
theorem run306 : RunC C306 6 6 [4] [] W306 [] := by
  intro hp
  refine of_eq (q306 true) ⟨⟨.inr rfl, by decide⟩, ⟨by decide, by decide, by decide⟩, by decide, ?_⟩
  intro y hy
  obtain rfl : y = five := hy.trans (by kernel_rfl)
  have e1 : S316 five = (0, no) := by kernel_rfl
  refine ⟨byt_five, ?_⟩
  rw [e1]
  refine bif_f rfl (bif_t rfl ⟨⟨by decide, by decide, by decide⟩, bif_t rfl ⟨⟨rfl, by decide⟩, ?_⟩⟩)
  intro y hy
  obtain rfl : y = aliveB := hy.trans (by kernel_rfl)
  have e2 : S316 aliveB = (19, no) := by kernel_rfl
  have s1 : sub aliveB 0 (S316 aliveB).fst = aliveB := by kernel_rfl
  have e3 : S317 aliveB = (aliveM, no) := by kernel_rfl
  rw [s1, e3, e2]
  refine ⟨byt_alive, bif_f rfl (bif_f rfl ⟨⟨rfl, by decide, by decide, by decide⟩, ⟨byt_alive, by decide, fun _ _ _ => by decide⟩, ⟨by decide, by decide, by decide⟩, ?_⟩)⟩
  repeat' apply And.intro
  all_goals first | exact trivial | exact Nat.le_of_ble_eq_true (by kernel_rfl) | exact bif_t (by kernel_rfl) (by kernel_rfl) | kernel_rfl
theorem ok306 : Ok306 := con_ok (C := C306) (kok_cons ok62 (kok_cons ok316 (kok_cons ok317 (kok_cons ok315 (kk1 ok309))))) mx7 (by kernel_rfl) run306
theorem cnt_ne {x : List Int} (hl : 19 ≤ x.length) (h : ix x 0 ≠ 255) : cnt 255 (sub x 0 16) ≠ 16 := by
  intro hc
  have hlen : (sub x 0 16).length = 16 := sub_len (l := x) (i := 0) (j := 16) (by decide) (by omega)
  have hc : (sub x 0 16).count 255 = 16 := by
    unfold cnt at hc
    omega
  have h2 := List.count_eq_length.1 (hc.trans hlen.symm)
  have h0 : ix (sub x 0 16) 0 = ix x 0 := sub_at (l := x) (i := 0) (j := 16) (by omega) (k := 0) (by omega)
  refine h ?_
  rw [← h0]
  refine (h2 _ ?_).symm
  unfold ix
  rw [List.getD_eq_getElem?_getD, List.getElem?_eq_getElem (by rw [hlen]; decide)]
  exact List.getElem_mem _
theorem run305 : RunC C305 6 5 [4] [22, 22] W305 [] := by
  intro (x : List Int) hx (y : List Int) hy hp
  obtain ⟨hbx, hby⟩ : P305 x y := hp _ rfl
  refine of_eq (q305 x y true) ⟨fun h => ⟨Int.le_refl _, ?_⟩, bif_of (fun _ => rfl) fun h => ?_⟩
  · simp at h; omega
  simp only [Bool.or_eq_false_iff, decide_eq_false_iff_not] at h
  obtain ⟨⟨⟨h1, h2⟩, h3⟩, h4⟩ := h
  have e : S316 x = (0, ⟨1, 1, []⟩) := by
    unfold S316
    rw [if_neg (by omega), if_pos (cnt_ne (by omega) h4)]
  refine bif_t (decide_eq_true (by rw [wrap64 (by decide)]; show (x.length : Int) ≤ 1048576 - 0; omega)) ⟨by show x.length * 1 ≤ 140737488355328; omega, ?_⟩
  intro z hz
  have hz := hz.symm
  subst hz
  refine ⟨hbx, ?_⟩
  rw [e]
  refine bif_t rfl ⟨Nat.zero_le _, bif_t (decide_eq_true (by rw [wrap64 (by omega)]; omega)) ⟨⟨rfl, by show (x.length + y.length) * 1 ≤ 140737488355328; omega⟩, ?_⟩⟩
  rintro _ rfl
  refine bif_t rfl ⟨Nat.zero_le _, bif_t rfl (decide_eq_true ?_)⟩
  rw [wrap64 (by omega), List.length_append]
  omega
theorem ok305 : Ok305 := con_ok (C := C305) (kok_cons ok62 (kok_cons ok316 (kok_cons ok317 (kok_cons ok315 (kk1 ok306))))) mx7 (by kernel_rfl) run305
end Go.Rx
