import Derived.Test.YtadmpldpipagnaaDoorC3
set_option linter.unusedVariables false
set_option linter.unusedSimpArgs false
/-! Regions of open order: a quiet operation may as well come later. -/
namespace Go.Rx
open Go.Ab Go.RowKit
set_option linter.unusedVariables false
set_option linter.unusedSimpArgs false
/-- What a quiet operation does to a state. -/
inductive ME (A : Nat → Type) where
  | no
  | L (id : Nat) (cs : Bx A)
  | T (id sz m : Nat)
structure Eff (A : Nat → Type) where
  d : Nat
  p : AV A
  m : ME A
section
variable {S : Sys} {C : Cfg S} {N : Nat} {call : CallT S} {b : XS S.A} {ops : List Oper} {kp : AV S.A → XS S.A → Prop} {k : XS S.A → Prop} {s : XS S.A} {id : Nat} {o : Oper} {Q : Nat → Prop} {F : Fr S}
def ME.app (m : ME S.A) (s : XS S.A) : XS S.A := match m with
  | .no => s
  | .L i cs => s.setL i cs
  | .T i sz n => s.setT i sz n
def Eff.app (e : Eff S.A) (s : XS S.A) : XS S.A := (e.m.app s).put e.d e.p
def ME.at (id : Nat) : ME S.A → Prop
  | .no => True
  | .L i _ => i = id
  | .T i _ _ => i = id
theorem uses_mem {t : Nat} : ∀ {l : List Operand}, Operand.tmp t ∈ l → t ∈ usesO l
  | x :: r, h => by
    cases x with
    | tmp u =>
      rcases List.mem_cons.1 h with e | h
      · cases e; exact List.mem_cons_self
      · exact List.mem_cons_of_mem _ (uses_mem h)
    | const v => exact uses_mem (l := r) ((List.mem_cons.1 h).resolve_left fun e => by cases e)
    | func f => exact uses_mem (l := r) ((List.mem_cons.1 h).resolve_left fun e => by cases e)
    | global g => exact uses_mem (l := r) ((List.mem_cons.1 h).resolve_left fun e => by cases e)
theorem ev_agree {g1 g2 : Nat → AV S.A} {x : Operand} (h : ∀ t, x = .tmp t → g1 t = g2 t) : evA g1 x = evA g2 x := by
  cases x <;> first | exact h _ rfl | rfl
/-- Two states that an operation cannot tell apart. -/
structure Agr (C : Cfg S) (N : Nat) (b : XS S.A) (ops : List Oper) (o : Oper) (s s' : XS S.A) : Prop where
  get : ∀ x ∈ readsO ops o, getN N (s'.over b) x = getN N (s.over b) x
  L : (ldB o.op = true ∧ ptLoad C.P ops o.op = false) → ∀ x ps, (s.over b).L x = some ps → (s'.over b).L x = some ps
theorem Agr.ev {s s' : XS S.A} (h : Agr C N b ops o s s') : ∀ x ∈ o.op.operands.toList, evA (getN N (s'.over b)) x = evA (getN N (s.over b)) x :=
  fun x hx => ev_agree fun t e => by subst e; exact h.get t (List.mem_append_left _ (uses_mem hx))
theorem Agr.gd {s s' : XS S.A} (h : Agr C N b ops o s s') {j : Nat} {w : Bool} {g : Nat} (hg : o.guard = some (j, w)) (hj : dstOf ops j = some g) : getN N (s'.over b) g = getN N (s.over b) g :=
  h.get g (List.mem_append_right _ (by simp [hg, hj]))
/-- What a quiet operation does, and that it does so wherever it is. -/
def QEff (C : Cfg S) (N : Nat) (call : CallT S) (b : XS S.A) (ops : List Oper) (id : Nat) (o : Oper) (s : XS S.A) (e : Eff S.A) : Prop :=
  o.dst = some e.d ∧ e.m.at id ∧ ∀ s', Agr C N b ops o s s' → ∀ k kp, k (e.app s') → stepS C N call b ops id o s' k kp
theorem len_rq {P : Program} {get : Nat → AV S.A} {c : Call} (hq : quietOp (.call c) = true) : rq S P get (.call c) = .bad ∨ ∃ p, rq S P get (.call c) = .v p := by
  obtain ⟨callee, args, ats⟩ := c
  cases callee with
  | value f => cases hq
  | invoke r m => cases hq
  | builtin bi =>
    simp only [rq]
    unfold rqBuiltin
    split
    · split
      · split
        · exact .inr ⟨_, rfl⟩
        · split
          · exact .inr ⟨_, rfl⟩
          · exact .inl rfl
      · exact .inl rfl
    · cases hq
    · split
      · rename_i k a k' b _ _
        cases kindB k k'
        · exact .inl rfl
        · exact .inr ⟨_, rfl⟩
      · exact .inl rfl
    · exact .inl rfl
theorem exec_quiet (hdr : C.dr = true) {op : Op} {d : Option Nat} (hq : quietOp op = true) {r : Rq S.A} (hr : r = rq S C.P (getN N (s.over b)) op) (h : exec C call b id d s k kp op r) (hin : ∀ x, inV Q (evA (getN N (s.over b)) x)) (hL : ∀ i ps, (s.over b).L i = some ps → ∀ p ∈ ps.cs, in1 Q p) :
    ∃ e : Eff S.A, d = some e.d ∧ e.m.at id ∧ k (e.app s) ∧ (inV (fun n => Q n ∨ n = id) e.p ∧ (∀ i cs, e.m = .L i cs → ∀ p ∈ cs.cs, in1 (fun n => Q n ∨ n = id) p) ∧ (allocB op = false → e.m = .no)) ∧
      ∀ s' : XS S.A, (((∃ x off n ag, r = .ld x off n ag) ∨ ∃ x off e i ag, r = .eld x off e i ag) → ∀ x ps, (s.over b).L x = some ps → (s'.over b).L x = some ps) → ∀ (k : XS S.A → Prop) (kp : AV S.A → XS S.A → Prop), k (e.app s') → exec C call b id d s' k kp op r := by
  have hQi : ∀ n, Q n → Q n ∨ n = id := fun _ => .inl
  cases r with
  | bad => exact h.elim
  | v p =>
    simp only [exec] at h
    split at h
    · rename_i d
      exact ⟨⟨d, unG p, .no⟩, rfl, trivial, h, ⟨inV_mono hQi (inV_unG (rq_in hin (rq_asks hr.symm))), (fun i cs e => by cases e), fun _ => rfl⟩, fun s' _ k kp hk => hk⟩
    · exact h.elim
  | vc c p =>
    simp only [exec] at h
    split at h
    · rename_i d
      exact ⟨⟨d, unG p, .no⟩, rfl, trivial, h.2, ⟨inV_mono hQi (inV_unG (rq_in hin (rq_asksC hr.symm))), (fun i cs e => by cases e), fun _ => rfl⟩, fun s' _ k kp hk => ⟨h.1, hk⟩⟩
    · exact h.elim
  | ld x off n ag =>
    simp only [exec] at h
    split at h
    · rename_i t y d ps hLx
      cases hb : (Nat.beq ((ps.cs.drop off).take n).length n && (ag || Nat.beq n 1)) with
      | false => rw [hb] at h; exact h.elim
      | true =>
        rw [hb] at h
        refine ⟨⟨d, unG (ofCells ag ((ps.cs.drop off).take n)), .no⟩, rfl, trivial, h, ⟨inV_mono hQi (inV_unG (inV_ofCells fun p hp => hL x ps hLx p (List.mem_of_mem_drop (List.mem_of_mem_take hp)))), (fun i cs e => by cases e), fun _ => rfl⟩, fun s' hs k kp hk => ?_⟩
        simp only [exec]
        rw [hs (.inl ⟨x, off, n, ag, rfl⟩) x ps hLx]
        simp only [hb, cond_true]
        exact hk
    · exact h.elim
  | box bx =>
    simp only [exec] at h
    split at h
    · rename_i t d
      cases hb : bx.cs.all isCell with
      | false => rw [hb] at h; exact h.elim
      | true =>
        rw [hb] at h
        have hc : ∀ p ∈ bx.cs, in1 Q p := by
          intro p hp
          simp only [rq] at hr
          split at hr
          · cases hr
            obtain ⟨v, _, rfl⟩ := List.mem_map.1 ((mkBx_spec hb).2.1 p hp)
            exact in1_lit v
          · cases hr
        refine ⟨⟨d, .loc id 0, .L id bx⟩, rfl, rfl, h, ⟨.inr rfl, (fun i cs' e p hp => by cases e; exact in1_mono hQi (hc p hp)), fun e => by cases e⟩, fun s' _ k kp hk => ?_⟩
        simp only [exec, hb, cond_true]
        exact hk
    · rename_i t x d
      cases hb : bx.cs.all isCell with
      | false => rw [hb] at h; exact h.elim
      | true =>
        rw [hb] at h
        have hc : ∀ p ∈ bx.cs, in1 Q p := by
          intro p hp
          simp only [rq] at hr
          cases hr
          exact in1_cells (hin x) p ((mkBx_spec hb).2.1 p hp)
        refine ⟨⟨d, .loc id 0, .L id bx⟩, rfl, rfl, h, ⟨.inr rfl, (fun i cs' e p hp => by cases e; exact in1_mono hQi (hc p hp)), fun e => by cases e⟩, fun s' _ k kp hk => ?_⟩
        simp only [exec, hb, cond_true]
        exact hk
    · exact h.elim
  | tip t l =>
    simp only [exec] at h
    split at h
    · rename_i u n parts d
      exact ⟨⟨d, .own id t l, .T id (szOf S t) l.length⟩, rfl, rfl, h, ⟨.inr rfl, (fun i cs e => by cases e), fun e => by cases e⟩, fun s' _ k kp hk => hk⟩
    · exact h.elim
  | st x off n cs =>
    simp only [exec] at h
    split at h
    · cases hq
    · exact h.elim
  | app q t bytes l ext =>
    simp only [exec] at h
    split at h
    · rcases len_rq (P := C.P) (get := getN N (s.over b)) hq with e | ⟨p, e⟩ <;> rw [e] at hr <;> cases hr
    · exact h.elim
  | app0 t bytes ext =>
    simp only [exec] at h
    split at h
    · rcases len_rq (P := C.P) (get := getN N (s.over b)) hq with e | ⟨p, e⟩ <;> rw [e] at hr <;> cases hr
    · exact h.elim
  | call f args =>
    simp only [exec] at h
    split at h
    · rcases len_rq (P := C.P) (get := getN N (s.over b)) hq with e | ⟨p, e⟩ <;> rw [e] at hr <;> cases hr
    · exact h.elim
  | papp q t bytes n ext =>
    simp only [exec] at h
    split at h
    · rcases len_rq (P := C.P) (get := getN N (s.over b)) hq with e | ⟨p, e⟩ <;> rw [e] at hr <;> cases hr
    · exact h.elim
  | ch c =>
    obtain ⟨bop, t, x, y, t', rfl, hk, -⟩ := ch_args hr.symm
    have hq : (!nilK y) = true := hq
    rw [hk] at hq
    cases hq
  | eld x off e' i ag =>
    simp only [exec] at h
    split at h
    · rename_i t y d cs u l pad hLx
      split at h
      · rename_i hu
        cases hb : Nat.beq cs.length off with
        | false => rw [hb] at h; exact h.elim
        | true =>
          rw [hb] at h
          refine ⟨⟨d, unG (ofCells ag (av S e' (@ix _ (S.inh e') (castT hu l) i))), .no⟩, rfl, trivial, h.2, ⟨inV_mono hQi (inV_unG (inV_ofCells fun p hp => in1_av _ _ p hp)), (fun i cs e => by cases e), fun _ => rfl⟩, fun s' hs k kp hk => ?_⟩
          simp only [exec]
          rw [hs (.inr ⟨x, off, e', i, ag, rfl⟩) x _ hLx]
          simp only [hb, cond_true]
          rw [dif_pos hu]
          exact ⟨h.1, hk⟩
      · exact h.elim
    · exact h.elim
  | est x off e' i v =>
    simp only [exec] at h
    split at h
    · cases hq
    · exact h.elim
  | tld q n e' i ag =>
    simp only [exec] at h
    rw [hdr] at h
    exact h.elim
  | tst q n e' i v =>
    simp only [exec] at h
    split at h
    · cases hq
    · exact h.elim
  | panic p =>
    simp only [exec] at h
    split at h
    · cases hq
    · exact h.elim
theorem go_quiet (hdr : C.dr = true) (hq : quietOp o.op = true) (h : goS C (ptLoad C.P ops o.op) N call b id o.dst s k kp o.op) (hin : ∀ x, inV Q (evA (getN N (s.over b)) x)) (hL : ∀ i ps, (s.over b).L i = some ps → ∀ p ∈ ps.cs, in1 Q p) :
    ∃ e : Eff S.A, o.dst = some e.d ∧ e.m.at id ∧ k (e.app s) ∧ (inV (fun n => Q n ∨ n = id) e.p ∧ (∀ i cs, e.m = .L i cs → ∀ p ∈ cs.cs, in1 (fun n => Q n ∨ n = id) p) ∧ (allocB o.op = false → e.m = .no)) ∧
      ∀ s' : XS S.A, Agr C N b ops o s s' → ∀ (k : XS S.A → Prop) (kp : AV S.A → XS S.A → Prop), k (e.app s') → goS C (ptLoad C.P ops o.op) N call b id o.dst s' k kp o.op := by
  by_cases hp : ∃ c x y, o.op = .pick c x y
  · obtain ⟨c, x, y, ho⟩ := hp
    rw [ho] at h
    simp only [goS] at h
    split at h
    · rename_i d v hdd hv
      have fin : ∀ z, (z = (bif v then x else y)) → k (s.put d (unG (evA (getN N (s.over b)) z))) → ∃ e : Eff S.A, o.dst = some e.d ∧ e.m.at id ∧ k (e.app s) ∧ (inV (fun n => Q n ∨ n = id) e.p ∧ (∀ i cs, e.m = .L i cs → ∀ p ∈ cs.cs, in1 (fun n => Q n ∨ n = id) p) ∧ (allocB o.op = false → e.m = .no)) ∧
          ∀ s' : XS S.A, Agr C N b ops o s s' → ∀ (k : XS S.A → Prop) (kp : AV S.A → XS S.A → Prop), k (e.app s') → goS C (ptLoad C.P ops o.op) N call b id o.dst s' k kp o.op := by
        intro z hz hk
        refine ⟨⟨d, unG (evA (getN N (s.over b)) z), .no⟩, hdd, trivial, hk, ⟨inV_mono (fun _ => .inl) (inV_unG (hin z)), (fun i cs e => by cases e), fun _ => rfl⟩, fun s' ha k kp hk => ?_⟩
        have hev := ha.ev
        rw [ho] at hev ⊢
        simp only [goS]
        rw [hdd, hev c (by simp [Op.operands]), hev x (by simp [Op.operands]), hev y (by simp [Op.operands]), hv]
        refine ⟨fun e => ?_, fun e => ?_⟩
        · subst e; subst hz; exact hk
        · subst e; subst hz; exact hk
      cases v with
      | true => exact fin x rfl (h.1 rfl)
      | false => exact fin y rfl (h.2 rfl)
    · exact h.elim
  · have eq : ∀ s' k kp, goS C (ptLoad C.P ops o.op) N call b id o.dst s' k kp o.op = exec C call b id o.dst s' k kp o.op (rqP (ptLoad C.P ops o.op) (rq S C.P (getN N (s'.over b)) o.op)) := by
      intro s' k kp
      unfold goS
      split
      · rename_i c x y ho; exact absurd ⟨c, x, y, ho⟩ hp
      · rfl
    rw [eq] at h
    obtain ⟨e, e1, e2, e3, e4, e5⟩ := exec_quiet hdr hq rfl (exec_rqP h) hin hL
    refine ⟨e, e1, e2, e3, e4, fun s' ha k kp hk => ?_⟩
    rw [eq, rq_congr (g2 := getN N (s.over b)) ha.ev]
    have hld : ((∃ x off n ag, rq S C.P (getN N (s.over b)) o.op = .ld x off n ag) ∨ ∃ x off e i ag, rq S C.P (getN N (s.over b)) o.op = .eld x off e i ag) → ldB o.op = true ∧ ptLoad C.P ops o.op = false := by
      intro hrr
      rcases hrr with ⟨x, off, n, ag, hr⟩ | ⟨x, off, e', i, ag, hr⟩
      · rw [hr] at h
        cases hpl : ptLoad C.P ops o.op with
        | true => rw [hpl] at h; exact h.elim
        | false =>
          rw [hpl] at h
          refine ⟨?_, rfl⟩
          have h : exec C call b id o.dst s _ _ o.op (.ld x off n ag) := h
          simp only [exec] at h
          split at h
          · rename_i ho _ _; rw [ho]; rfl
          · exact h.elim
      · rw [hr] at h
        cases hpl : ptLoad C.P ops o.op with
        | true => rw [hpl] at h; exact h.elim
        | false =>
          rw [hpl] at h
          refine ⟨?_, rfl⟩
          have h : exec C call b id o.dst s _ _ o.op (.eld x off e' i ag) := h
          simp only [exec] at h
          split at h
          · rename_i ho _ _; rw [ho]; rfl
          · exact h.elim
    have h5 := e5 s' (fun hr => ha.L (hld hr)) k kp hk
    cases hr : rq S C.P (getN N (s.over b)) o.op with
    | ld x off n ag =>
      have := (hld (.inl ⟨x, off, n, ag, hr⟩)).2
      rw [this]
      rw [hr] at h5
      exact h5
    | eld x off e' i ag =>
      have := (hld (.inr ⟨x, off, e', i, ag, hr⟩)).2
      rw [this]
      rw [hr] at h5
      exact h5
    | tld q n e' i ag =>
      rw [hr] at h
      cases hpl : ptLoad C.P ops o.op with
      | true => rw [hpl] at h; exact h.elim
      | false =>
        rw [hpl] at h
        have h : exec C call b id o.dst s _ _ o.op (.tld q n e' i ag) := h
        simp only [exec] at h
        rw [hdr] at h
        exact h.elim
    | _ => rw [hr] at h5; cases ptLoad C.P ops o.op <;> exact h5
theorem step_quiet (hdr : C.dr = true) (hq : quietOp o.op = true) (h : stepS C N call b ops id o s k kp) (hin : ∀ x, inV Q (evA (getN N (s.over b)) x)) (hL : ∀ i ps, (s.over b).L i = some ps → ∀ p ∈ ps.cs, in1 Q p) :
    ∃ e : Eff S.A, QEff C N call b ops id o s e ∧ Nat.blt e.d N = true ∧ k (e.app s) ∧ (inV (fun n => Q n ∨ n = id) e.p ∧ (∀ i cs, e.m = .L i cs → ∀ p ∈ cs.cs, in1 (fun n => Q n ∨ n = id) p) ∧ (allocB o.op = false → e.m = .no)) := by
  obtain ⟨hd, h⟩ := h
  have lt : ∀ {d}, o.dst = some d → Nat.blt d N = true := fun e => by rw [e] at hd; exact hd
  cases hg : o.guard with
  | none =>
    rw [hg] at h
    obtain ⟨e, e1, e2, e3, e4, e5⟩ := go_quiet (ops := ops) hdr hq h hin hL
    refine ⟨e, ⟨e1, e2, fun s' ha k kp hk => ⟨hd, ?_⟩⟩, lt e1, e3, e4⟩
    rw [hg]
    exact e5 s' ha k kp hk
  | some jw =>
    obtain ⟨j, w⟩ := jw
    rw [hg] at h
    simp only at h
    split at h
    · rename_i g d hj hdd
      obtain ⟨h1, h2, h3⟩ := h
      have off : (getN N (s.over b) g = .und ∨ boolA (getN N (s.over b) g) = some (!w)) → k (s.put d .und) → ∃ e : Eff S.A, QEff C N call b ops id o s e ∧ Nat.blt e.d N = true ∧ k (e.app s) ∧ (inV (fun n => Q n ∨ n = id) e.p ∧ (∀ i cs, e.m = .L i cs → ∀ p ∈ cs.cs, in1 (fun n => Q n ∨ n = id) p) ∧ (allocB o.op = false → e.m = .no)) := by
        intro hu hk
        refine ⟨⟨d, .und, .no⟩, ⟨hdd, trivial, fun s' ha k kp hk => ⟨hd, ?_⟩⟩, lt hdd, hk, ⟨trivial, (fun i cs e => by cases e), fun _ => rfl⟩⟩
        rw [hg]
        simp only [hj, hdd]
        rw [ha.gd hg hj]
        rcases hu with hu | hu
        · exact ⟨fun _ => hk, fun v hv => (by rw [hu] at hv; cases hv), .inl hu⟩
        · exact ⟨fun _ => hk, fun v hv => ⟨fun e => (by rw [hu] at hv; cases hv; cases w <;> cases e), fun _ => hk⟩, .inr ⟨_, hu⟩⟩
      rcases h3 with hu | ⟨v, hv⟩
      · exact off (.inl hu) (h1 hu)
      · cases hvw : eqB v w with
        | false =>
          have e := eqB_ne.1 hvw
          exact off (.inr (by rw [hv, e])) ((h2 v hv).2 e)
        | true =>
          obtain rfl := eqB_eq.1 hvw
          obtain ⟨e, e1, e2, e3, e4, e5⟩ := go_quiet (ops := ops) hdr hq ((h2 v hv).1 rfl) hin hL
          refine ⟨e, ⟨e1, e2, fun s' ha k kp hk => ⟨hd, ?_⟩⟩, lt e1, e3, e4⟩
          rw [hg]
          simp only [hj, hdd]
          rw [ha.gd hg hj]
          refine ⟨fun hu => (by rw [hu] at hv; cases hv), fun v' hv' => ?_, .inr ⟨v, hv⟩⟩
          obtain rfl : v = v' := by rw [hv] at hv'; exact Option.some.inj hv'
          refine ⟨fun _ => ?_, fun e => (by cases v <;> cases e)⟩
          have := e5 s' ha k kp hk
          rw [hdd] at this
          exact this
    · exact h.elim
/-! ### What a quiet operation did may as well be done later -/
theorem bne {i j : Nat} (h : i ≠ j) : Nat.beq i j = false := nbeq h
section comm
variable {e : Eff S.A} {ide : Nat}
theorem xs_ext {s s' : XS S.A} (h1 : ∀ k, s.env k = s'.env k) (h2 : ∀ k, s.L k = s'.L k) (h3 : ∀ k, s.T k = s'.T k) (h4 : s.c = s'.c) : s = s' := by
  obtain ⟨a1, a2, a3, a4⟩ := s
  obtain ⟨b1, b2, b3, b4⟩ := s'
  simp only at h1 h2 h3 h4
  simp only [XS.mk.injEq]
  exact ⟨funext h1, funext h2, funext h3, h4⟩
theorem swp {α : Type} {k d d' : Nat} {x y z : α} (h : d ≠ d') : (bif Nat.beq k d' then x else bif Nat.beq k d then y else z) = (bif Nat.beq k d then y else bif Nat.beq k d' then x else z) := by
  cases hk : Nat.beq k d with
  | false => rfl
  | true =>
    obtain rfl := Nat.eq_of_beq_eq_true hk
    rw [bne h]
    rfl
theorem app_put {d : Nat} {p : AV S.A} (h : d ≠ e.d) : e.app (s.put d p) = (e.app s).put d p := by
  obtain ⟨d', p', m⟩ := e
  cases m <;> exact xs_ext (fun k => swp h) (fun k => rfl) (fun k => rfl) rfl
theorem app_setL {i : Nat} {cs : Bx S.A} (ha : e.m.at ide) (h : i ≠ ide) : e.app (s.setL i cs) = (e.app s).setL i cs := by
  obtain ⟨d', p', m⟩ := e
  cases m with
  | no => rfl
  | L j cs' => obtain rfl := ha; exact xs_ext (fun k => rfl) (fun k => swp h) (fun k => rfl) rfl
  | T j sz n => rfl
theorem app_setT {i sz n : Nat} (ha : e.m.at ide) (h : i ≠ ide) : e.app (s.setT i sz n) = (e.app s).setT i sz n := by
  obtain ⟨d', p', m⟩ := e
  cases m with
  | no => rfl
  | L j cs' => rfl
  | T j sz' n' => obtain rfl := ha; exact xs_ext (fun k => rfl) (fun k => rfl) (fun k => swp h) rfl
theorem app_setP {i sz t : Nat} {l : List (S.A t)} (ha : e.m.at ide) (h : i ≠ ide) : e.app (s.setP i sz t l) = (e.app s).setP i sz t l := by
  obtain ⟨d', p', m⟩ := e
  cases m with
  | no => rfl
  | L j cs' => rfl
  | T j sz' n' => obtain rfl := ha; exact xs_ext (fun k => rfl) (fun k => rfl) (fun k => swp h) rfl
theorem app_withM {m : XS S.A} (h : e.m = .no) : e.app (s.withM m) = (e.app s).withM m := by
  obtain ⟨d', p', m'⟩ := e
  obtain rfl := h
  rfl
theorem app_mem (h : e.m = .no) : (e.app s).mem = s.mem := by
  obtain ⟨d', p', m'⟩ := e
  obtain rfl := h
  rfl
theorem getN_app {x : Nat} (h : x ≠ e.d) : getN N ((e.app s).over b) x = getN N (s.over b) x := by
  show getN N (((e.m.app s).put e.d e.p).over b) x = _
  rw [getN_put, bne h]
  obtain ⟨d', p', m⟩ := e
  cases m <;> rfl
theorem L_app {x : Nat} (ha : e.m.at ide) (h : x ≠ ide) : ((e.app s).over b).L x = (s.over b).L x := by
  obtain ⟨d', p', m⟩ := e
  cases m with
  | no => rfl
  | L j cs =>
    obtain rfl := ha
    show orE (bif Nat.beq x j then some cs else s.L x) (b.L x) = orE (s.L x) (b.L x)
    rw [bne h]; rfl
  | T j sz n => rfl
theorem T_app {x : Nat} (ha : e.m.at ide) (h : x ≠ ide) : ((e.app s).over b).T x = (s.over b).T x := by
  obtain ⟨d', p', m⟩ := e
  cases m with
  | no => rfl
  | L j cs => rfl
  | T j sz n =>
    obtain rfl := ha
    show orE (bif Nat.beq x j then some ⟨sz, n, none⟩ else s.T x) (b.T x) = orE (s.T x) (b.T x)
    rw [bne h]; rfl
/-- What is the same behind an operation. -/
structure Same (C : Cfg S) (N : Nat) (b : XS S.A) (d : Option Nat) (op : Op) (s s1 : XS S.A) : Prop where
  get : ∀ x, d ≠ some x → getN N (s1.over b) x = getN N (s.over b) x
  L : memB C op = false → ∀ x ps, (s.over b).L x = some ps → (s1.over b).L x = some ps
theorem same_put {d : Option Nat} {op : Op} {s1 : XS S.A} (h : Same C N b d op s s1) {x : Nat} {p : AV S.A} (hd : d = some x) : Same C N b d op s (s1.put x p) := by
  refine ⟨fun y hy => ?_, fun hm => h.L hm⟩
  rw [getN_put, bne (fun e => by subst e; exact hy hd)]
  exact h.get y hy
theorem same_mem {d : Option Nat} {op : Op} {s1 : XS S.A} (he : s1.env = s.env) (hL : memB C op = false → ∀ x ps, (s.over b).L x = some ps → (s1.over b).L x = some ps) : Same C N b d op s s1 := by
  refine ⟨fun y hy => ?_, hL⟩
  unfold getN XS.get XS.over
  simp only [he]
variable (hcm : ∀ f args m k k' kp kp', (∀ r m, k r m → k' r m) → (∀ r m, kp r m → kp' r m) → call f args m k kp → call f args m k' kp') (hkm : ∀ f W, Ab.look C.K f = some (.tr W) → ∀ args k k', (∀ r, k r → k' r) → W args k → W args k')
include hcm hkm
theorem exec_mono {op : Op} {d : Option Nat} {r : Rq S.A} {k k' : XS S.A → Prop} {kp kp' : AV S.A → XS S.A → Prop} (hk : ∀ s, k s → k' s) (hp : ∀ p s, kp p s → kp' p s) (h : exec C call b id d s k kp op r) : exec C call b id d s k' kp' op r := by
  cases r with
  | call f args =>
    simp only [exec] at h ⊢
    split at h
    · cases hb : (fnB C.P f && args.all flatA) with
      | false => rw [hb] at h; exact h.elim
      | true =>
        rw [hb] at h
        simp only [cond_true] at h ⊢
        split at h
        · rename_i W hW; exact hkm f W hW args _ _ (fun r hr => hk _ hr) h
        · split at h
          · exact hk _ h
          · exact h
        · split at h
          · split at h
            · split at h
              · rename_i hu
                rw [dif_pos hu]
                exact bif_imp (fun e => ⟨e.1, fun y h1 h2 => hk _ (e.2 y h1 h2)⟩) h
              · exact h.elim
            · exact h.elim
          · exact bif_imp (fun e => hk _ e) h
          · exact h.elim
        · split at h
          · rename_i e1 _ _ _ _ _ _
            cases hm : memN e1 C.mt with
            | true => rw [hm] at h; exact ⟨h.1, fun y hy => hk _ (h.2 y hy)⟩
            | false => rw [hm] at h; exact ⟨h.1, fun y hy => hk _ (h.2 y hy)⟩
          · exact h.elim
        · exact hcm f args _ _ _ _ _ (fun r m hr => hk _ hr) (fun p m hr => hp _ _ hr) h
    · exact h
  | bad => exact h
  | panic p =>
    simp only [exec] at h ⊢
    split at h
    · cases hd : C.dr with
      | true => rw [hd] at h; exact h.elim
      | false => rw [hd] at h; exact hp _ _ h
    · exact h.elim
  | ch c => simp only [exec] at h ⊢; split at h <;> first | exact fun v hv => hk _ (h v hv) | exact h
  | eld x off e' i ag =>
    simp only [exec] at h ⊢
    split at h
    · split at h
      · rename_i hu
        rw [dif_pos hu]
        exact bif_imp (fun e => ⟨e.1, hk _ e.2⟩) h
      · exact h.elim
    · exact h.elim
  | est x off e' i v =>
    simp only [exec] at h ⊢
    split at h
    · split at h
      · rename_i hu
        rw [dif_pos hu]
        exact bif_imp (fun e => ⟨e.1, hk _ e.2⟩) h
      · exact h.elim
    · exact h.elim
  | tld q n e' i ag =>
    simp only [exec] at h ⊢
    split at h
    · split at h
      · rename_i hu
        rw [dif_pos hu]
        exact bif_imp (fun e => ⟨e.1, hk _ e.2⟩) h
      · exact h.elim
    · exact h.elim
  | tst q n e' i v =>
    simp only [exec] at h ⊢
    split at h
    · split at h
      · rename_i hu
        rw [dif_pos hu]
        exact bif_imp (fun e => ⟨e.1, hk _ e.2⟩) h
      · exact h.elim
    · exact h.elim
  | papp q t bytes n ext =>
    simp only [exec] at h ⊢
    split at h
    · rename_i sz m u l pad _
      cases hb : Nat.beq sz (szOf S t) with
      | false => rw [hb] at h; exact h.elim
      | true =>
        rw [hb] at h
        simp only [Bool.not_true, cond_false] at h ⊢
        split at h
        · rename_i hu
          rw [dif_pos hu]
          exact ⟨h.1, fun y hy => hk _ (h.2 y hy)⟩
        · exact h.elim
    · exact h
  | v p => simp only [exec] at h ⊢; split at h <;> first | exact hk _ h | exact h
  | vc c p => simp only [exec] at h ⊢; split at h <;> first | exact ⟨h.1, hk _ h.2⟩ | exact h
  | ld x off n ag =>
    simp only [exec] at h ⊢
    split at h
    · rename_i ps _
      cases hb : (Nat.beq ((ps.cs.drop off).take n).length n && (ag || Nat.beq n 1)) with
      | false => rw [hb] at h; exact h.elim
      | true => rw [hb] at h; exact hk _ h
    · exact h
  | box bx =>
    simp only [exec] at h ⊢
    split at h
    · cases hb : bx.cs.all isCell with
      | false => rw [hb] at h; exact h.elim
      | true => rw [hb] at h; exact hk _ h
    · cases hb : bx.cs.all isCell with
      | false => rw [hb] at h; exact h.elim
      | true => rw [hb] at h; exact hk _ h
    · exact h
  | st x off n cs =>
    simp only [exec] at h ⊢
    split at h
    · rename_i ps _
      cases hb : (Nat.beq cs.length n && (Nat.ble (off + n) ps.cs.length && cs.all isCell)) with
      | false => rw [hb] at h; exact h.elim
      | true => rw [hb] at h; exact hk _ h
    · exact h
  | tip t l => simp only [exec] at h ⊢; split at h <;> first | exact hk _ h | exact h
  | app q t bytes l ext =>
    simp only [exec] at h ⊢
    split at h
    · rename_i c _ sz m _
      cases hb : Nat.beq sz (szOf S t) with
      | false => rw [hb] at h; exact h.elim
      | true =>
        rw [hb] at h
        simp only [Bool.not_true, cond_false] at h ⊢
        cases hm : (memN t C.mt && sameT c) with
        | true => rw [hm] at h; exact ⟨h.1, fun y hy => hk _ (h.2 y hy)⟩
        | false => rw [hm] at h; exact ⟨h.1, fun y hy => hk _ (h.2 y hy)⟩
    · exact h
  | app0 t bytes ext =>
    simp only [exec] at h ⊢
    split at h
    · cases hm : memN t C.mt with
      | true => rw [hm] at h; exact ⟨h.1, fun y hy => hk _ (h.2 y hy)⟩
      | false => rw [hm] at h; exact ⟨h.1, fun y hy => hk _ (h.2 y hy)⟩
    · exact h
theorem exec_env {ds : List Nat} {e0 : Nat → Option (AV S.A)} {op : Op} {d : Option Nat} {r : Rq S.A} {k : XS S.A → Prop} {kp : AV S.A → XS S.A → Prop} (hd : ∀ x, d = some x → x ∈ ds) (hs : ∀ j, j ∉ ds → s.env j = e0 j) (h : exec C call b id d s k kp op r) :
    exec C call b id d s (fun s1 => k s1 ∧ ∀ j, j ∉ ds → s1.env j = e0 j) (fun p s1 => kp p s1 ∧ ∀ j, j ∉ ds → s1.env j = e0 j) op r := by
  have pt : ∀ {s1 : XS S.A} {x : Nat} {p : AV S.A}, d = some x → s1.env = s.env → ∀ j, j ∉ ds → (s1.put x p).env j = e0 j := by
    intro s1 x p hx he j hj
    show (bif Nat.beq j x then some p else s1.env j) = e0 j
    rw [bne (fun e => hj (by subst e; exact hd _ hx)), he]
    exact hs j hj
  cases r with
  | call f args =>
    simp only [exec] at h ⊢
    split at h
    · cases hb : (fnB C.P f && args.all flatA) with
      | false => rw [hb] at h; exact h.elim
      | true =>
        rw [hb] at h
        simp only [cond_true] at h ⊢
        split at h
        · rename_i W hW; exact hkm f W hW args _ _ (fun r hr => ⟨hr, pt rfl rfl⟩) h
        · split at h
          · exact ⟨h, pt rfl rfl⟩
          · exact h
        · split at h
          · split at h
            · split at h
              · rename_i hu
                rw [dif_pos hu]
                exact bif_imp (fun e => ⟨e.1, fun y h1 h2 => ⟨e.2 y h1 h2, pt rfl rfl⟩⟩) h
              · exact h.elim
            · exact h.elim
          · exact bif_imp (fun e => ⟨e, pt rfl rfl⟩) h
          · exact h.elim
        · split at h
          · rename_i e1 _ _ _ _ _ _
            cases hm : memN e1 C.mt with
            | true => rw [hm] at h; exact ⟨h.1, fun y hy => ⟨h.2 y hy, pt rfl rfl⟩⟩
            | false => rw [hm] at h; exact ⟨h.1, fun y hy => ⟨h.2 y hy, pt rfl rfl⟩⟩
          · exact h.elim
        · exact hcm f args _ _ _ _ _ (fun r m hr => ⟨hr, pt rfl rfl⟩) (fun p m hr => ⟨hr, hs⟩) h
    · exact h
  | bad => exact h
  | panic p =>
    simp only [exec] at h ⊢
    split at h
    · cases hd : C.dr with
      | true => rw [hd] at h; exact h.elim
      | false => rw [hd] at h; exact ⟨h, hs⟩
    · exact h.elim
  | ch c => simp only [exec] at h ⊢; split at h <;> first | exact fun v hv => ⟨h v hv, pt rfl rfl⟩ | exact h
  | eld x off e' i ag =>
    simp only [exec] at h ⊢
    split at h
    · split at h
      · rename_i hu
        rw [dif_pos hu]
        exact bif_imp (fun e => ⟨e.1, ⟨e.2, pt rfl rfl⟩⟩) h
      · exact h.elim
    · exact h.elim
  | est x off e' i v =>
    simp only [exec] at h ⊢
    split at h
    · split at h
      · rename_i hu
        rw [dif_pos hu]
        exact bif_imp (fun e => ⟨e.1, ⟨e.2, hs⟩⟩) h
      · exact h.elim
    · exact h.elim
  | tld q n e' i ag =>
    simp only [exec] at h ⊢
    split at h
    · split at h
      · rename_i hu
        rw [dif_pos hu]
        exact bif_imp (fun e => ⟨e.1, ⟨e.2, pt rfl rfl⟩⟩) h
      · exact h.elim
    · exact h.elim
  | tst q n e' i v =>
    simp only [exec] at h ⊢
    split at h
    · split at h
      · rename_i hu
        rw [dif_pos hu]
        exact bif_imp (fun e => ⟨e.1, ⟨e.2, hs⟩⟩) h
      · exact h.elim
    · exact h.elim
  | papp q t bytes n ext =>
    simp only [exec] at h ⊢
    split at h
    · rename_i sz m u l pad _
      cases hb : Nat.beq sz (szOf S t) with
      | false => rw [hb] at h; exact h.elim
      | true =>
        rw [hb] at h
        simp only [Bool.not_true, cond_false] at h ⊢
        split at h
        · rename_i hu
          rw [dif_pos hu]
          exact ⟨h.1, fun y hy => ⟨h.2 y hy, pt rfl rfl⟩⟩
        · exact h.elim
    · exact h
  | v p => simp only [exec] at h ⊢; split at h <;> first | exact ⟨h, pt rfl rfl⟩ | exact h
  | vc c p => simp only [exec] at h ⊢; split at h <;> first | exact ⟨h.1, ⟨h.2, pt rfl rfl⟩⟩ | exact h
  | ld x off n ag =>
    simp only [exec] at h ⊢
    split at h
    · rename_i ps _
      cases hb : (Nat.beq ((ps.cs.drop off).take n).length n && (ag || Nat.beq n 1)) with
      | false => rw [hb] at h; exact h.elim
      | true => rw [hb] at h; exact ⟨h, pt rfl rfl⟩
    · exact h
  | box bx =>
    simp only [exec] at h ⊢
    split at h
    · cases hb : bx.cs.all isCell with
      | false => rw [hb] at h; exact h.elim
      | true => rw [hb] at h; exact ⟨h, pt rfl rfl⟩
    · cases hb : bx.cs.all isCell with
      | false => rw [hb] at h; exact h.elim
      | true => rw [hb] at h; exact ⟨h, pt rfl rfl⟩
    · exact h
  | st x off n cs =>
    simp only [exec] at h ⊢
    split at h
    · rename_i ps _
      cases hb : (Nat.beq cs.length n && (Nat.ble (off + n) ps.cs.length && cs.all isCell)) with
      | false => rw [hb] at h; exact h.elim
      | true => rw [hb] at h; exact ⟨h, hs⟩
    · exact h
  | tip t l => simp only [exec] at h ⊢; split at h <;> first | exact ⟨h, pt rfl rfl⟩ | exact h
  | app q t bytes l ext =>
    simp only [exec] at h ⊢
    split at h
    · rename_i c _ sz m _
      cases hb : Nat.beq sz (szOf S t) with
      | false => rw [hb] at h; exact h.elim
      | true =>
        rw [hb] at h
        simp only [Bool.not_true, cond_false] at h ⊢
        cases hm : (memN t C.mt && sameT c) with
        | true => rw [hm] at h; exact ⟨h.1, fun y hy => ⟨h.2 y hy, pt rfl rfl⟩⟩
        | false => rw [hm] at h; exact ⟨h.1, fun y hy => ⟨h.2 y hy, pt rfl rfl⟩⟩
    · exact h
  | app0 t bytes ext =>
    simp only [exec] at h ⊢
    split at h
    · cases hm : memN t C.mt with
      | true => rw [hm] at h; exact ⟨h.1, fun y hy => ⟨h.2 y hy, pt rfl rfl⟩⟩
      | false => rw [hm] at h; exact ⟨h.1, fun y hy => ⟨h.2 y hy, pt rfl rfl⟩⟩
    · exact h
theorem go_mono {op : Op} {pl : Bool} {d : Option Nat} {k k' : XS S.A → Prop} {kp kp' : AV S.A → XS S.A → Prop} (hk : ∀ s, k s → k' s) (hp : ∀ p s, kp p s → kp' p s) (h : goS C pl N call b id d s k kp op) : goS C pl N call b id d s k' kp' op := by
  unfold goS at h ⊢
  split at h
  · split at h
    · exact ⟨fun e => hk _ (h.1 e), fun e => hk _ (h.2 e)⟩
    · exact h
  · exact exec_mono hcm hkm hk hp h
theorem step_mono {k k' : XS S.A → Prop} {kp kp' : AV S.A → XS S.A → Prop} (hk : ∀ s, k s → k' s) (hp : ∀ p s, kp p s → kp' p s) (h : stepS C N call b ops id o s k kp) : stepS C N call b ops id o s k' kp' := by
  obtain ⟨h0, h⟩ := h
  refine ⟨h0, ?_⟩
  cases hg : o.guard with
  | none => rw [hg] at h; exact go_mono hcm hkm hk hp h
  | some jw =>
    rw [hg] at h
    simp only at h ⊢
    split at h
    · exact ⟨fun e => hk _ (h.1 e), fun v hv => ⟨fun e => go_mono hcm hkm hk hp ((h.2.1 v hv).1 e), fun e => hk _ ((h.2.1 v hv).2 e)⟩, h.2.2⟩
    · exact h
theorem go_env {ds : List Nat} {e0 : Nat → Option (AV S.A)} {op : Op} {pl : Bool} {d : Option Nat} {k : XS S.A → Prop} {kp : AV S.A → XS S.A → Prop} (hd : ∀ x, d = some x → x ∈ ds) (hs : ∀ j, j ∉ ds → s.env j = e0 j) (h : goS C pl N call b id d s k kp op) :
    goS C pl N call b id d s (fun s1 => k s1 ∧ ∀ j, j ∉ ds → s1.env j = e0 j) (fun p s1 => kp p s1 ∧ ∀ j, j ∉ ds → s1.env j = e0 j) op := by
  have pt : ∀ {x : Nat} {p : AV S.A}, d = some x → ∀ j, j ∉ ds → (s.put x p).env j = e0 j := by
    intro x p hx j hj
    show (bif Nat.beq j x then some p else s.env j) = e0 j
    rw [bne (fun e => hj (by subst e; exact hd _ hx))]
    exact hs j hj
  unfold goS at h ⊢
  split at h
  · split at h
    · exact ⟨fun e => ⟨h.1 e, pt rfl⟩, fun e => ⟨h.2 e, pt rfl⟩⟩
    · exact h
  · exact exec_env hcm hkm hd hs h
theorem step_env {ds : List Nat} {e0 : Nat → Option (AV S.A)} {k : XS S.A → Prop} {kp : AV S.A → XS S.A → Prop} (hd : ∀ x, o.dst = some x → x ∈ ds) (hs : ∀ j, j ∉ ds → s.env j = e0 j) (h : stepS C N call b ops id o s k kp) :
    stepS C N call b ops id o s (fun s1 => k s1 ∧ ∀ j, j ∉ ds → s1.env j = e0 j) (fun p s1 => kp p s1 ∧ ∀ j, j ∉ ds → s1.env j = e0 j) := by
  obtain ⟨h0, h⟩ := h
  refine ⟨h0, ?_⟩
  cases hg : o.guard with
  | none => rw [hg] at h; exact go_env hcm hkm hd hs h
  | some jw =>
    rw [hg] at h
    simp only at h ⊢
    split at h
    · rename_i g d hgd hod
      have pt : ∀ j, j ∉ ds → (s.put d .und).env j = e0 j := by
        intro j hj
        show (bif Nat.beq j d then some _ else s.env j) = e0 j
        rw [bne (fun e => hj (by subst e; exact hd _ hod))]
        exact hs j hj
      refine ⟨fun e => ⟨h.1 e, pt⟩, fun v hv => ⟨fun e => go_env hcm hkm hd hs ((h.2.1 v hv).1 e), fun e => ⟨(h.2.1 v hv).2 e, pt⟩⟩, h.2.2⟩
    · exact h
theorem exec_comm (hdr : C.dr = true) {op : Op} {d : Option Nat} {r : Rq S.A} (hr : r = rq S C.P (getN N (s.over b)) op) (hkp : ∀ p (M' s' : XS S.A), M'.L = s'.L → M'.T = s'.T → M'.c = s'.c → kp p M' → kp p s')
    (hin : ∀ x, inV Q (evA (getN N (s.over b)) x)) (hL : ∀ i ps, (s.over b).L i = some ps → Q i) (hat : e.m.at ide) (he : ¬ Q ide) (hid : ¬ Q id) (hne : id ≠ ide) (hd : d ≠ some e.d) (hinl : inlB C op = true → e.m = .no)
    (h : exec C call b id d (e.app s) k kp op r) : exec C call b id d s (fun s1 => k (e.app s1) ∧ Same C N b d op s s1) kp op r := by
  have put : ∀ {x : Nat} {p : AV S.A} {s' : XS S.A}, d = some x → Same C N b d op s s' → k ((e.app s').put x p) → k (e.app (s'.put x p)) ∧ Same C N b d op s (s'.put x p) := by
    intro x p s' hx hs hk
    refine ⟨?_, same_put hs hx⟩
    rw [app_put (fun h => by subst h; exact hd hx)]
    exact hk
  have self : Same C N b d op s s := same_mem rfl fun _ x ps h => h
  have boxS : ∀ cs, Same C N b d op s (s.setL id cs) := fun cs => same_mem rfl fun _ x ps hx => by
    show orE (bif Nat.beq x id then some cs else s.L x) (b.L x) = some ps
    rw [bne (fun e => by subst e; exact hid (hL _ _ hx))]
    exact hx
  have tipS : ∀ i sz n, Same C N b d op s (s.setT i sz n) := fun i sz n => same_mem rfl fun _ x ps h => h
  have prvS : ∀ i sz t (l : List (S.A t)), Same C N b d op s (s.setP i sz t l) := fun i sz t l => same_mem rfl fun _ x ps h => h
  cases r with
  | bad => exact h
  | panic p =>
    simp only [exec] at h
    rw [hdr] at h
    split at h <;> exact h.elim
  | ch c =>
    simp only [exec] at h ⊢
    split at h
    · exact fun v hv => put rfl self (h v hv)
    · exact h
  | eld x off e' i ag =>
    simp only [exec] at h ⊢
    split at h
    · rename_i t y d' cs u l pad hps
      have hx : x ≠ ide := by
        intro ex
        subst ex
        obtain ⟨_, hx, _⟩ := eld_args hr.symm
        have := hin y
        rw [hx] at this
        exact he this
      rw [L_app hat hx] at hps
      rw [hps]
      split at h
      · rename_i hu
        simp only
        rw [dif_pos hu]
        exact bif_imp (fun e => ⟨e.1, put rfl self e.2⟩) h
      · exact h.elim
    · exact h.elim
  | est x off e' i v =>
    simp only [exec] at h ⊢
    split at h
    · rename_i t y z cs u l pad hps
      have hx : x ≠ ide := by
        intro ex
        subst ex
        obtain ⟨_, _, hx, _⟩ := est_args hr.symm
        have := hin y
        rw [hx] at this
        exact he this
      rw [L_app hat hx] at hps
      rw [hps]
      split at h
      · rename_i hu
        simp only
        rw [dif_pos hu]
        refine bif_imp (fun e => ⟨e.1, ?_, same_mem rfl fun hm => by cases hm⟩) h
        rw [app_setL hat hx]
        exact e.2
      · exact h.elim
    · exact h.elim
  | tld q n e' i ag =>
    simp only [exec] at h
    rw [hdr] at h
    exact h.elim
  | tst q n e' i v =>
    simp only [exec] at h ⊢
    split at h
    · rename_i t y z sz m u l pad hT
      have hq : q ≠ ide := by
        intro ex
        subst ex
        obtain ⟨_, _, hx, _⟩ := tst_args hr.symm
        have := hin y
        rw [hx] at this
        exact he this
      rw [T_app hat hq] at hT
      rw [hT]
      split at h
      · rename_i hu
        simp only
        rw [dif_pos hu]
        refine bif_imp (fun e => ⟨e.1, ?_, same_mem rfl fun hm => by cases hm⟩) h
        rw [app_setP hat hq]
        exact e.2
      · exact h.elim
    · exact h.elim
  | papp q t bytes n ext =>
    simp only [exec] at h ⊢
    split at h
    · rename_i c d' sz m u l pad hT
      obtain ⟨x, y, u', -, -, -, hx, -⟩ := papp_args (P := C.P) hr.symm
      have hq : q ≠ ide := by
        intro ex
        subst ex
        have := hin x
        rw [hx] at this
        exact he this
      rw [T_app hat hq] at hT
      rw [hT]
      cases hb : Nat.beq sz (szOf S t) with
      | false => rw [hb] at h; exact h.elim
      | true =>
        rw [hb] at h
        simp only [Bool.not_true, cond_false] at h ⊢
        rw [hb]
        simp only [Bool.not_true, cond_false]
        split at h
        · rename_i hu
          rw [dif_pos hu]
          exact ⟨h.1, fun y hy => put rfl (prvS q _ _ _) (by rw [app_setP hat hq]; exact h.2 y hy)⟩
        · exact h.elim
    · exact h.elim
  | v p =>
    simp only [exec] at h ⊢
    split at h
    · exact put rfl self h
    · exact h
  | vc c p =>
    simp only [exec] at h ⊢
    split at h
    · exact ⟨h.1, put rfl self h.2⟩
    · exact h
  | ld x off n ag =>
    simp only [exec] at h ⊢
    split at h
    · rename_i t y d' ps hps
      have hx : x ≠ ide := by
        intro ex
        subst ex
        simp only [rq] at hr
        split at hr
        · rename_i ag' n' ht
          split at hr
          · rename_i x' off' hx
            cases hr
            have := hin y
            rw [hx] at this
            exact he this
          · revert hr; cases (Nat.beq n' (szOf S _) && (ag' || Nat.beq n' 1)) <;> (intro hr; cases hr)
          · revert hr; cases (Nat.beq n' (szOf S _) && (ag' || Nat.beq n' 1)) <;> (intro hr; cases hr)
          · rename_i cs hx
            cases hb2 : (Nat.beq (cs.take n').length n' && (ag' || Nat.beq n' 1)) <;> rw [hb2] at hr <;> cases hr
          · cases hr
        · cases hr
      rw [L_app hat hx] at hps
      rw [hps]
      cases hb : (Nat.beq ((ps.cs.drop off).take n).length n && (ag || Nat.beq n 1)) with
      | false => rw [hb] at h; exact h.elim
      | true => rw [hb] at h; simp only [hb, cond_true]; exact put rfl self h
    · exact h.elim
  | box bx =>
    simp only [exec] at h ⊢
    split at h
    · cases hb : bx.cs.all isCell with
      | false => rw [hb] at h; exact h.elim
      | true => rw [hb] at h; exact put rfl (boxS _) (by rw [app_setL hat hne]; exact h)
    · cases hb : bx.cs.all isCell with
      | false => rw [hb] at h; exact h.elim
      | true => rw [hb] at h; exact put rfl (boxS _) (by rw [app_setL hat hne]; exact h)
    · exact h
  | st x off n cs =>
    simp only [exec] at h ⊢
    split at h
    · rename_i t y z ps hps
      have hx : x ≠ ide := by
        intro ex
        subst ex
        simp only [rq] at hr
        split at hr
        · split at hr
          · rename_i x' off' hx
            cases hr
            have := hin y
            rw [hx] at this
            exact he this
          · split at hr <;> cases hr
          · split at hr <;> cases hr
          · cases hr
        · cases hr
      rw [L_app hat hx] at hps
      rw [hps]
      cases hb : (Nat.beq cs.length n && (Nat.ble (off + n) ps.cs.length && cs.all isCell)) with
      | false => rw [hb] at h; exact h.elim
      | true =>
        rw [hb] at h
        simp only [cond_true] at h ⊢
        rw [hb]
        refine ⟨?_, same_mem rfl fun hm => by cases hm⟩
        rw [app_setL hat hx]
        exact h
    · exact h.elim
  | tip t l =>
    simp only [exec] at h ⊢
    split at h
    · exact put rfl (tipS id _ _) (by rw [app_setT hat hne]; exact h)
    · exact h
  | app q t bytes l ext =>
    simp only [exec] at h ⊢
    split at h
    · rename_i c d' sz m hT
      obtain ⟨x, y, u, u', -, -, -, hx, -⟩ := app_args (P := C.P) hr.symm
      have hq : q ≠ ide := by
        intro ex
        subst ex
        have := hin x
        rw [hx] at this
        exact he this
      rw [T_app hat hq] at hT
      rw [hT]
      cases hb : Nat.beq sz (szOf S t) with
      | false => rw [hb] at h; exact h.elim
      | true =>
        rw [hb] at h
        simp only [Bool.not_true, cond_false] at h ⊢
        rw [hb]
        simp only [Bool.not_true, cond_false]
        cases hm : (memN t C.mt && sameT c) with
        | true => rw [hm] at h; exact ⟨h.1, fun y hy => put rfl (prvS q _ _ _) (by rw [app_setP hat hq]; exact h.2 y hy)⟩
        | false => rw [hm] at h; exact ⟨h.1, fun y hy => put rfl (tipS q _ _) (by rw [app_setT hat hq]; exact h.2 y hy)⟩
    · exact h.elim
  | app0 t bytes ext =>
    simp only [exec] at h ⊢
    split at h
    · cases hm : memN t C.mt with
      | true => rw [hm] at h; exact ⟨h.1, fun y hy => put rfl (prvS id _ _ _) (by rw [app_setP hat hne]; exact h.2 y hy)⟩
      | false => rw [hm] at h; exact ⟨h.1, fun y hy => put rfl (tipS id _ _) (by rw [app_setT hat hne]; exact h.2 y hy)⟩
    · exact h
  | call f args =>
    simp only [exec] at h ⊢
    split at h
    · rename_i c d'
      cases hb : (fnB C.P f && args.all flatA) with
      | false => rw [hb] at h; exact h.elim
      | true =>
        rw [hb] at h
        simp only [cond_true] at h ⊢
        split at h
        · rename_i W hW
          exact hkm f W hW args _ _ (fun r hr => put rfl self hr) h
        · split at h
          · exact put rfl self h
          · exact h
        · rename_i e' gc R' hS
          split at h
          · rename_i q u n p
            split at h
            · rename_i sz m u' l pad hcl hT
              have hq : q ≠ ide := by
                intro ex
                subst ex
                obtain ⟨x, ls, -, hargs, -⟩ := call_args (P := C.P) hr.symm
                have hm : (AV.prv q u n : AV S.A) ∈ [AV.prv q u n, p] := by simp
                rw [hargs] at hm
                rcases List.mem_append.1 hm with hm | hm
                · obtain ⟨z, _, hz⟩ := List.mem_map.1 hm
                  have := hin z
                  rw [hz] at this
                  exact he this
                · obtain ⟨z, _, hz⟩ := List.mem_map.1 hm
                  cases z <;> cases hz
              rw [T_app hat hq] at hT
              simp only [hcl, hT]
              split at h
              · rename_i hu
                rw [dif_pos hu]
                exact bif_imp (fun e => ⟨e.1, fun y h1 h2 => put rfl (prvS q _ _ _) (by rw [app_setP hat hq]; exact e.2 y h1 h2)⟩) h
              · exact h.elim
            · exact h.elim
          · exact bif_imp (fun e => put rfl self e) h
          · exact h.elim
        · split at h
          · rename_i e1 _ _ _ _ _ _
            cases hm : memN e1 C.mt with
            | true => rw [hm] at h; exact ⟨h.1, fun y hy => put rfl (prvS id _ _ _) (by rw [app_setP hat hne]; exact h.2 y hy)⟩
            | false => rw [hm] at h; exact ⟨h.1, fun y hy => put rfl (tipS id _ _) (by rw [app_setT hat hne]; exact h.2 y hy)⟩
          · exact h.elim
        · rename_i hnone
          have hinlT : inlB C (.call c) = true := by
            obtain ⟨x, ls, hc, -, hx⟩ := call_args (P := C.P) hr.symm
            unfold inlB
            simp only [hc]
            cases x with
            | func f' =>
              have : f' = f := by
                rcases hx with ⟨h1, _⟩ | h1
                · have h1 : (AV.sc (.func (.func f') #[] #[]) : AV S.A) = .sc (.func (.func f) #[] #[]) := h1
                  cases h1; rfl
                · have h1 : (AV.sc (.func (.func f') #[] #[]) : AV S.A) = .clo f ls := h1
                  cases h1
              subst this
              simp only [hnone]
            | _ => rfl
          have hno := hinl hinlT
          rw [app_mem hno] at h
          refine hcm f args _ _ _ (fun p m => kp p ((e.app s).withM m)) _ (fun r m hr => ?_) (fun p m hp => hkp p ((e.app s).withM m) (s.withM m) rfl rfl rfl hp) h
          have hs : Same C N b (some d') (.call c) s (s.withM m) := same_mem rfl fun hm => by
            have hm : inlB C (.call c) = false := hm
            rw [hinlT] at hm
            cases hm
          refine put rfl hs ?_
          rw [app_withM hno]
          exact hr
    · exact h
omit hcm hkm in
theorem ev_app {x : Operand} (h : ∀ t, x = .tmp t → t ≠ e.d) : evA (getN N ((e.app s).over b)) x = evA (getN N (s.over b)) x :=
  ev_agree fun t ht => getN_app (h t ht)
theorem step_comm (hdr : C.dr = true) (hkp : ∀ p (M' s' : XS S.A), M'.L = s'.L → M'.T = s'.T → M'.c = s'.c → kp p M' → kp p s')
    (hin : ∀ x, inV Q (evA (getN N (s.over b)) x)) (hL : ∀ i ps, (s.over b).L i = some ps → Q i) (hat : e.m.at ide) (he : ¬ Q ide) (hid : ¬ Q id) (hne : id ≠ ide) (hd : o.dst ≠ some e.d) (hrd : e.d ∉ readsO ops o) (hinl : inlB C o.op = true → e.m = .no)
    (h : stepS C N call b ops id o (e.app s) k kp) : stepS C N call b ops id o s (fun s1 => k (e.app s1) ∧ Same C N b o.dst o.op s s1) kp := by
  have hop : ∀ x ∈ o.op.operands.toList, evA (getN N ((e.app s).over b)) x = evA (getN N (s.over b)) x :=
    fun x hx => ev_app fun t ht ex => hrd (by subst ht; subst ex; exact List.mem_append_left _ (uses_mem hx))
  have put : ∀ {x : Nat} {p : AV S.A}, o.dst = some x → k ((e.app s).put x p) → k (e.app (s.put x p)) ∧ Same C N b o.dst o.op s (s.put x p) := by
    intro x p hx hk
    refine ⟨?_, same_put (same_mem rfl fun _ x ps h => h) hx⟩
    rw [app_put (fun h => by subst h; exact hd hx)]
    exact hk
  have go : goS C (ptLoad C.P ops o.op) N call b id o.dst (e.app s) k kp o.op → goS C (ptLoad C.P ops o.op) N call b id o.dst s (fun s1 => k (e.app s1) ∧ Same C N b o.dst o.op s s1) kp o.op := by
    intro h
    by_cases hp : ∃ c x y, o.op = .pick c x y
    · obtain ⟨c, x, y, ho⟩ := hp
      rw [ho] at h hop ⊢
      simp only [goS] at h ⊢
      rw [hop c (by simp [Op.operands]), hop x (by simp [Op.operands]), hop y (by simp [Op.operands])] at h
      split at h
      · rename_i d v hdd hv
        rw [hdd]
        rw [hdd, ho] at put
        exact ⟨fun ev => put rfl (h.1 ev), fun ev => put rfl (h.2 ev)⟩
      · exact h.elim
    · have eq : ∀ s' (k : XS S.A → Prop) kp, goS C (ptLoad C.P ops o.op) N call b id o.dst s' k kp o.op = exec C call b id o.dst s' k kp o.op (rqP (ptLoad C.P ops o.op) (rq S C.P (getN N (s'.over b)) o.op)) := by
        intro s' k kp
        unfold goS
        split
        · rename_i c x y ho; exact absurd ⟨c, x, y, ho⟩ hp
        · rfl
      rw [eq] at h ⊢
      rw [rq_congr hop] at h
      have h2 := exec_comm hcm hkm hdr rfl hkp hin hL hat he hid hne hd hinl (exec_rqP h)
      generalize rq S C.P (getN N (s.over b)) o.op = r at h h2
      cases r with
      | ld x off n ag =>
        cases hpl : ptLoad C.P ops o.op with
        | true => rw [hpl] at h; exact h.elim
        | false => exact h2
      | eld x off e' i ag =>
        cases hpl : ptLoad C.P ops o.op with
        | true => rw [hpl] at h; exact h.elim
        | false => exact h2
      | tld q n e' i ag =>
        cases hpl : ptLoad C.P ops o.op with
        | true => rw [hpl] at h; exact h.elim
        | false => exact h2
      | _ => cases ptLoad C.P ops o.op <;> exact h2
  obtain ⟨h0, h⟩ := h
  refine ⟨h0, ?_⟩
  cases hg : o.guard with
  | none => rw [hg] at h; exact go h
  | some jw =>
    obtain ⟨j, w⟩ := jw
    rw [hg] at h
    simp only at h ⊢
    cases hj : dstOf ops j with
    | none => rw [hj] at h; exact h.elim
    | some g =>
      cases hdd : o.dst with
      | none => rw [hj, hdd] at h; exact h.elim
      | some d =>
        rw [hj, hdd] at h
        simp only at h ⊢
        have hgd : getN N ((e.app s).over b) g = getN N (s.over b) g := getN_app (fun ex => hrd (by subst ex; exact List.mem_append_right _ (by simp [hg, hj])))
        rw [hgd] at h
        rw [hdd] at go put
        exact ⟨fun hu => put rfl (h.1 hu), fun v hv => ⟨fun ev => go ((h.2.1 v hv).1 ev), fun ev => put rfl ((h.2.1 v hv).2 ev)⟩, h.2.2⟩
omit hcm hkm in
theorem swapB_spec {x y : Oper} (h : swapB C ops x y = true) : quietOp x.op = true ∧ (∀ d, x.dst = some d → d ∉ readsO ops y ∧ y.dst ≠ some d) ∧ (∀ d', y.dst = some d' → d' ∉ readsO ops x) ∧ (inlB C y.op = true → allocB x.op = false) ∧ ((ldB x.op = true ∧ ptLoad C.P ops x.op = false) → memB C y.op = false) := by
  unfold swapB at h
  simp only [Bool.and_eq_true, Bool.or_eq_true, Bool.not_eq_true'] at h
  obtain ⟨⟨⟨h1, h2⟩, h3⟩, h4⟩ := h
  have nm : ∀ {d : Nat} {l : List Nat}, memN d l = false → d ∉ l := fun h hm => by rw [memN_mem.2 hm] at h; cases h
  refine ⟨h1, fun d hd => ?_, fun d' hd' => ?_, fun hi => ?_, fun ⟨ho, hpl⟩ => ?_⟩
  · rw [hd] at h2
    simp only [Bool.and_eq_true, Bool.not_eq_true'] at h2
    refine ⟨nm h2.1, fun hy => ?_⟩
    have h2 := h2.2
    rw [hy] at h2
    simp only [Nat.beq_refl, Bool.and_eq_true, Bool.not_eq_true'] at h2
    cases h2.1
  · cases hx : x.dst with
    | none => rw [hx] at h2; cases h2
    | some d =>
      rw [hx, hd'] at h2
      simp only [Bool.and_eq_true, Bool.not_eq_true'] at h2
      exact nm h2.2.2
  · rcases h3 with h3 | h3
    · rw [hi] at h3; cases h3
    · exact h3
  · rcases h4 with h4 | h4 | h4
    · rw [ho] at h4; cases h4
    · rw [hpl] at h4; cases h4
    · exact h4
end comm
end
end Go.Rx
/-! Regions of open order. -/
namespace Go.Rx
open Go.Ab Go.RowKit
set_option linter.unusedVariables false
set_option linter.unusedSimpArgs false
section anyrel
variable {P : Program} {B : Base} {Φ : Exit → St → Prop} {ops : Array Oper}
theorem any_of_rel (R : (Nat → Bool) → St → Prop) (hback : backB ops = true)
    (hs : ∀ i o, ops[i]? = some o → ∀ b, ClosedB ops b → b i = false → (∀ k ∈ depsOf o, b k = true) → ∀ σ, R b σ → ∀ g a w, Rel B σ g a w → ∀ K : Act → World → Prop, (∀ σ' g' a' w', R (up b i) σ' → Rel B σ' g' a' w' → K a' w') →
      if Region.wanted o (yielded ops a.tmps) then o.wp P a w K (lift B Φ) else K (a.put o.dst undef) w)
    (hend : ∀ b, (∀ i, b i = true) → ∀ σ, R b σ → ∀ g a w, Rel B σ g a w → lift B Φ .normal a w) :
    ∀ (n : Nat) (l : Array Bool), l.size = ops.size → (l.toList.filter (! ·)).length = n → ClosedB ops (setOf l) → ∀ σ, R (setOf l) σ → ∀ g a w, Rel B σ g a w → wpAny P .any ops (lift B Φ) n l a w := by
  intro n
  induction n with
  | zero =>
    intro l hl hn hc σ hR g a w hr
    have hall : ∀ i, setOf l i = true := by
      intro i
      unfold setOf
      rw [Array.getD_eq_getD_getElem?]
      by_cases hi : i < l.size
      · rw [Array.getElem?_eq_getElem hi]
        have h0 : l.toList.filter (! ·) = [] := List.length_eq_zero_iff.1 hn
        have h1 := List.filter_eq_nil_iff.1 h0 l[i] (by simp)
        simpa using h1
      · rw [Array.getElem?_eq_none (by omega)]; rfl
    refine ⟨?_, hend _ hall σ hR g a w hr⟩
    cases hq : Region.ready .any ops l with
    | nil => rfl
    | cons i rest =>
      have : i ∈ Region.ready .any ops l := by rw [hq]; simp
      obtain ⟨o, _, h1, _⟩ := (ready_iff hl hback).1 this
      rw [hall] at h1
      cases h1
  | succ n ih =>
    intro l hl hn hc σ hR g a w hr
    refine ⟨fun h0 => ?_, fun i hi => ?_⟩
    · exfalso
      have : ∃ i, i < ops.size ∧ setOf l i = false := by
        have h1 : l.toList.filter (! ·) ≠ [] := by intro h; rw [h] at hn; simp at hn
        obtain ⟨x, hx⟩ := List.exists_mem_of_ne_nil _ h1
        rw [List.mem_filter] at hx
        obtain ⟨i, hi, hxi⟩ := List.getElem_of_mem hx.1
        have hi' : i < l.size := by simpa using hi
        refine ⟨i, by omega, ?_⟩
        unfold setOf
        rw [Array.getD_eq_getD_getElem?, Array.getElem?_eq_getElem hi']
        have : l[i] = x := by simpa using hxi
        rw [this]
        simpa using hx.2
      obtain ⟨i, hi, hf⟩ := this
      obtain ⟨j, hj⟩ := ready_some hl hback i i (Nat.le_refl _) hi hf
      rw [h0] at hj
      cases hj
    · obtain ⟨o, ho, h1, h2⟩ := (ready_iff hl hback).1 hi
      have hil : i < l.size := by have := (Array.getElem?_eq_some_iff.1 ho).1; omega
      have hstep := hs i o ho (setOf l) hc h1 h2 σ hR g a w hr
      have hset := setOf_set (l := l) hil
      have hc' : ClosedB ops (setOf (l.setIfInBounds i true)) := by
        rw [hset]
        intro j oj hoj hj k hk
        by_cases e : k = i
        · subst e; exact up_self _ _
        · rw [up_ne _ e]
          by_cases e2 : j = i
          · subst e2
            obtain rfl : o = oj := Option.some.inj (ho.symm.trans hoj)
            exact h2 k hk
          · rw [up_ne _ e2] at hj
            exact hc j oj hoj hj k hk
      have hcount : ((l.setIfInBounds i true).toList.filter (! ·)).length = n := by
        have h3 : l.toList[i]? = some false := by
          unfold setOf at h1
          rw [Array.getD_eq_getD_getElem?, Array.getElem?_eq_getElem hil] at h1
          simp only [Array.getElem?_toList, Array.getElem?_eq_getElem hil]
          simpa using h1
        have := count_set l.toList i h3
        rw [Array.toList_setIfInBounds]
        omega
      have next : ∀ σ' g' a' w', R (up (setOf l) i) σ' → Rel B σ' g' a' w' → wpAny P .any ops (lift B Φ) n (l.setIfInBounds i true) a' w' := fun σ' g' a' w' hR' hr' =>
        ih _ (by simp [hl]) hcount hc' σ' (by rw [hset]; exact hR') g' a' w' hr'
      have h4 := hstep (wpAny P .any ops (lift B Φ) n (l.setIfInBounds i true)) next
      unfold wpOp
      rw [ho]
      simp only
      split
      · rename_i hw; rw [if_pos hw] at h4; exact .inl h4
      · rename_i hw; rw [if_neg hw] at h4; exact h4
theorem aw_any_rel {id : Nat} {σ : St} (R : (Nat → Bool) → St → Prop) (hm : P.follows .mixedOrders = true) (hback : backB ops = true) (h0 : ∀ b, (∀ i, i < ops.size → b i = false) → (∀ i, ops.size ≤ i → b i = true) → R b σ)
    (hs : ∀ i o, ops[i]? = some o → ∀ b, ClosedB ops b → b i = false → (∀ k ∈ depsOf o, b k = true) → ∀ σ, R b σ → ∀ g a w, Rel B σ g a w → ∀ K : Act → World → Prop, (∀ σ' g' a' w', R (up b i) σ' → Rel B σ' g' a' w' → K a' w') →
      if Region.wanted o (yielded ops a.tmps) then o.wp P a w K (lift B Φ) else K (a.put o.dst undef) w)
    (hend : ∀ b, (∀ i, b i = true) → ∀ σ, R b σ → ∀ g a w, Rel B σ g a w → lift B Φ .normal a w) : AW P B (.region id ops true) Φ σ := by
  intro g a w hr
  refine wp_region_any hm ?_
  refine any_of_rel R hback hs hend ops.size _ (by simp) (by simp) ?_ σ (h0 _ (fun i hi => by simp [setOf, hi]) (fun i hi => by unfold setOf; rw [Array.getD_eq_getD_getElem?, Array.getElem?_eq_none (by simpa using hi)]; rfl)) g a _ (hr.drawn (w.drawn + 1))
  intro j o ho hj k hk
  have := (Array.getElem?_eq_some_iff.1 ho).1
  simp [setOf, this] at hj
end anyrel
section front
variable {S : Sys} {C : Cfg S} {F : Fr S} {call : CallT S} {b : XS S.A} {ops : List Oper} {kp : AV S.A → XS S.A → Prop} {k : XS S.A → Prop}
variable (hcm : ∀ f args m k k' kp kp', (∀ r m, k r m → k' r m) → (∀ r m, kp r m → kp' r m) → call f args m k kp → call f args m k' kp') (hkm : ∀ f W, Ab.look C.K f = some (.tr W) → ∀ args k k', (∀ r, k r → k' r) → W args k → W args k')
  (hkp : ∀ p (M' s' : XS S.A), M'.L = s'.L → M'.T = s'.T → M'.c = s'.c → kp p M' → kp p s')
include hcm hkm hkp
omit hcm hkm hkp in
theorem wf_app {Q : Nat → Prop} {s : XS S.A} {e : Eff S.A} {id : Nat} (hw : WF Q F (s.over b)) (hat : e.m.at id) (h1 : inV (fun n => Q n ∨ n = id) e.p) (h2 : ∀ i cs, e.m = .L i cs → ∀ p ∈ cs.cs, in1 (fun n => Q n ∨ n = id) p) : WF (fun n => Q n ∨ n = id) F ((e.app s).over b) := by
  have hw' : WF (fun n => Q n ∨ n = id) F (s.over b) := hw.mono fun _ => .inl
  obtain ⟨d, p, m⟩ := e
  cases m with
  | no => show WF _ F ((s.put d p).over b); rw [over_put]; exact hw'.put h1
  | L i cs =>
    obtain rfl := hat
    show WF _ F (((s.setL i cs).put d p).over b)
    rw [over_put, over_setL]
    exact (hw'.setL (.inr rfl) (h2 i cs rfl)).put h1
  | T i sz n =>
    obtain rfl := hat
    show WF _ F (((s.setT i sz n).put d p).over b)
    rw [over_put, over_setT]
    exact (hw'.setT (.inr rfl)).put h1
/-- What may come later does; an operation comes to the front. -/
theorem front (hdr : C.dr = true) {c0 i : Nat} {o : Oper} {post : List (Nat × Oper)} : ∀ (pre : List (Nat × Oper)) (Q : Nat → Prop) (s : XS S.A), (∀ x ∈ pre, swapB C ops x.2 o = true) → (pre.map (·.1)).Nodup → (∀ x ∈ pre, ¬ Q (c0 + x.1)) → ¬ Q (c0 + i) → (∀ x ∈ pre, x.1 ≠ i) → WF Q F (s.over b) →
    runS C F.N call b ops (fun i _ => c0 + i) (fun s => s) kp (pre ++ (i, o) :: post) s k → stepS C F.N call b ops (c0 + i) o s (fun s1 => runS C F.N call b ops (fun i _ => c0 + i) (fun s => s) kp (pre ++ post) s1 k) kp
  | [], Q, s, _, _, _, _, _, _, h => h
  | (x, ox) :: pre, Q, s, hsw, hnd, hQ, hQi, hne, hw, h => by
    obtain ⟨q1, q2, q3, q4, q5⟩ := swapB_spec (hsw (x, ox) (by simp))
    have h : stepS C F.N call b ops (c0 + x) ox s (fun s1 => runS C F.N call b ops (fun i _ => c0 + i) (fun s => s) kp (pre ++ (i, o) :: post) s1 k) kp := h
    obtain ⟨e, ⟨e1, e2, e3⟩, _, e4, e5, e6, e7⟩ := step_quiet hdr (Q := Q) q1 h (fun y => hw.ev y) (fun i ps hi => (hw.L i ps hi).2)
    have hw' := wf_app hw e2 e5 e6
    have hxi : x ≠ i := hne (x, ox) (by simp)
    have hnd' := List.nodup_cons.1 hnd
    have h1 := front hdr pre (fun n => Q n ∨ n = c0 + x) (e.app s) (fun y hy => hsw y (by simp [hy])) hnd'.2
      (fun y hy => by
        rintro (hq | hq)
        · exact hQ y (by simp [hy]) hq
        · have : y.1 = x := by omega
          exact hnd'.1 (List.mem_map.2 ⟨y, hy, this⟩))
      (by
        rintro (hq | hq)
        · exact hQi hq
        · omega)
      (fun y hy => hne y (by simp [hy])) hw' e4
    have hd := q2 e.d e1
    have h2 := step_comm hcm hkm (Q := Q) hdr hkp (fun y => hw.ev y) (fun i ps hi => (hw.L i ps hi).1) e2 (hQ (x, ox) (by simp)) hQi (by show c0 + i ≠ c0 + x; omega) hd.2 hd.1 (fun hi => e7 (q4 hi)) h1
    refine step_mono hcm hkm (fun s1 ⟨k1, k2⟩ => ?_) (fun p s h => h) h2
    show stepS C F.N call b ops (c0 + x) ox s1 _ kp
    refine e3 s1 ⟨fun y hy => k2.get y fun hd' => ?_, fun hl => k2.L (q5 hl)⟩ _ _ k1
    exact q3 y hd' hy
omit hcm hkm hkp in
theorem mem_uni {x : Nat} : ∀ {a l : List Nat}, x ∈ uni a l → x ∈ a ∨ x ∈ l
  | [], l, h => .inr h
  | j :: r, l, h => by
    rcases mem_uni (a := r) h with h | h
    · exact .inl (by simp [h])
    · revert h
      cases memN j l with
      | true => exact fun h => .inr h
      | false =>
        intro h
        rcases List.mem_cons.1 h with rfl | h
        · exact .inl (by simp)
        · exact .inr h
omit hcm hkm hkp in
theorem befores_ok {ops : Array Oper} {bs : Nat → Bool} (hc : ClosedB ops bs) : ∀ (l : List Oper) (acc : List (List Nat)) (pre : List Oper), acc.length = pre.length → ops.toList = pre ++ l →
    (∀ i o, ops[i]? = some o → (∀ k ∈ depsOf o, bs k = true) → ∀ x ∈ acc.getD i [], bs x = true) →
    ∀ i o, ops[i]? = some o → (∀ k ∈ depsOf o, bs k = true) → ∀ x ∈ (l.foldl (fun acc o => acc ++ [(depsN o).foldl (fun l j => uni (j :: acc.getD j []) l) []]) acc).getD i [], bs x = true
  | [], acc, pre, hl, he, h => h
  | o :: l, acc, pre, hl, he, h => by
    refine befores_ok hc l _ (pre ++ [o]) (by simp [hl]) (by simp [he]) ?_
    intro i oi hoi hdeps x hx
    by_cases hi : i < acc.length
    · rw [List.getD_eq_getElem?_getD, List.getElem?_append_left hi, ← List.getD_eq_getElem?_getD] at hx
      exact h i oi hoi hdeps x hx
    · by_cases hi2 : i = acc.length
      · subst hi2
        have hoo : oi = o := by
          have h1 : ops.toList[acc.length]? = some oi := by simpa using hoi
          rw [he, hl, List.getElem?_append_right (Nat.le_refl _)] at h1
          simpa using h1.symm
        subst hoo
        rw [List.getD_eq_getElem?_getD, List.getElem?_append_right (Nat.le_refl _), Nat.sub_self] at hx
        have hx : x ∈ (depsN oi).foldl (fun l j => uni (j :: acc.getD j []) l) [] := hx
        have key : ∀ (ds : List Nat) (l0 : List Nat), (∀ j ∈ ds, bs j = true) → (∀ y ∈ l0, bs y = true) → ∀ y ∈ ds.foldl (fun l j => uni (j :: acc.getD j []) l) l0, bs y = true := by
          intro ds
          induction ds with
          | nil => intro l0 _ h0; exact h0
          | cons d ds ih =>
            intro l0 hd h0
            refine ih _ (fun j hj => hd j (by simp [hj])) ?_
            intro y hy
            rcases mem_uni hy with hy | hy
            · rcases List.mem_cons.1 hy with rfl | hy
              · exact hd y (by simp)
              · have hb : bs d = true := hd d (by simp)
                by_cases hdl : d < ops.size
                · exact h d _ (Array.getElem?_eq_getElem hdl) (hc d _ (Array.getElem?_eq_getElem hdl) hb) y hy
                · have : acc.length ≤ d := by
                    have : ops.size = pre.length + (l.length + 1) := by rw [← Array.length_toList, he]; simp
                    omega
                  rw [List.getD_eq_getElem?_getD, List.getElem?_eq_none this] at hy
                  cases hy
            · exact h0 y hy
        exact key _ [] hdeps (fun y hy => by cases hy) x hx
      · rw [List.getD_eq_getElem?_getD, List.getElem?_eq_none (by simp; omega)] at hx
        cases hx
omit hcm hkm hkp in
theorem befores_closed {ops : Array Oper} {bs : Nat → Bool} (hc : ClosedB ops bs) {i : Nat} {o : Oper} (ho : ops[i]? = some o) (hd : ∀ k ∈ depsOf o, bs k = true) : ∀ x ∈ (befores ops.toList).getD i [], bs x = true :=
  befores_ok hc ops.toList [] [] rfl rfl (fun i o _ _ x hx => by rw [List.getD_eq_getElem?_getD] at hx; cases hx) i o ho hd
omit hcm hkm hkp in
theorem numd_mem {α : Type} : ∀ {l : List α} {n i : Nat} {x : α}, (i, x) ∈ numd n l → n ≤ i ∧ l[i - n]? = some x
  | y :: l, n, i, x, h => by
    rcases List.mem_cons.1 h with e | h
    · cases e; simp
    · have := numd_mem h
      refine ⟨by omega, ?_⟩
      rw [show i - n = (i - (n + 1)) + 1 by omega]
      simpa using this.2
omit hcm hkm hkp in
theorem mem_numd {α : Type} : ∀ {l : List α} {n i : Nat} {x : α}, l[i]? = some x → (n + i, x) ∈ numd n l
  | y :: l, n, 0, x, h => by cases h; exact List.mem_cons_self
  | y :: l, n, i + 1, x, h => by
    refine List.mem_cons_of_mem _ ?_
    have := mem_numd (l := l) (n := n + 1) (i := i) (x := x) (by simpa using h)
    rw [show n + (i + 1) = n + 1 + i by omega]
    exact this
omit hcm hkm hkp in
theorem pick_mem {done : List Nat} {q : Bool} (l : List (Nat × Oper)) : ∀ {r : List (Nat × Oper)} {x : Nat × Oper}, pickB done q l = some (x, r) → x ∈ l ∧ ∀ y ∈ r, y ∈ l := by
  induction l with
  | nil => intro r x h; cases h
  | cons a l ih =>
    intro r x h
    obtain ⟨i, o⟩ := a
    rw [pickB] at h
    cases hc : (readyB done o && (!q || quietOp o.op)) with
    | true =>
      rw [hc] at h
      cases h
      exact ⟨by simp, fun y hy => by simp [hy]⟩
    | false =>
      rw [hc, cond_false] at h
      cases hp : pickB done q l with
      | none => rw [hp] at h; cases h
      | some z =>
        obtain ⟨x', r'⟩ := z
        rw [hp] at h
        cases h
        have := ih hp
        exact ⟨List.mem_cons_of_mem _ this.1, fun y hy => by
          rcases List.mem_cons.1 hy with rfl | hy
          · exact List.mem_cons_self
          · exact List.mem_cons_of_mem _ (this.2 y hy)⟩
omit hcm hkm hkp in
theorem canon_mem : ∀ {n : Nat} {done : List Nat} {l : List (Nat × Oper)} {x : Nat × Oper}, x ∈ canon n done l → x ∈ l
  | 0, _, _, _, h => by cases h
  | n + 1, done, l, x, h => by
    simp only [canon] at h
    split at h
    · rename_i y r he
      have := pick_mem _ he
      rcases List.mem_cons.1 h with rfl | h
      · exact this.1
      · exact this.2 x (canon_mem h)
    · split at h
      · rename_i y r he
        have := pick_mem _ he
        rcases List.mem_cons.1 h with rfl | h
        · exact this.1
        · exact this.2 x (canon_mem h)
      · cases h
omit hcm hkm hkp in
theorem pairs_spec {bf : List (List Nat)} : ∀ {π : List (Nat × Oper)}, pairsB C ops bf π = true → π.Pairwise (fun x y => x.1 ∈ bf.getD y.1 [] ∨ swapB C ops x.2 y.2 = true) ∧ (π.map (·.1)).Nodup
  | [], _ => ⟨.nil, .nil⟩
  | x :: r, h => by
    simp only [pairsB, Bool.and_eq_true, List.all_eq_true, Bool.or_eq_true, Bool.not_eq_true'] at h
    obtain ⟨h1, h2, h3⟩ := h
    have ih := pairs_spec h3
    refine ⟨.cons (fun y hy => (h1 y hy).imp memN_mem.1 fun h => h) ih.1, List.nodup_cons.2 ⟨fun hm => ?_, ih.2⟩⟩
    rw [memN_mem.2 hm] at h2
    cases h2
/-- A run in any order that the program allows. -/
theorem draw_sound (hdr : C.dr = true) {P : Program} {ops : Array Oper} {B : Base} {c0 rid l0 : Nat} {K0 : Nat → Prop} {s : XS S.A} {π : List (Nat × Oper)} {Φ : Exit → St → Prop} (hP : P = C.P) (hm : P.follows .mixedOrders = true) (hcall : CallOk C.P b call) (hK : ∀ f W, Ab.look C.K f = some W → ConOk C.P f W) (hpin : POk S B)
    (hK0 : ∀ n, K0 n → n < l0) (hl0 : l0 ≤ c0) (hc : s.c = c0 + ops.size) (hw : WF (Bd K0 l0 c0) F (s.over b)) (hok : drawnOk C ops.toList π = true) (hπ : ∀ x ∈ π, x ∈ numd 0 ops.toList)
    {ds : List Nat} {e0 : Nat → Option (AV S.A)} (hds : ∀ (i : Nat) o, ops[i]? = some o → ∀ x, o.dst = some x → x ∈ ds) (he0 : ∀ j, j ∉ ds → s.env j = e0 j)
    (h : runS C F.N call b ops.toList (fun i _ => c0 + i) (fun s => s) kp π s k)
    (hk : ∀ s' g a w, k s' → c0 ≤ s'.c → WF (Bd K0 l0 s'.c) F (s'.over b) → Rel B (den F (s'.over b)) g a w → lift B Φ .normal a w)
    (hp : ∀ p s' g a w v, kp p s' → (∀ j, j ∉ ds → s'.env j = e0 j) → c0 ≤ s'.c → WF (Bd K0 l0 s'.c) F (s'.over b) → inV (Bd K0 l0 s'.c) p → Rel B (den F (s'.over b)) g a w → Rep (denTT (s'.over b).T) g (denV p) v → lift B Φ (.panic [{ v, recovered := false }]) a w) :
    AW P B (.region rid ops true) Φ (den F (s.over b)) := by
  subst hP
  simp only [drawnOk, Bool.and_eq_true] at hok
  obtain ⟨⟨hpw, hall⟩, hbk⟩ := hok
  obtain ⟨hpw, hnd⟩ := pairs_spec hpw
  rw [List.all_eq_true] at hall hbk
  have hback : backB ops = true := by
    unfold backB
    rw [List.all_eq_true]
    intro i hi
    have hi := List.mem_range.1 hi
    rw [Array.getElem?_eq_getElem hi]
    have := hbk (i, ops[i]) (by have := mem_numd (l := ops.toList) (n := 0) (i := i) (x := ops[i]) (by simp [hi]); simpa using this)
    exact this
  let Qb : (Nat → Bool) → XS S.A → Nat → Prop := fun bs s' n => Bd K0 l0 c0 n ∨ (∃ i, n = c0 + i ∧ i < ops.size ∧ bs i = true) ∨ (c0 + ops.size ≤ n ∧ n < s'.c)
  have hQb : ∀ bs s', c0 + ops.size ≤ s'.c → ∀ n, Qb bs s' n → n < s'.c := by
    rintro bs s' hs n (hn | ⟨i, rfl, hi, _⟩ | hn)
    · have := hn.lt hK0 hl0; omega
    · omega
    · exact hn.2
  have hQd : ∀ bs s', c0 + ops.size ≤ s'.c → ∀ n, Qb bs s' n → Bd K0 l0 s'.c n := by
    rintro bs s' hs n (hn | ⟨i, rfl, hi, _⟩ | hn)
    · exact hn.up (by omega)
    · exact .inr ⟨by omega, by omega⟩
    · exact .inr ⟨by omega, hn.2⟩
  let R : (Nat → Bool) → St → Prop := fun bs σ => ∃ s' π', σ = den F (s'.over b) ∧ runS C F.N call b ops.toList (fun i _ => c0 + i) (fun s => s) kp π' s' k ∧ π'.Pairwise (fun x y => x.1 ∈ (befores ops.toList).getD y.1 [] ∨ swapB C ops.toList x.2 y.2 = true) ∧ (π'.map (·.1)).Nodup ∧
    (∀ x ∈ π', ops[x.1]? = some x.2 ∧ bs x.1 = false) ∧ (∀ i, i < ops.size → bs i = false → i ∈ π'.map (·.1)) ∧ c0 + ops.size ≤ s'.c ∧ WF (Qb bs s') F (s'.over b) ∧ ∀ j, j ∉ ds → s'.env j = e0 j
  refine aw_any_rel R hm hback ?_ ?_ ?_
  · intro bs hb hb2
    refine ⟨s, π, rfl, h, hpw, hnd, fun x hx => ?_, fun i hi _ => memN_mem.1 (hall i (List.mem_range.2 (by simpa using hi))), by omega, hw.mono fun n hn => .inl hn, he0⟩
    have := numd_mem (hπ x hx)
    have h2 : ops[x.1]? = some x.2 := by simpa using this.2
    exact ⟨h2, hb _ (Array.getElem?_eq_some_iff.1 h2).1⟩
  · rintro i o ho bs hcl hbi hdeps σ ⟨s', π', rfl, hrun, hpw, hnd, hmem, hcov, hsc, hwf, henv⟩ g a w hr K hKK
    have hi := (Array.getElem?_eq_some_iff.1 ho).1
    obtain ⟨⟨i', o'⟩, hm1, hm2⟩ := List.mem_map.1 (hcov i hi hbi)
    obtain rfl : i' = i := hm2
    obtain rfl : o = o' := Option.some.inj (ho.symm.trans (hmem _ hm1).1)
    obtain ⟨pre, post, rfl⟩ := List.append_of_mem hm1
    have hbf := befores_closed hcl ho hdeps
    have hpw' := List.pairwise_append.1 hpw
    have hnd' := hnd
    rw [List.map_append, List.map_cons] at hnd'
    have hnd2 := List.nodup_append.1 hnd'
    have hne : ∀ x ∈ pre, x.1 ≠ i' := fun x hx e => hnd2.2.2 _ (List.mem_map_of_mem hx) _ (by simp) e
    have hsw : ∀ x ∈ pre, swapB C ops.toList x.2 o = true := by
      intro x hx
      rcases hpw'.2.2 x hx (i', o) (by simp) with h1 | h1
      · have := hbf _ h1
        rw [(hmem x (by simp [hx])).2] at this
        cases this
      · exact h1
    have nq : ∀ j, j < ops.size → bs j = false → ¬ Qb bs s' (c0 + j) := by
      rintro j hj hbj (hn | ⟨i2, he, _, hb2⟩ | hn)
      · have := hn.lt hK0 hl0; omega
      · obtain rfl : j = i2 := by omega
        rw [hbj] at hb2; cases hb2
      · omega
    have hstep := front hcm hkm hkp hdr pre (Qb bs s') s' hsw hnd2.1 (fun x hx => nq _ (Array.getElem?_eq_some_iff.1 (hmem x (by simp [hx])).1).1 (hmem x (by simp [hx])).2) (nq i' hi hbi) hne hwf hrun
    refine step_sound hcall hK hpin (hQb bs s' hsc) (nq i' hi hbi) hwf (step_env hcm hkm (hds i' o ho) henv hstep) hr K _ ?_ ?_
    · rintro a' w' ⟨s1, g', ⟨k1, k1e⟩, k2, k3, k4⟩
      refine hKK _ g' a' w' ⟨s1, pre ++ post, rfl, k1, ?_, ?_, ?_, ?_, by omega, ?_, k1e⟩ k4
      · rw [List.pairwise_append]
        exact ⟨hpw'.1, (List.pairwise_cons.1 hpw'.2.1).2, fun x hx y hy => hpw'.2.2 x hx y (by simp [hy])⟩
      · rw [List.map_append, List.nodup_append]
        exact ⟨hnd2.1, (List.nodup_cons.1 hnd2.2.1).2, fun x hx y hy => hnd2.2.2 x hx y (by simp [hy])⟩
      · intro x hx
        have hx' : x ∈ pre ++ (i', o) :: post := by
          rcases List.mem_append.1 hx with h | h
          · simp [h]
          · simp [h]
        refine ⟨(hmem x hx').1, ?_⟩
        have : x.1 ≠ i' := by
          rcases List.mem_append.1 hx with h | h
          · exact hne x h
          · intro e
            exact (List.nodup_cons.1 hnd2.2.1).1 (List.mem_map.2 ⟨x, h, e⟩)
        rw [up_ne _ this]
        exact (hmem x hx').2
      · intro j hj hbj
        by_cases e : j = i'
        · subst e; rw [up_self] at hbj; cases hbj
        · rw [up_ne _ e] at hbj
          have := hcov j hj hbj
          simp only [List.map_append, List.map_cons, List.mem_append, List.mem_cons] at this ⊢
          rcases this with h | h | h
          · exact .inl h
          · exact (e h).elim
          · exact .inr h
      · refine k3.mono fun n hn => ?_
        rcases hn with (hn | rfl) | hn
        · rcases hn with hn | ⟨j, hj1, hj2, hj3⟩ | hn
          · exact .inl hn
          · refine .inr (.inl ⟨j, hj1, hj2, ?_⟩)
            by_cases e : j = i'
            · subst e; exact up_self _ _
            · rw [up_ne _ e]; exact hj3
          · exact .inr (.inr ⟨hn.1, by omega⟩)
        · exact .inr (.inl ⟨i', rfl, hi, up_self _ _⟩)
        · exact .inr (.inr ⟨by omega, hn.2⟩)
    · rintro e a' w' ⟨ch, rfl, p, s1, g', v, ⟨k1, k1e⟩, k2, k3, k4, k5, rfl, k6⟩
      have hle : ∀ n, Qb bs s' n ∨ s'.c ≤ n ∧ n < s1.c → Bd K0 l0 s1.c n := by
        rintro n (hn | hn)
        · exact (hQd bs s' hsc n hn).up (by omega)
        · exact .inr ⟨by omega, hn.2⟩
      exact hp p s1 g' a' w' v k1 k1e (by omega) (k3.mono hle) (inV_mono hle k4) k5 k6
  · rintro bs hb σ ⟨s', π', rfl, hrun, hpw, hnd, hmem, hcov, hsc, hwf, henv⟩ g a w hr
    have : π' = [] := by
      cases π' with
      | nil => rfl
      | cons x r =>
        have := (hmem x (by simp)).2
        rw [hb] at this
        cases this
    subst this
    exact hk s' g a w hrun (by omega) (hwf.mono (hQd bs s' hsc)) hr
omit hcm hkm hkp in
theorem stepT_iff {N : Nat} {id : Nat} {o : Oper} {s : XS S.A} {k : XS S.A → Prop} : stepT C N call b ops id o s k kp ↔ stepS C N call b ops id o s k kp := by
  unfold stepT
  cases hd : dstB N o.dst with
  | false => exact ⟨fun h => h.elim, fun h => by unfold stepS at h; rw [hd] at h; cases h.1⟩
  | true =>
    cases hg : o.guard with
    | none => exact ⟨fun h => by unfold stepS; rw [hd, hg]; exact ⟨rfl, h⟩, fun h => by unfold stepS at h; rw [hg] at h; exact h.2⟩
    | some jw => exact Iff.rfl
omit hcm hkm hkp in
theorem allA_mem {α : Type} {f : α → Prop} : ∀ {l : List α}, allA f l → ∀ x ∈ l, f x
  | [], _, _, h => by cases h
  | [x], h, y, hy => by obtain rfl := List.mem_singleton.1 hy; exact h
  | x :: y :: r, h, z, hz => by
    rcases List.mem_cons.1 hz with rfl | hz
    · exact h.1
    · exact allA_mem h.2 z hz
omit hcm hkm hkp in
theorem allA_imp {α : Type} {f g : α → Prop} (h : ∀ x, f x → g x) : ∀ {l : List α}, allA f l → allA g l
  | [], _ => trivial
  | [x], k => h x k
  | x :: y :: r, k => ⟨h x k.1, allA_imp h k.2⟩
omit hkp in
/-- A run in every order that the program allows. -/
theorem drawA_sound {P : Program} {ops : Array Oper} {B : Base} {c0 rid l0 n : Nat} {K0 : Nat → Prop} {s : XS S.A} {Φ : Exit → St → Prop} (hP : P = C.P) (hm : P.follows .mixedOrders = true) (hcall : CallOk C.P b call) (hK : ∀ f W, Ab.look C.K f = some W → ConOk C.P f W) (hpin : POk S B)
    (hK0 : ∀ n, K0 n → n < l0) (hl0 : l0 ≤ c0) (hc : s.c = c0 + ops.size) (hw : WF (Bd K0 l0 c0) F (s.over b)) (hbk : (numd 0 ops.toList).all (fun x => (depsN x.2).all fun j => Nat.blt j x.1) = true)
    {ds : List Nat} {e0 : Nat → Option (AV S.A)} (hds : ∀ (i : Nat) o, ops[i]? = some o → ∀ x, o.dst = some x → x ∈ ds) (he0 : ∀ j, j ∉ ds → s.env j = e0 j)
    (h : runA C F.N call b ops.toList c0 kp k n (numd 0 ops.toList) s)
    (hk : ∀ s' g a w, k s' → c0 ≤ s'.c → WF (Bd K0 l0 s'.c) F (s'.over b) → Rel B (den F (s'.over b)) g a w → lift B Φ .normal a w)
    (hp : ∀ p s' g a w v, kp p s' → (∀ j, j ∉ ds → s'.env j = e0 j) → c0 ≤ s'.c → WF (Bd K0 l0 s'.c) F (s'.over b) → inV (Bd K0 l0 s'.c) p → Rel B (den F (s'.over b)) g a w → Rep (denTT (s'.over b).T) g (denV p) v → lift B Φ (.panic [{ v, recovered := false }]) a w) :
    AW P B (.region rid ops true) Φ (den F (s.over b)) := by
  subst hP
  rw [List.all_eq_true] at hbk
  have hback : backB ops = true := by
    unfold backB
    rw [List.all_eq_true]
    intro i hi
    have hi := List.mem_range.1 hi
    rw [Array.getElem?_eq_getElem hi]
    have := hbk (i, ops[i]) (by have := mem_numd (l := ops.toList) (n := 0) (i := i) (x := ops[i]) (by simp [hi]); simpa using this)
    exact this
  let Qb : (Nat → Bool) → XS S.A → Nat → Prop := fun bs s' n => Bd K0 l0 c0 n ∨ (∃ i, n = c0 + i ∧ i < ops.size ∧ bs i = true) ∨ (c0 + ops.size ≤ n ∧ n < s'.c)
  have hQb : ∀ bs s', c0 + ops.size ≤ s'.c → ∀ n, Qb bs s' n → n < s'.c := by
    rintro bs s' hs n (hn | ⟨i, rfl, hi, _⟩ | hn)
    · have := hn.lt hK0 hl0; omega
    · omega
    · exact hn.2
  have hQd : ∀ bs s', c0 + ops.size ≤ s'.c → ∀ n, Qb bs s' n → Bd K0 l0 s'.c n := by
    rintro bs s' hs n (hn | ⟨i, rfl, hi, _⟩ | hn)
    · exact hn.up (by omega)
    · exact .inr ⟨by omega, by omega⟩
    · exact .inr ⟨by omega, hn.2⟩
  let R : (Nat → Bool) → St → Prop := fun bs σ => ∃ s' n rem, σ = den F (s'.over b) ∧ runA C F.N call b ops.toList c0 kp k n rem s' ∧
    (∀ x ∈ rem, ops[x.1]? = some x.2 ∧ bs x.1 = false) ∧ (∀ (i : Nat) o, ops[i]? = some o → bs i = false → (i, o) ∈ rem) ∧ c0 + ops.size ≤ s'.c ∧ WF (Qb bs s') F (s'.over b) ∧ ∀ j, j ∉ ds → s'.env j = e0 j
  refine aw_any_rel R hm hback ?_ ?_ ?_
  · intro bs hb hb2
    refine ⟨s, n, _, rfl, h, fun x hx => ?_, fun i o ho _ => ?_, by omega, hw.mono fun n hn => .inl hn, he0⟩
    · have := numd_mem hx
      have h2 : ops[x.1]? = some x.2 := by simpa using this.2
      exact ⟨h2, hb _ (Array.getElem?_eq_some_iff.1 h2).1⟩
    · have := mem_numd (l := ops.toList) (n := 0) (i := i) (x := o) (by simpa using ho)
      simpa using this
  · rintro i o ho bs hcl hbi hdeps σ ⟨s', n', rem, rfl, hrun, hmem, hcov, hsc, hwf, henv⟩ g a w hr K hKK
    have hi := (Array.getElem?_eq_some_iff.1 ho).1
    have hin := hcov i o ho hbi
    have hne : ∃ x r, rem = x :: r := by
      cases rem with
      | nil => cases hin
      | cons x r => exact ⟨x, r, rfl⟩
    have hrd : rdyA rem o = true := by
      unfold rdyA
      rw [List.all_eq_true]
      intro j hj
      have hb : bs j = true := hdeps j hj
      cases hm : memN j (rem.map (·.1)) with
      | false => rfl
      | true =>
        obtain ⟨x, hx1, hx2⟩ := List.mem_map.1 (memN_mem.1 hm)
        have := (hmem x hx1).2
        rw [hx2, hb] at this
        cases this
    obtain ⟨x0, r0, hrem⟩ := hne
    cases n' with
    | zero => subst hrem; exact (show False from hrun).elim
    | succ n' =>
    have hall : allA (fun x => stepS C F.N call b ops.toList (c0 + x.1) x.2 s' (fun s1 => runA C F.N call b ops.toList c0 kp k n' (delA x.1 rem) s1) kp) (rem.filter fun x => rdyA rem x.2) := by
      subst hrem; exact allA_imp (fun x h => stepT_iff.1 h) hrun
    have hstep := allA_mem hall (i, o) (List.mem_filter.2 ⟨hin, hrd⟩)
    have nq : ¬ Qb bs s' (c0 + i) := by
      rintro (hn | ⟨i2, he, _, hb2⟩ | hn)
      · have := hn.lt hK0 hl0; omega
      · obtain rfl : i = i2 := by omega
        rw [hbi] at hb2; cases hb2
      · omega
    refine step_sound hcall hK hpin (hQb bs s' hsc) nq hwf (step_env hcm hkm (hds i o ho) henv hstep) hr K _ ?_ ?_
    · rintro a' w' ⟨s1, g', ⟨k1, k1e⟩, k2, k3, k4⟩
      refine hKK _ g' a' w' ⟨s1, n', _, rfl, k1, fun x hx => ?_, fun j oj hoj hbj => ?_, by omega, ?_, k1e⟩ k4
      · obtain ⟨hx1, hx2⟩ := List.mem_filter.1 hx
        have hxi : x.1 ≠ i := fun e => by rw [e] at hx2; simp at hx2
        rw [up_ne _ hxi]
        exact hmem x hx1
      · by_cases e : j = i
        · subst e; rw [up_self] at hbj; cases hbj
        · rw [up_ne _ e] at hbj
          refine List.mem_filter.2 ⟨hcov j oj hoj hbj, ?_⟩
          show (!Nat.beq j i) = true
          rw [bne e]; rfl
      · refine k3.mono fun n hn => ?_
        rcases hn with (hn | rfl) | hn
        · rcases hn with hn | ⟨j, hj1, hj2, hj3⟩ | hn
          · exact .inl hn
          · refine .inr (.inl ⟨j, hj1, hj2, ?_⟩)
            by_cases e : j = i
            · subst e; exact up_self _ _
            · rw [up_ne _ e]; exact hj3
          · exact .inr (.inr ⟨hn.1, by omega⟩)
        · exact .inr (.inl ⟨i, rfl, hi, up_self _ _⟩)
        · exact .inr (.inr ⟨by omega, hn.2⟩)
    · rintro e a' w' ⟨ch, rfl, p, s1, g', v, ⟨k1, k1e⟩, k2, k3, k4, k5, rfl, k6⟩
      have hle : ∀ n, Qb bs s' n ∨ s'.c ≤ n ∧ n < s1.c → Bd K0 l0 s1.c n := by
        rintro n (hn | hn)
        · exact (hQd bs s' hsc n hn).up (by omega)
        · exact .inr ⟨by omega, hn.2⟩
      exact hp p s1 g' a' w' v k1 k1e (by omega) (k3.mono hle) (inV_mono hle k4) k5 k6
  · rintro bs hb σ ⟨s', n', rem, rfl, hrun, hmem, hcov, hsc, hwf, henv⟩ g a w hr
    have : rem = [] := by
      cases rem with
      | nil => rfl
      | cons x r =>
        have := (hmem x (by simp)).2
        rw [hb] at this
        cases this
    subst this
    exact hk s' g a w (by cases n' <;> exact hrun) (by omega) (hwf.mono (hQd bs s' hsc)) hr
omit hcm hkm hkp in
theorem nodup_key : ∀ {rem : List (Nat × Oper)}, (rem.map (·.1)).Nodup → ∀ {x y : Nat × Oper}, x ∈ rem → y ∈ rem → x.1 = y.1 → x = y
  | [], _, _, _, hx, _, _ => by cases hx
  | a :: l, h, x, y, hx, hy, e => by
    obtain ⟨h1, h2⟩ := List.nodup_cons.1 h
    rcases List.mem_cons.1 hx with ex | hx'
    · rcases List.mem_cons.1 hy with ey | hy'
      · rw [ex, ey]
      · exact absurd (show a.1 ∈ List.map (·.1) l from List.mem_map.2 ⟨y, hy', by rw [← e, ex]⟩) h1
    · rcases List.mem_cons.1 hy with ey | hy'
      · exact absurd (show a.1 ∈ List.map (·.1) l from List.mem_map.2 ⟨x, hx', by rw [e, ey]⟩) h1
      · exact nodup_key h2 hx' hy' e
omit hcm hkm hkp in
theorem numd_nodup {α : Type} : ∀ (l : List α) (n : Nat), ((numd n l).map (·.1)).Nodup
  | [], n => List.nodup_nil
  | x :: l, n => by
    show (n :: (numd (n + 1) l).map (·.1)).Nodup
    refine List.nodup_cons.2 ⟨fun h => ?_, numd_nodup l (n + 1)⟩
    obtain ⟨y, hy1, hy2⟩ := List.mem_map.1 h
    have := (numd_mem (i := y.1) (x := y.2) hy1).1
    omega
/-- What the program may do next, what may come first being free to come first. -/
def runE (C : Cfg S) (N : Nat) (call : CallT S) (b : XS S.A) (ops : List Oper) (c0 : Nat) (kp : AV S.A → XS S.A → Prop) (k : XS S.A → Prop) : Nat → List (Nat × Oper) → XS S.A → Prop
  | _, [], s => k s
  | 0, _ :: _, _ => False
  | n + 1, y :: r, s => (∃ x ∈ y :: r, rdyA (y :: r) x.2 = true ∧ (∃ Af, aftOk ops x.1 Af = true ∧ ∀ z ∈ y :: r, z.1 ≠ x.1 → z.1 ∈ Af ∨ swapB C ops x.2 z.2 = true) ∧ stepS C N call b ops (c0 + x.1) x.2 s (fun s1 => runE C N call b ops c0 kp k n (delA x.1 (y :: r)) s1) kp) ∨
      ∀ x ∈ y :: r, rdyA (y :: r) x.2 = true → stepS C N call b ops (c0 + x.1) x.2 s (fun s1 => runE C N call b ops c0 kp k n (delA x.1 (y :: r)) s1) kp
omit hcm hkm hkp in
theorem mem_delA {i : Nat} {rem : List (Nat × Oper)} {x : Nat × Oper} : x ∈ delA i rem ↔ x ∈ rem ∧ x.1 ≠ i := by
  unfold delA
  rw [List.mem_filter]
  refine ⟨fun h => ⟨h.1, fun e => by rw [e] at h; simp at h⟩, fun h => ⟨h.1, by rw [bne h.2]; rfl⟩⟩
omit hcm hkm hkp in
theorem delA_comm (i j : Nat) (rem : List (Nat × Oper)) : delA i (delA j rem) = delA j (delA i rem) := by
  unfold delA
  rw [List.filter_filter, List.filter_filter]
  congr 1
  funext x
  exact Bool.and_comm _ _
omit hcm hkm hkp in
theorem rdy_del {i : Nat} {rem : List (Nat × Oper)} {o : Oper} (h : rdyA rem o = true) : rdyA (delA i rem) o = true := by
  unfold rdyA at h ⊢
  rw [List.all_eq_true] at h ⊢
  intro j hj
  have := h j hj
  cases hm : memN j ((delA i rem).map (·.1)) with
  | false => rfl
  | true =>
    obtain ⟨x, hx1, hx2⟩ := List.mem_map.1 (memN_mem.1 hm)
    have h2 : memN j (rem.map (·.1)) = true := memN_mem.2 (List.mem_map.2 ⟨x, (mem_delA.1 hx1).1, hx2⟩)
    rw [h2] at this
    cases this
omit hcm hkm hkp in
theorem nodup_del {i : Nat} {rem : List (Nat × Oper)} (h : (rem.map (·.1)).Nodup) : ((delA i rem).map (·.1)).Nodup :=
  List.Nodup.sublist (List.Sublist.map _ List.filter_sublist) h
omit hcm hkm hkp in
theorem del_none {j : Nat} : ∀ {rem : List (Nat × Oper)}, j ∉ rem.map (·.1) → delA j rem = rem
  | [], _ => rfl
  | y :: r, h => by
    have h1 : y.1 ≠ j := fun e => h (by rw [← e]; exact List.mem_cons_self)
    have h2 : j ∉ r.map (·.1) := fun e => h (List.mem_cons_of_mem _ e)
    unfold delA
    rw [List.filter_cons, bne h1]
    exact congrArg (y :: ·) (del_none h2)
omit hcm hkm hkp in
theorem del_len : ∀ {rem : List (Nat × Oper)}, (rem.map (·.1)).Nodup → ∀ {x : Nat × Oper}, x ∈ rem → rem.length = (delA x.1 rem).length + 1
  | [], _, _, hx => by cases hx
  | y :: r, h, x, hx => by
    obtain ⟨h1, h2⟩ := List.nodup_cons.1 h
    by_cases e : y.1 = x.1
    · have : delA x.1 (y :: r) = delA x.1 r := by
        unfold delA
        rw [List.filter_cons, e, Nat.beq_refl]; rfl
      rw [this, ← e, del_none h1]; rfl
    · have hx' : x ∈ r := by
        rcases List.mem_cons.1 hx with rfl | hx
        · exact absurd rfl e
        · exact hx
      have : delA x.1 (y :: r) = y :: delA x.1 r := by
        unfold delA
        rw [List.filter_cons, bne e]; rfl
      rw [this, List.length_cons, List.length_cons, del_len h2 hx']
omit hcm hkm hkp in
theorem eag_spec {E : List (Nat × (List Nat × List Nat))} (h : eagOk C ops E = true) {i : Nat} {e : List Nat × List Nat} (hl : Ab.look E i = some e) {o : Oper} (ho : ops[i]? = some o) : aftOk ops i e.2 = true ∧ ∀ y ∈ numd 0 ops, y.1 ≠ i → memN y.1 e.1 = false → y.1 ∈ e.2 ∨ swapB C ops o y.2 = true := by
  unfold eagOk at h
  rw [List.all_eq_true] at h
  have h1 := h (i, e) (look_mem hl)
  simp only [ho] at h1
  rw [Bool.and_eq_true, List.all_eq_true] at h1
  refine ⟨h1.1, fun y hy hne hb => ?_⟩
  have h2 := h1.2 y hy
  rw [bne hne, hb, Bool.false_or, Bool.false_or, Bool.or_eq_true] at h2
  exact h2.imp (fun h => memN_mem.1 h) fun h => h
omit hkp in
theorem runH_E {c0 : Nat} {N : Nat} {E : List (Nat × (List Nat × List Nat))} (hE : eagOk C ops E = true) : ∀ (t : Sch) (fl : Bool) (rem : List (Nat × Oper)) (s : XS S.A), (∀ x ∈ rem, x ∈ numd 0 ops) → (rem.map (·.1)).Nodup → schOk E fl t rem = true → runH C N call b ops c0 kp k fl t s →
    (fl = false → runE C N call b ops c0 kp k rem.length rem s) ∧ (fl = true → ∀ x ∈ rem, schHas t x.1 = true → rdyA rem x.2 = true → stepS C N call b ops (c0 + x.1) x.2 s (fun s1 => runE C N call b ops c0 kp k (delA x.1 rem).length (delA x.1 rem) s1) kp)
  | .done, fl, rem, s, hm, hnd, hok, h => by
    refine ⟨fun e => ?_, fun e x hx hh => by cases hh⟩
    subst e
    cases rem with
    | nil => exact h
    | cons x r => cases hok
  | .one i t, true, rem, s, hm, hnd, hok, h => by cases hok
  | .one i t, false, rem, s, hm, hnd, hok, h => by
    refine ⟨fun _ => ?_, fun e => by cases e⟩
    simp only [schOk] at hok
    split at hok
    · rename_i Bf hl
      simp only [Bool.and_eq_true, List.any_eq_true, List.all_eq_true] at hok
      obtain ⟨⟨x, hx, hx1, hx2⟩, hB, hrest⟩ := hok
      have hxi := Nat.eq_of_beq_eq_true hx1
      obtain ⟨j, o⟩ := x
      have hxi : j = i := hxi
      subst hxi
      have ho : ops[j]? = some o := by simpa using (numd_mem (hm _ hx)).2
      simp only [runH, ho] at h
      have hlen := del_len hnd hx
      have h1 := step_mono hcm hkm (fun s1 h1 => (runH_E hE t false (delA j rem) s1 (fun z hz => hm z (mem_delA.1 hz).1) (nodup_del hnd) hrest h1).1 rfl) (fun _ _ h => h) (stepT_iff.1 h)
      cases rem with
      | nil => cases hx
      | cons y r =>
        refine .inl ⟨(j, o), hx, hx2, ⟨_, (eag_spec hE hl ho).1, fun z hz hne => ?_⟩, ?_⟩
        · refine (eag_spec hE hl ho).2 z (hm z hz) hne ?_
          have := hB z hz
          rw [bne hne, Bool.false_or] at this
          simpa using this
        · have e : (delA j (y :: r)).length = r.length := by have : (y :: r).length = (delA j (y :: r)).length + 1 := hlen; simpa using this.symm
          rw [e] at h1
          exact h1
    · cases hok
  | .alt i t r, fl, rem, s, hm, hnd, hok, h => by
    have hok' : (fl = false → (!rem.isEmpty && rem.all (fun x => !rdyA rem x.2 || (Nat.beq i x.1 || schHas r x.1))) = true) ∧ schOk E false t (delA i rem) = true ∧ schOk E true r rem = true := by
      cases fl
      · simp only [schOk, Bool.and_eq_true] at hok
        exact ⟨fun _ => by rw [Bool.and_eq_true]; exact hok.1, hok.2⟩
      · simp only [schOk, Bool.and_eq_true] at hok
        exact ⟨fun e => (by cases e), hok⟩
    obtain ⟨k1, k2, k3⟩ := hok'
    have h' : ∃ o, ops[i]? = some o ∧ stepT C N call b ops (c0 + i) o s (fun s1 => runH C N call b ops c0 kp k false t s1) kp ∧ runH C N call b ops c0 kp k true r s := by
      cases ho : ops[i]? with
      | none => cases fl <;> (simp only [runH, ho] at h)
      | some o =>
        refine ⟨o, rfl, ?_⟩
        cases fl <;> (simp only [runH, ho] at h; exact h)
    obtain ⟨o, ho, h1, h2⟩ := h'
    have first : ∀ x ∈ rem, x.1 = i → stepS C N call b ops (c0 + x.1) x.2 s (fun s1 => runE C N call b ops c0 kp k (delA x.1 rem).length (delA x.1 rem) s1) kp := by
      rintro ⟨j, ox⟩ hx e
      have e : j = i := e
      subst e
      have : ops[j]? = some ox := by simpa using (numd_mem (hm _ hx)).2
      rw [ho] at this
      cases this
      exact step_mono hcm hkm (fun s1 h1 => (runH_E hE t false (delA j rem) s1 (fun z hz => hm z (mem_delA.1 hz).1) (nodup_del hnd) k2 h1).1 rfl) (fun _ _ h => h) (stepT_iff.1 h1)
    have others := (runH_E hE r true rem s hm hnd k3 h2).2 rfl
    have all : ∀ x ∈ rem, (Nat.beq i x.1 || schHas r x.1) = true → rdyA rem x.2 = true → stepS C N call b ops (c0 + x.1) x.2 s (fun s1 => runE C N call b ops c0 kp k (delA x.1 rem).length (delA x.1 rem) s1) kp := by
      intro x hx hh hr
      by_cases e : i = x.1
      · exact first x hx e.symm
      · rw [bne e, Bool.false_or] at hh
        exact others x hx hh hr
    refine ⟨fun e => ?_, fun e x hx hh hr => all x hx hh hr⟩
    subst e
    have k1 := k1 rfl
    rw [Bool.and_eq_true, List.all_eq_true] at k1
    obtain ⟨k0, k1⟩ := k1
    cases rem with
    | nil => cases k0
    | cons y l =>
      refine .inr fun x hx hr => ?_
      have hlen := del_len hnd hx
      have e : (delA x.1 (y :: l)).length = l.length := by have : (y :: l).length = (delA x.1 (y :: l)).length + 1 := hlen; simpa using this.symm
      have := all x hx (by have := k1 x hx; rw [hr] at this; simpa using this) hr
      rw [e] at this
      exact this
/-- With an operation all that hang on it are left. -/
def UpC (ops : List Oper) (rem : List (Nat × Oper)) : Prop := ∀ (i : Nat) (o : Oper) (j : Nat), ops[i]? = some o → j ∈ depsN o → j ∈ rem.map (·.1) → (i, o) ∈ rem
omit hcm hkm hkp in
theorem UpC.del {rem : List (Nat × Oper)} (h : UpC ops rem) {i : Nat} {o : Oper} (hrd : rdyA rem o = true) (ho : ops[i]? = some o) : UpC ops (delA i rem) := by
  intro i' o' j hi' hj hjm
  obtain ⟨x, hx, hx1⟩ := List.mem_map.1 hjm
  have hjr : j ∈ rem.map (·.1) := List.mem_map.2 ⟨x, (mem_delA.1 hx).1, hx1⟩
  refine mem_delA.2 ⟨h i' o' j hi' hj hjr, fun e => ?_⟩
  have e : i' = i := e
  subst e
  rw [ho] at hi'
  cases hi'
  unfold rdyA at hrd
  rw [List.all_eq_true] at hrd
  have := hrd j hj
  rw [memN_mem.2 hjr] at this
  cases this
omit hcm hkm hkp in
theorem aft_in {rem : List (Nat × Oper)} (h : UpC ops rem) (hbk : ∀ (i : Nat) (o : Oper), ops[i]? = some o → ∀ j ∈ depsN o, j < i) {x : Nat} {Af : List Nat} (ha : aftOk ops x Af = true) (hx : x ∈ rem.map (·.1)) : ∀ (n a : Nat), a < n → a ∈ Af → ∃ o, ops[a]? = some o ∧ (a, o) ∈ rem ∧ rdyA rem o = false := by
  intro n
  induction n with
  | zero => intro a h; omega
  | succ n ih =>
    intro a han haA
    have h1 := List.all_eq_true.1 ha a haA
    split at h1
    · rename_i o ho
      rw [List.any_eq_true] at h1
      obtain ⟨j, hj, hj2⟩ := h1
      have hjm : j ∈ rem.map (·.1) := by
        rw [Bool.or_eq_true] at hj2
        rcases hj2 with e | e
        · rw [Nat.eq_of_beq_eq_true e]; exact hx
        · have hlt := hbk a o ho j hj
          obtain ⟨oj, _, h2, _⟩ := ih j (by omega) (memN_mem.1 e)
          exact List.mem_map.2 ⟨_, h2, rfl⟩
      refine ⟨o, ho, h a o j ho hj hjm, ?_⟩
      cases hr : rdyA rem o with
      | false => rfl
      | true =>
        unfold rdyA at hr
        rw [List.all_eq_true] at hr
        have := hr j hj
        rw [memN_mem.2 hjm] at this
        cases this
    · cases h1
/-- Whatever is ready may come next. -/
theorem any_next (hdr : C.dr = true) (hbk : ∀ (i : Nat) (o : Oper), ops[i]? = some o → ∀ j ∈ depsN o, j < i) {c0 : Nat} : ∀ (n : Nat) (rem : List (Nat × Oper)) (Q : Nat → Prop) (s : XS S.A), (∀ x ∈ rem, ops[x.1]? = some x.2) → UpC ops rem → (rem.map (·.1)).Nodup → (∀ x ∈ rem, ¬ Q (c0 + x.1)) → WF Q F (s.over b) → runE C F.N call b ops c0 kp k (n + 1) rem s →
    ∀ (i : Nat) (o : Oper), (i, o) ∈ rem → rdyA rem o = true → stepS C F.N call b ops (c0 + i) o s (fun s1 => runE C F.N call b ops c0 kp k n (delA i rem) s1) kp := by
  intro n
  induction n with
  | zero =>
    intro rem Q s hmm hup hnd hQ hw h i o hio hrd
    cases rem with
    | nil => cases hio
    | cons y r =>
    rcases h with ⟨x, hx, hxr, hxs, h⟩ | h
    · by_cases e : x = (i, o)
      · subst e; exact h
      · have hne : x.1 ≠ i := fun e' => by
          have := nodup_key hnd hx hio e'
          exact e this
        exfalso
        have hsw : swapB C ops x.2 o = true := by
          obtain ⟨Af, ha, hxs⟩ := hxs
          rcases hxs (i, o) hio (fun e' => hne e'.symm) with h | h
          · obtain ⟨o', h1, _, h2⟩ := aft_in hup hbk ha (List.mem_map.2 ⟨x, hx, rfl⟩) (i + 1) i (by omega) h
            have h1' := hmm (i, o) hio
            rw [h1] at h1'
            cases h1'
            rw [hrd] at h2
            cases h2
          · exact h
        obtain ⟨q1, q2, q3, q4, q5⟩ := swapB_spec hsw
        obtain ⟨e, _, _, e4, _⟩ := step_quiet hdr (Q := Q) q1 h (fun y => hw.ev y) (fun i ps hi => (hw.L i ps hi).2)
        have hm : (i, o) ∈ delA x.1 (y :: r) := mem_delA.2 ⟨hio, fun e' => hne e'.symm⟩
        cases hd : delA x.1 (y :: r) with
        | nil => rw [hd] at hm; cases hm
        | cons a l => rw [hd] at e4; exact e4.elim
    · exact h (i, o) hio hrd
  | succ n ih =>
    intro rem Q s hmm hup hnd hQ hw h i o hio hrd
    cases rem with
    | nil => cases hio
    | cons y r =>
    rcases h with ⟨x, hx, hxr, hxs, h⟩ | h
    · by_cases e : x = (i, o)
      · subst e; exact h
      · have hne : x.1 ≠ i := fun e' => e (nodup_key hnd hx hio e')
        have hsw : swapB C ops x.2 o = true := by
          obtain ⟨Af, ha, hxs⟩ := hxs
          rcases hxs (i, o) hio (fun e' => hne e'.symm) with h | h
          · obtain ⟨o', h1, _, h2⟩ := aft_in hup hbk ha (List.mem_map.2 ⟨x, hx, rfl⟩) (i + 1) i (by omega) h
            have h1' := hmm (i, o) hio
            rw [h1] at h1'
            cases h1'
            rw [hrd] at h2
            cases h2
          · exact h
        obtain ⟨q1, q2, q3, q4, q5⟩ := swapB_spec hsw
        obtain ⟨e, ⟨e1, e2, e3⟩, _, e4, e5, e6, e7⟩ := step_quiet hdr (Q := Q) q1 h (fun y => hw.ev y) (fun i ps hi => (hw.L i ps hi).2)
        have hw' := wf_app hw e2 e5 e6
        have hm : (i, o) ∈ delA x.1 (y :: r) := mem_delA.2 ⟨hio, fun e' => hne e'.symm⟩
        have h1 := ih (delA x.1 (y :: r)) (fun m => Q m ∨ m = c0 + x.1) (e.app s) (fun z hz => hmm z (mem_delA.1 hz).1) (hup.del hxr (hmm x hx)) (nodup_del hnd) (fun z hz => by
          obtain ⟨hz1, hz2⟩ := mem_delA.1 hz
          rintro (hq | hq)
          · exact hQ z hz1 hq
          · omega) hw' e4 i o hm (rdy_del hrd)
        have hd := q2 e.d e1
        have h2 := step_comm hcm hkm (Q := Q) hdr hkp (fun y => hw.ev y) (fun i ps hi => (hw.L i ps hi).1) e2 (hQ x hx) (hQ (i, o) hio) (by show c0 + i ≠ c0 + x.1; omega) hd.2 hd.1 (fun hi => e7 (q4 hi)) h1
        refine step_mono hcm hkm (fun s1 ⟨k1, k2⟩ => ?_) (fun p s h => h) h2
        have hxm : x ∈ delA i (y :: r) := mem_delA.2 ⟨hx, hne⟩
        have hs : stepS C F.N call b ops (c0 + x.1) x.2 s1 (fun s1 => runE C F.N call b ops c0 kp k n (delA x.1 (delA i (y :: r))) s1) kp := by
          rw [delA_comm]
          exact e3 s1 ⟨fun y hy => k2.get y fun hd' => q3 y hd' hy, fun hl => k2.L (q5 hl)⟩ _ _ k1
        have hrx := rdy_del (i := i) hxr
        obtain ⟨Af, haf, hxs⟩ := hxs
        have hsx : ∀ z ∈ delA i (y :: r), z.1 ≠ x.1 → z.1 ∈ Af ∨ swapB C ops x.2 z.2 = true := fun z hz => hxs z (mem_delA.1 hz).1
        generalize delA i (y :: r) = l at hxm hs hrx hsx
        cases l with
        | nil => cases hxm
        | cons a l => exact .inl ⟨x, hxm, hrx, ⟨Af, haf, hsx⟩, hs⟩
    · exact h (i, o) hio hrd
/-- A run in every order that differs. -/
theorem drawH_sound (hdr : C.dr = true) {P : Program} {ops : Array Oper} {B : Base} {c0 rid l0 : Nat} {K0 : Nat → Prop} {s : XS S.A} {Φ : Exit → St → Prop} (hP : P = C.P) (hm : P.follows .mixedOrders = true) (hcall : CallOk C.P b call) (hK : ∀ f W, Ab.look C.K f = some W → ConOk C.P f W) (hpin : POk S B)
    (hK0 : ∀ n, K0 n → n < l0) (hl0 : l0 ≤ c0) (hc : s.c = c0 + ops.size) (hw : WF (Bd K0 l0 c0) F (s.over b)) (hbk : (numd 0 ops.toList).all (fun x => (depsN x.2).all fun j => Nat.blt j x.1) = true)
    {ds : List Nat} {e0 : Nat → Option (AV S.A)} (hds : ∀ (i : Nat) o, ops[i]? = some o → ∀ x, o.dst = some x → x ∈ ds) (he0 : ∀ j, j ∉ ds → s.env j = e0 j)
    {E : List (Nat × (List Nat × List Nat))} {t : Sch} (hE : eagOk C ops.toList E = true) (hS : schOk E false t (numd 0 ops.toList) = true) (h : runH C F.N call b ops.toList c0 kp k false t s)
    (hk : ∀ s' g a w, k s' → c0 ≤ s'.c → WF (Bd K0 l0 s'.c) F (s'.over b) → Rel B (den F (s'.over b)) g a w → lift B Φ .normal a w)
    (hp : ∀ p s' g a w v, kp p s' → (∀ j, j ∉ ds → s'.env j = e0 j) → c0 ≤ s'.c → WF (Bd K0 l0 s'.c) F (s'.over b) → inV (Bd K0 l0 s'.c) p → Rel B (den F (s'.over b)) g a w → Rep (denTT (s'.over b).T) g (denV p) v → lift B Φ (.panic [{ v, recovered := false }]) a w) :
    AW P B (.region rid ops true) Φ (den F (s.over b)) := by
  subst hP
  rw [List.all_eq_true] at hbk
  have hback : backB ops = true := by
    unfold backB
    rw [List.all_eq_true]
    intro i hi
    have hi := List.mem_range.1 hi
    rw [Array.getElem?_eq_getElem hi]
    have := hbk (i, ops[i]) (by have := mem_numd (l := ops.toList) (n := 0) (i := i) (x := ops[i]) (by simp [hi]); simpa using this)
    exact this
  have hbk' : ∀ (i : Nat) (o : Oper), ops.toList[i]? = some o → ∀ j ∈ depsN o, j < i := by
    intro i o ho j hj
    have := hbk (i, o) (by have := mem_numd (l := ops.toList) (n := 0) (i := i) (x := o) ho; simpa using this)
    rw [List.all_eq_true] at this
    exact blt (this j hj)
  let Qb : (Nat → Bool) → XS S.A → Nat → Prop := fun bs s' n => Bd K0 l0 c0 n ∨ (∃ i, n = c0 + i ∧ i < ops.size ∧ bs i = true) ∨ (c0 + ops.size ≤ n ∧ n < s'.c)
  have hQb : ∀ bs s', c0 + ops.size ≤ s'.c → ∀ n, Qb bs s' n → n < s'.c := by
    rintro bs s' hs n (hn | ⟨i, rfl, hi, _⟩ | hn)
    · have := hn.lt hK0 hl0; omega
    · omega
    · exact hn.2
  have hQd : ∀ bs s', c0 + ops.size ≤ s'.c → ∀ n, Qb bs s' n → Bd K0 l0 s'.c n := by
    rintro bs s' hs n (hn | ⟨i, rfl, hi, _⟩ | hn)
    · exact hn.up (by omega)
    · exact .inr ⟨by omega, by omega⟩
    · exact .inr ⟨by omega, hn.2⟩
  let R : (Nat → Bool) → St → Prop := fun bs σ => ∃ s' n rem, σ = den F (s'.over b) ∧ runE C F.N call b ops.toList c0 kp k n rem s' ∧ (rem.map (·.1)).Nodup ∧
    (∀ x ∈ rem, ops[x.1]? = some x.2 ∧ bs x.1 = false) ∧ (∀ (i : Nat) o, ops[i]? = some o → bs i = false → (i, o) ∈ rem) ∧ c0 + ops.size ≤ s'.c ∧ WF (Qb bs s') F (s'.over b) ∧ ∀ j, j ∉ ds → s'.env j = e0 j
  refine aw_any_rel R hm hback ?_ ?_ ?_
  · intro bs hb hb2
    refine ⟨s, _, _, rfl, (runH_E hcm hkm hE t false _ s (fun x hx => hx) (numd_nodup _ _) hS h).1 rfl, numd_nodup _ _, fun x hx => ?_, fun i o ho _ => ?_, by omega, hw.mono fun n hn => .inl hn, he0⟩
    · have := numd_mem hx
      have h2 : ops[x.1]? = some x.2 := by simpa using this.2
      exact ⟨h2, hb _ (Array.getElem?_eq_some_iff.1 h2).1⟩
    · have := mem_numd (l := ops.toList) (n := 0) (i := i) (x := o) (by simpa using ho)
      simpa using this
  · rintro i o ho bs hcl hbi hdeps σ ⟨s', n', rem, rfl, hrun, hnd, hmem, hcov, hsc, hwf, henv⟩ g a w hr K hKK
    have hi := (Array.getElem?_eq_some_iff.1 ho).1
    have hin := hcov i o ho hbi
    have hne : ∃ x r, rem = x :: r := by
      cases rem with
      | nil => cases hin
      | cons x r => exact ⟨x, r, rfl⟩
    have hrd : rdyA rem o = true := by
      unfold rdyA
      rw [List.all_eq_true]
      intro j hj
      have hb : bs j = true := hdeps j hj
      cases hm : memN j (rem.map (·.1)) with
      | false => rfl
      | true =>
        obtain ⟨x, hx1, hx2⟩ := List.mem_map.1 (memN_mem.1 hm)
        have := (hmem x hx1).2
        rw [hx2, hb] at this
        cases this
    obtain ⟨x0, r0, hrem⟩ := hne
    cases n' with
    | zero => subst hrem; exact (show False from hrun).elim
    | succ n' =>
    have nq : ¬ Qb bs s' (c0 + i) := by
      rintro (hn | ⟨i2, he, _, hb2⟩ | hn)
      · have := hn.lt hK0 hl0; omega
      · obtain rfl : i = i2 := by omega
        rw [hbi] at hb2; cases hb2
      · omega
    have nq2 : ∀ x ∈ rem, ¬ Qb bs s' (c0 + x.1) := by
      intro x hx
      obtain ⟨hx1, hx2⟩ := hmem x hx
      have hxi := (Array.getElem?_eq_some_iff.1 hx1).1
      rintro (hn | ⟨i2, he, _, hb2⟩ | hn)
      · have := hn.lt hK0 hl0; omega
      · have he : x.1 = i2 := by omega
        rw [he, hb2] at hx2; cases hx2
      · omega
    have hup : UpC ops.toList rem := by
      intro i' o' j hi' hj hjm
      obtain ⟨x, hx, hx1⟩ := List.mem_map.1 hjm
      have ho' : ops[i']? = some o' := by simpa using hi'
      refine hcov i' o' ho' ?_
      cases hb : bs i' with
      | false => rfl
      | true =>
        have := hcl i' _ ho' hb j hj
        rw [← hx1, (hmem x hx).2] at this
        cases this
    have hstep := any_next hcm hkm hkp hdr hbk' n' rem _ s' (fun x hx => by simpa using (hmem x hx).1) hup hnd nq2 hwf hrun i o hin hrd
    refine step_sound hcall hK hpin (hQb bs s' hsc) nq hwf (step_env hcm hkm (hds i o ho) henv hstep) hr K _ ?_ ?_
    · rintro a' w' ⟨s1, g', ⟨k1, k1e⟩, k2, k3, k4⟩
      refine hKK _ g' a' w' ⟨s1, n', _, rfl, k1, nodup_del hnd, fun x hx => ?_, fun j oj hoj hbj => ?_, by omega, ?_, k1e⟩ k4
      · obtain ⟨hx1, hx2⟩ := List.mem_filter.1 hx
        have hxi : x.1 ≠ i := fun e => by rw [e] at hx2; simp at hx2
        rw [up_ne _ hxi]
        exact hmem x hx1
      · by_cases e : j = i
        · subst e; rw [up_self] at hbj; cases hbj
        · rw [up_ne _ e] at hbj
          refine List.mem_filter.2 ⟨hcov j oj hoj hbj, ?_⟩
          show (!Nat.beq j i) = true
          rw [bne e]; rfl
      · refine k3.mono fun n hn => ?_
        rcases hn with (hn | rfl) | hn
        · rcases hn with hn | ⟨j, hj1, hj2, hj3⟩ | hn
          · exact .inl hn
          · refine .inr (.inl ⟨j, hj1, hj2, ?_⟩)
            by_cases e : j = i
            · subst e; exact up_self _ _
            · rw [up_ne _ e]; exact hj3
          · exact .inr (.inr ⟨hn.1, by omega⟩)
        · exact .inr (.inl ⟨i, rfl, hi, up_self _ _⟩)
        · exact .inr (.inr ⟨by omega, hn.2⟩)
    · rintro e a' w' ⟨ch, rfl, p, s1, g', v, ⟨k1, k1e⟩, k2, k3, k4, k5, rfl, k6⟩
      have hle : ∀ n, Qb bs s' n ∨ s'.c ≤ n ∧ n < s1.c → Bd K0 l0 s1.c n := by
        rintro n (hn | hn)
        · exact (hQd bs s' hsc n hn).up (by omega)
        · exact .inr ⟨by omega, hn.2⟩
      exact hp p s1 g' a' w' v k1 k1e (by omega) (k3.mono hle) (inV_mono hle k4) k5 k6
  · rintro bs hb σ ⟨s', n', rem, rfl, hrun, hnd, hmem, hcov, hsc, hwf, henv⟩ g a w hr
    have : rem = [] := by
      cases rem with
      | nil => rfl
      | cons x r =>
        have := (hmem x (by simp)).2
        rw [hb] at this
        cases this
    subst this
    exact hk s' g a w (by cases n' <;> exact hrun) (by omega) (hwf.mono (hQd bs s' hsc)) hr
omit hkp in
theorem runA_mono {ops : List Oper} {c0 : Nat} {k k' : XS S.A → Prop} {kp' : AV S.A → XS S.A → Prop} {N : Nat} (hk : ∀ s, k s → k' s) (hp : ∀ p s, kp p s → kp' p s) : ∀ (n : Nat) (rem : List (Nat × Oper)) (s : XS S.A), runA C N call b ops c0 kp k n rem s → runA C N call b ops c0 kp' k' n rem s
  | 0, [], s, h => hk s h
  | 0, _ :: _, s, h => h
  | n + 1, [], s, h => hk s h
  | n + 1, x :: r, s, h => allA_imp (fun y h => stepT_iff.2 (step_mono hcm hkm (fun s1 h1 => runA_mono hk hp n _ s1 h1) hp (stepT_iff.1 h))) h
omit hkp in
theorem runH_mono {ops : List Oper} {c0 : Nat} {k k' : XS S.A → Prop} {kp' : AV S.A → XS S.A → Prop} {N : Nat} (hk : ∀ s, k s → k' s) (hp : ∀ p s, kp p s → kp' p s) : ∀ (t : Sch) (fl : Bool) (s : XS S.A), runH C N call b ops c0 kp k fl t s → runH C N call b ops c0 kp' k' fl t s
  | .done, false, s, h => hk s h
  | .done, true, s, h => trivial
  | .one i t, fl, s, h => by
    cases fl <;>
    · simp only [runH] at h ⊢
      split at h
      · exact stepT_iff.2 (step_mono hcm hkm (fun s1 h1 => runH_mono hk hp t false s1 h1) hp (stepT_iff.1 h))
      · exact h
  | .alt i t r, fl, s, h => by
    have f : ∀ o, stepT C N call b ops (c0 + i) o s (fun s1 => runH C N call b ops c0 kp k false t s1) kp → stepT C N call b ops (c0 + i) o s (fun s1 => runH C N call b ops c0 kp' k' false t s1) kp' := fun o h => stepT_iff.2 (step_mono hcm hkm (fun s1 h1 => runH_mono hk hp t false s1 h1) hp (stepT_iff.1 h))
    have g : runH C N call b ops c0 kp k true r s → runH C N call b ops c0 kp' k' true r s := runH_mono hk hp r true s
    cases ho : ops[i]? with
    | none => cases fl <;> (simp only [runH, ho] at h)
    | some o =>
      cases fl <;> (simp only [runH, ho] at h ⊢; exact ⟨f o h.1, g h.2⟩)
end front
end Go.Rx
/-! States that say less. -/
namespace Go.Rx
open Go.Ab Go.RowKit
set_option linter.unusedVariables false
set_option linter.unusedSimpArgs false
section weak
variable {S : Sys}
section w1
variable (Q : Nat → Prop) (fr : Nat → Bool) (U : Nat → Option (Nat × Nat))
inductive W1 : AV S.A → AV S.A → Prop
  | any (p : AV S.A) : W1 p .any
  | same (p : AV S.A) (h : in1 Q p) : W1 p p
  | cl (p q : AV S.A) (h : Wk ((den1 p).strip1) (den1 q)) (hc : (den1 q).clean1 = true) : W1 p q
  | nil (id t : Nat) (hf : fr id = true) (hU : ∃ sz, U id = some (sz, 0)) : W1 .nil (.own id t [])
  | nilp (id t : Nat) (hf : fr id = true) (hU : ∃ sz, U id = some (sz, 0)) : W1 .nil (.prv id t 0)
inductive W1L : List (AV S.A) → List (AV S.A) → Prop
  | nil : W1L [] []
  | cons {p q : AV S.A} {ps qs : List (AV S.A)} (h : W1 Q fr U p q) (hs : W1L ps qs) : W1L (p :: ps) (q :: qs)
inductive Wv : AV S.A → AV S.A → Prop
  | one {p q : AV S.A} (h : W1 Q fr U p q) (ho : denV q = den1 q) : Wv p q
  | agg {ps qs : List (AV S.A)} (h : W1L Q fr U ps qs) : Wv (.agg ps) (.agg qs)
  | same (p : AV S.A) (h : inV Q p) : Wv p p
end w1
variable {Q : Nat → Prop} {fr : Nat → Bool} {U T : Nat → Option (Nat × Nat)} {g : Gh}
def unτ (fr : Nat → Bool) (g : Gh) : Gh := { g with τ := fun k => cond (fr k) none (g.τ k) }
structure TOk (Q : Nat → Prop) (fr : Nat → Bool) (T U : Nat → Option (Nat × Nat)) : Prop where
  off : ∀ n, fr n = true → ¬ Q n
  T : ∀ q, Q q → U q = T q
  new : ∀ q x, U q = some x → Q q ∨ (fr q = true ∧ x.2 = 0)
theorem TOk.not (h : TOk Q fr T U) {n : Nat} (hn : Q n) : fr n = false := by
  cases hq : fr n with
  | false => rfl
  | true => exact absurd hn (h.off n hq)
theorem same1 (hT : TOk Q fr T U) {p : AV S.A} (h : in1 Q p) {v : Value} (hr : Rep1 T g (den1 p) v) : Rep1 U (unτ fr g) (den1 p) v := by
  cases p with
  | own k t l =>
    obtain ⟨h1, sz, m, h2, h3, h4⟩ := hr
    have hk : Q k := h
    refine ⟨h1, sz, m, by rw [hT.T k hk]; exact h2, h3, fun e => ?_⟩
    have := h4 e
    show (∃ b c, cond (fr k) none (g.τ k) = some (b, c) ∧ _) ∨ (cond (fr k) none (g.τ k) = none ∧ _)
    rw [hT.not hk]
    exact this
  | prv k t n =>
    obtain ⟨h1, sz, m, h2, h3, h4⟩ := hr
    have hk : Q k := h
    refine ⟨h1, sz, m, by rw [hT.T k hk]; exact h2, h3, fun e => ?_⟩
    have := h4 e
    show (∃ b c, cond (fr k) none (g.τ k) = some (b, c) ∧ _) ∨ (cond (fr k) none (g.τ k) = none ∧ _)
    rw [hT.not hk]
    exact this
  | tel k t n i =>
    obtain ⟨sz, m, h2, h3, h4⟩ := hr
    have hk : Q k := h
    refine ⟨sz, m, by rw [hT.T k hk]; exact h2, h3, fun e => ?_⟩
    have := h4 e
    show ∃ b c, cond (fr k) none (g.τ k) = some (b, c) ∧ _
    rw [hT.not hk]
    exact this
  | _ => exact hr
theorem rep1_w (hT : TOk Q fr T U) {p q : AV S.A} (h : W1 Q fr U p q) {v : Value} (hr : Rep1 T g (den1 p) v) : Rep1 U (unτ fr g) (den1 q) v := by
  cases h with
  | any => trivial
  | same _ h => exact same1 hT h hr
  | cl _ _ h hc => exact rep1_clean (g := unτ fr g) (imm := g.imm) (Imm.le_refl _) hc (wk_rep1 h (rep1_strip (Imm.le_refl _) _ _ hr))
  | nil id t hf hU =>
    obtain rfl : v = .slice none 0 0 := hr
    obtain ⟨sz, hU⟩ := hU
    exact ⟨sliceH_nil (S.E t) g.imm, sz, 0, hU, Nat.le_refl _, fun _ => .inr ⟨by show cond (fr id) none _ = none; rw [hf]; rfl, rfl, rfl⟩⟩
  | nilp id t hf hU =>
    obtain rfl : v = .slice none 0 0 := hr
    obtain ⟨sz, hU⟩ := hU
    exact ⟨⟨none, 0, rfl, Nat.le_refl _, by decide, fun _ => rfl⟩, sz, 0, hU, Nat.le_refl _, fun _ => .inr ⟨by show cond (fr id) none _ = none; rw [hf]; rfl, rfl, rfl⟩⟩
theorem repL_w (hT : TOk Q fr T U) {ps qs : List (AV S.A)} (h : W1L Q fr U ps qs) : ∀ {vs : List Value}, RepL T g (ps.map den1) vs → RepL U (unτ fr g) (qs.map den1) vs := by
  induction h with
  | nil => exact fun h => h
  | cons h _ ih => rintro vs ⟨v, vs', e, h1, h2, h3⟩; exact ⟨v, vs', e, rep1_w hT h h1, h2, ih h3⟩
theorem w1L_refl {ps : List (AV S.A)} (h : ∀ p ∈ ps, in1 Q p) : W1L Q fr U ps ps := by
  induction ps with
  | nil => exact .nil
  | cons p ps ih => exact .cons (.same p (h p (by simp))) (ih fun q hq => h q (by simp [hq]))
theorem rep_den1 {p : AV S.A} {v : Value} (h : Rep T g (denV p) v) : Rep1 T g (den1 p) v := by
  cases p <;> first | exact h | trivial
theorem rep_of1' {p : AV S.A} {v : Value} (h : Rep1 T g (den1 p) v) : Rep T g (den1 p) v := by
  cases p <;> exact h
theorem repE_same (hT : TOk Q fr T U) {p : AV S.A} (h : in2 Q p) {v : Value} (hr : RepE T g (den2 p) v) : RepE U (unτ fr g) (den2 p) v := by
  cases p with
  | agg cs =>
    obtain ⟨vs, e, hl⟩ := hr
    exact ⟨vs, e, repL_w hT (w1L_refl h) hl⟩
  | own k t l => exact same1 (S := S) (p := .own k t l) hT h hr
  | prv k t l => exact same1 (S := S) (p := .prv k t l) hT h hr
  | tel k t l i => exact same1 (S := S) (p := .tel k t l i) hT h hr
  | _ => exact hr
theorem repT_same (hT : TOk Q fr T U) : ∀ {ps : List (AV S.A)} {vs : List Value}, (∀ p ∈ ps, in2 Q p) → RepT T g (ps.map den2) vs → RepT U (unτ fr g) (ps.map den2) vs
  | [], vs, _, h => h
  | p :: ps, vs, hq, ⟨v, vs', e, h1, h2⟩ => ⟨v, vs', e, repE_same hT (hq p (by simp)) h1, repT_same hT (fun q h => hq q (by simp [h])) h2⟩
theorem rep_same (hT : TOk Q fr T U) {p : AV S.A} (h : inV Q p) {v : Value} (hr : Rep T g (denV p) v) : Rep U (unτ fr g) (denV p) v := by
  cases p with
  | tup ps =>
    obtain ⟨vs, e, hl⟩ := hr
    exact ⟨vs, e, repT_same hT h hl⟩
  | agg cs => exact repE_same (p := .agg cs) hT h hr
  | own k t l => exact same1 (S := S) (p := .own k t l) hT h hr
  | prv k t l => exact same1 (S := S) (p := .prv k t l) hT h hr
  | tel k t l i => exact same1 (S := S) (p := .tel k t l i) hT h hr
  | _ => exact hr
theorem rep_w (hT : TOk Q fr T U) {p q : AV S.A} (h : Wv Q fr U p q) {v : Value} (hr : Rep T g (denV p) v) : Rep U (unτ fr g) (denV q) v := by
  cases h with
  | one h ho => rw [ho]; exact rep_of1' (rep1_w hT h (rep_den1 hr))
  | agg h => obtain ⟨vs, e, hl⟩ := hr; exact ⟨vs, e, repL_w hT h hl⟩
  | same _ h => exact rep_same hT h hr
/-- Boxes that say less. -/
def WB (Q : Nat → Prop) (fr : Nat → Bool) (U : Nat → Option (Nat × Nat)) (t u : Bx S.A) : Prop := W1L Q fr U t.cs u.cs ∧ u.tl = t.tl
theorem w1L_len {ps qs : List (AV S.A)} (h : W1L Q fr U ps qs) : ps.length = qs.length := by
  induction h with
  | nil => rfl
  | cons _ _ ih => simp [ih]
theorem repL_cleanTo {T' : Nat → Option (Nat × Nat)} {g' : Gh} (hi : g'.imm = g.imm) : ∀ {ps : List PV} {vs : List Value}, (∀ p ∈ ps, p.clean1 = true) → RepL T g ps vs → RepL T' g' ps vs
  | [], vs, _, h => h
  | p :: ps, vs, hc, ⟨v, vs', e, h1, h2, h3⟩ => by
    refine ⟨v, vs', e, ?_, h2, repL_cleanTo hi (fun q hq => hc q (by simp [hq])) h3⟩
    have := hc p (by simp)
    cases p with
    | sem S => show S.holds g'.imm v; rw [hi]; exact h1
    | any => trivial
    | sc u => exact h1
    | agg cs => exact h1.elim
    | tup vs => exact h1.elim
    | loc s o => cases this
    | clo f ls => cases this
    | arr s o n c => cases this
    | own k n S => cases this
    | ta k n o => cases this
theorem denT_clean (t : Tl S.A) : ∀ p ∈ denT t, p.clean1 = true := by
  intro p hp
  rcases List.mem_append.1 hp with hp | hp
  · obtain ⟨x, _, hx⟩ := List.mem_flatMap.1 hp
    exact List.all_eq_true.1 (pv_clean t.t x) p hx
  · rw [(List.mem_replicate.1 hp).2]; rfl
theorem repB_w (hT : TOk Q fr T U) {t u : Bx S.A} (h : WB Q fr U t u) {vs : List Value} (hr : RepL T g (denB t) vs) : RepL U (unτ fr g) (denB u) vs := by
  obtain ⟨h1, h2⟩ := h
  unfold denB at hr ⊢
  rw [h2]
  cases htl : t.tl with
  | none => rw [htl] at hr; exact repL_w hT h1 hr
  | some tl =>
    rw [htl] at hr
    simp only at hr ⊢
    have a := repL_take t.cs.length hr
    have b := repL_drop t.cs.length hr
    have hl : t.cs.length = (t.cs.map (den1 (S := S))).length := by rw [List.length_map]
    rw [hl, List.take_left] at a
    rw [hl, List.drop_left] at b
    have := repL_append (repL_w hT h1 a) (repL_cleanTo (g := g) (g' := unτ fr g) (T' := U) rfl (denT_clean tl) b)
    rw [List.take_append_drop] at this
    exact this
theorem rel_weak {B : Base} {F : Fr S} {t u : XS S.A} {a : Act} {w : World} (hT : TOk Q fr (denTT t.T) (denTT u.T)) (hM1 : ∀ q, Q q → denM u.T q = denM t.T q) (hM2 : ∀ q ps, denM u.T q = some ps → Q q ∨ (fr q = true ∧ ps = [])) (hext : ∀ k, inV Q (F.ext k)) (henv : ∀ k, Nat.blt k F.N = true → Wv Q fr (denTT u.T) (t.get k) (u.get k))
    (hL : ∀ i us, u.L i = some us → ∃ ts, t.L i = some ts ∧ WB Q fr (denTT u.T) ts us) (hr : Rel B (den F t) g a w) : Rel B (den F u) (unτ fr g) a w := by
  have live : ∀ s us, (den F u).L s = some us → ∃ (ts us' : Bx S.A), (den F t).L s = some (denB ts) ∧ us = denB us' ∧ WB Q fr (denTT u.T) ts us' := by
    intro s us h
    have h : (u.L s).map denB = some us := h
    cases hl : u.L s with
    | none => rw [hl] at h; cases h
    | some us' =>
      rw [hl] at h
      obtain ⟨ts, h1, h2⟩ := hL s us' hl
      exact ⟨ts, us', by show (t.L s).map _ = _; rw [h1]; rfl, by simpa using h.symm, h2⟩
  have Tx : ∀ q x b c, (den F u).T q = some x → (unτ fr g).τ q = some (b, c) → (den F t).T q = some x ∧ g.τ q = some (b, c) := by
    intro q x b c h1 h2
    have h2 : cond (fr q) none (g.τ q) = some (b, c) := h2
    cases hf : fr q with
    | true => rw [hf] at h2; cases h2
    | false =>
      rw [hf] at h2
      rcases hT.new q x h1 with h3 | ⟨h3, _⟩
      · exact ⟨by show denTT t.T q = some x; rw [← hT.T q h3]; exact h1, h2⟩
      · rw [hf] at h3; cases h3
  refine { hr with env := fun k => ?_, box := ?_, apart := ?_, tip := ?_, tips := ?_, boxtip := ?_, prv := ?_ }
  · have h1 := hr.env k
    show Rep (denTT u.T) _ (cond (Nat.blt k F.N) (denV (u.get k)) (denV (F.ext k))) _
    have h1 : Rep (denTT t.T) g (cond (Nat.blt k F.N) (denV (t.get k)) (denV (F.ext k))) (a.tmps.getD k (B.ext k)) := h1
    cases hk : Nat.blt k F.N with
    | true => rw [hk] at h1; exact rep_w hT (henv k hk) h1
    | false => rw [hk] at h1; exact rep_same hT (hext k) h1
  · intro s us h
    obtain ⟨ts, us', h1, rfl, h2⟩ := live s us h
    obtain ⟨cs, ty, k1, k2, k3⟩ := hr.box s _ h1
    exact ⟨cs, ty, k1, repB_w hT h2 k2, k3⟩
  · intro s s' ps ps' h h' hne
    obtain ⟨_, _, h1, _⟩ := live s ps h
    obtain ⟨_, _, h2, _⟩ := live s' ps' h'
    exact hr.apart s s' _ _ h1 h2 hne
  · intro q sz m b c h1 h2
    obtain ⟨h3, h4⟩ := Tx q _ b c h1 h2
    exact hr.tip q sz m b c h3 h4
  · intro q q' x x' b b' c c' h1 h2 h3 h4 hne
    obtain ⟨h5, h6⟩ := Tx q _ b c h1 h3
    obtain ⟨h7, h8⟩ := Tx q' _ b' c' h2 h4
    exact hr.tips q q' _ _ _ _ _ _ h5 h7 h6 h8 hne
  · intro s ps q x b c h1 h2 h3
    obtain ⟨_, _, h4, _⟩ := live s ps h1
    obtain ⟨h5, h6⟩ := Tx q _ b c h2 h3
    exact hr.boxtip s _ q _ b c h4 h5 h6
  · intro q ps h
    have h : denM u.T q = some ps := h
    rcases hM2 q ps h with hq | ⟨hf, rfl⟩
    · have h1 : (den F t).M q = some ps := by show denM t.T q = _; rw [← hM1 q hq]; exact h
      refine (hr.prv q ps h1).mono (hT.T q hq) (by show cond (fr q) none (g.τ q) = _; rw [hT.not hq]; rfl) (Imm.le_refl _) fun b c _ => ⟨fun _ => rfl, rfl⟩
    · have hx : ∃ x, denTT u.T q = some x := by
        rw [denM_eq] at h
        unfold denTT
        cases hu : u.T q with
        | none => rw [hu] at h; cases h
        | some x => exact ⟨_, rfl⟩
      obtain ⟨x, hx⟩ := hx
      rcases hT.new q x hx with hq | ⟨_, h0⟩
      · exact absurd hq (hT.off q hf)
      · obtain ⟨sz, m⟩ := x
        obtain rfl : m = 0 := h0
        exact ⟨sz, 0, hx, by simp, fun _ => rfl, fun b c h' => by
          have h' : cond (fr q) none (g.τ q) = some (b, c) := h'
          rw [hf] at h'; cases h'⟩
/-! ### Heads of loops -/
def AllV (φ : RPl → (rk : RK) → rk.ty S.A → Prop) : (V : RV) → HV S.A V → Prop
  | [], _ => True
  | [(rp, rk)], x => φ rp rk x
  | (rp, rk) :: y :: r, h => φ rp rk h.1 ∧ AllV φ (y :: r) h.2
theorem lay_ind {φ : RPl → (rk : RK) → rk.ty S.A → Prop} {M : XS S.A → Prop} (hs : ∀ s rp rk x, φ rp rk x → M s → M (layK s rp rk x)) : ∀ (V : RV) (h : HV S.A V) (s : XS S.A), AllV φ V h → M s → M (layV s V h)
  | [], _, s, _, hm => hm
  | [(rp, rk)], x, s, h, hm => hs s rp rk x h hm
  | (rp, rk) :: y :: r, h, s, ha, hm => lay_ind hs (y :: r) h.2 _ ha.2 (hs s rp rk h.1 ha.1 hm)
theorem all_mono {φ ψ : RPl → (rk : RK) → rk.ty S.A → Prop} (hs : ∀ rp rk x, φ rp rk x → ψ rp rk x) : ∀ (V : RV) (h : HV S.A V), AllV φ V h → AllV ψ V h
  | [], _, _ => trivial
  | [(rp, rk)], x, h => hs rp rk x h
  | (rp, rk) :: y :: r, h, ha => ⟨hs rp rk h.1 ha.1, all_mono hs (y :: r) h.2 ha.2⟩
/-- What is known of each thing that varies. -/
def Got (ini : Option Nat) (t : XS S.A) (rp : RPl) (rk : RK) (x : rk.ty S.A) : Prop := ∃ cs P, rawR t rp = some cs ∧ backK ini t rk cs = some (P, x) ∧ ∀ q, P = some q → q
theorem back_all {ini : Option Nat} {t : XS S.A} : ∀ (V : RV) (p : Option Prop) (h : HV S.A V), backV ini t V = some (p, h) → (∀ q, p = some q → q) → AllV (Got ini t) V h
  | [], p, h, _, _ => trivial
  | [(rp, rk)], p, x, he, hp => by
    simp only [backV] at he
    split at he
    · rename_i cs hcs; exact ⟨cs, p, hcs, he, hp⟩
    · cases he
  | (rp, rk) :: y :: r, p, h, he, hp => by
    simp only [backV] at he
    split at he
    · rename_i cs hcs
      split at he
      · rename_i p1 x q1 h1 e1 e2
        cases he
        refine ⟨⟨cs, p1, hcs, e1, fun q hq => ?_⟩, back_all (y :: r) q1 h1 e2 fun q hq => ?_⟩
        · subst hq
          cases q1 with
          | none => exact hp q rfl
          | some q2 => exact (hp (q ∧ q2) rfl).1
        · subst hq
          cases p1 with
          | none => exact hp q rfl
          | some q2 => exact (hp (q2 ∧ q) rfl).2
      · cases he
    · cases he
theorem boolA_eq {p : AV S.A} {v : Bool} (h : boolA p = some v) : p = .sc (.bool v) := boolA_sc h
theorem wkL_w1 {ps qs : List (AV S.A)} (h : WkL (ps.map fun p => (den1 p).strip1) (qs.map den1)) (hc : (qs.map den1).all PV.clean1 = true) : W1L Q fr U ps qs := by
  induction ps generalizing qs with
  | nil =>
    cases qs with
    | nil => exact .nil
    | cons q qs => cases h
  | cons p ps ih =>
    cases qs with
    | nil => cases h
    | cons q qs =>
      cases h with
      | cons h hs =>
        simp only [List.map_cons, List.all_cons, Bool.and_eq_true] at hc
        exact .cons (.cl p q h hc.1) (ih hs hc.2)
/-- The value that is laid down says no more than what was there. -/
theorem back_w {ini : Option Nat} {t : XS S.A} {rk : RK} {cs : List (AV S.A)} {P : Option Prop} {x : rk.ty S.A} (h : backK ini t rk cs = some (P, x)) (hin : ∀ q u u' l, rk = .own q u → cs = [.own q u' l] → Q q) (hU : ∀ q u, (rk = .own q u ∨ rk = .prv q u) → cs = [.nil] → fr q = true ∧ ∃ sz, U q = some (sz, 0)) (hinp : ∀ q u u' n, rk = .prv q u → cs = [.prv q u' n] → Q q) (hP : ∀ p, P = some p → p) :
    (∀ p, cs = [p] → Wv Q fr U p (slotK rk x) ∧ W1 Q fr U p (slotK rk x)) ∧ W1L Q fr U cs (cellsK rk x) := by
  have one : ∀ {p : AV S.A}, cs = [p] → W1 Q fr U p (slotK rk x) → denV (slotK rk x) = den1 (slotK rk x) → cellsK rk x = [slotK rk x] → (∀ p, cs = [p] → Wv Q fr U p (slotK rk x) ∧ W1 Q fr U p (slotK rk x)) ∧ W1L Q fr U cs (cellsK rk x) := by
    intro p e h1 h2 h3
    subst e
    exact ⟨fun p' e => by cases e; exact ⟨.one h1 h2, h1⟩, by rw [h3]; exact .cons h1 .nil⟩
  cases rk with
  | int k =>
    simp only [backK] at h
    split at h <;> first | cases h | skip
    rename_i k' n
    cases hk : kindB k k' with
    | false => rw [hk] at h; cases h
    | true =>
      rw [hk] at h
      obtain rfl := kindB_eq hk
      cases h
      exact one rfl (.same _ trivial) rfl rfl
  | bool =>
    simp only [backK] at h
    split at h <;> first | cases h | skip
    split at h <;> first | cases h | skip
    rename_i p v hv
    obtain rfl := boolA_eq hv
    exact one rfl (.same _ trivial) rfl rfl
  | str =>
    simp only [backK] at h
    split at h <;> first | cases h | skip
    exact one rfl (.same _ trivial) rfl rfl
  | sl u =>
    simp only [backK] at h
    split at h <;> first | cases h | skip
    split at h <;> first | cases h | skip
    rename_i p l hl
    have := (asSl_den hl).1
    refine one rfl (.cl _ _ ?_ rfl) rfl rfl
    cases p <;> first | exact this | cases hl
  | own q u =>
    simp only [backK] at h
    split at h <;> first | cases h | skip
    · rename_i q' u' l
      cases hq : Nat.beq q q' with
      | false => rw [hq] at h; cases h
      | true =>
        obtain rfl := Nat.eq_of_beq_eq_true hq
        rw [hq] at h
        simp only [cond_true] at h
        split at h <;> first | cases h | skip
        rename_i hu
        obtain rfl := Nat.eq_of_beq_eq_true hu
        split at h <;> first | cases h | skip
        rename_i sz m hT
        cases hs : Nat.beq sz (szOf S u') with
        | false => rw [hs] at h; cases h
        | true =>
          rw [hs] at h
          cases h
          exact one rfl (.same _ (hin _ _ _ _ rfl rfl)) rfl rfl
    · split at h <;> first | cases h | skip
      rename_i c
      cases hc : Nat.ble c q with
      | false => rw [hc] at h; cases h
      | true =>
        rw [hc] at h
        cases h
        have := hU q u (.inl rfl) rfl
        exact one rfl (.nil q u this.1 this.2) rfl rfl
  | prv q u =>
    simp only [backK] at h
    split at h <;> first | cases h | skip
    · rename_i q' u' n
      cases hq : (Nat.beq q q' && Nat.beq u' u) with
      | false => rw [hq] at h; cases h
      | true =>
        rw [hq] at h
        simp only [cond_true] at h
        simp only [Bool.and_eq_true] at hq
        obtain rfl := Nat.eq_of_beq_eq_true hq.1
        obtain rfl := Nat.eq_of_beq_eq_true hq.2
        split at h <;> first | cases h | skip
        rename_i sz m v l pad hT
        split at h <;> first | cases h | skip
        rename_i hv
        obtain rfl := Nat.eq_of_beq_eq_true hv
        cases hs : Nat.beq sz (szOf S v) with
        | false => rw [hs] at h; cases h
        | true =>
          rw [hs] at h
          cases h
          have hn : n = l.length := (hP _ rfl).1
          subst hn
          exact one rfl (.same _ (hinp _ _ _ _ rfl rfl)) rfl rfl
    · split at h <;> first | cases h | skip
      rename_i c
      cases hc : Nat.ble c q with
      | false => rw [hc] at h; cases h
      | true =>
        rw [hc] at h
        cases h
        have := hU q u (.inr rfl) rfl
        exact one rfl (.nilp q u this.1 this.2) rfl rfl
  | ag u =>
    simp only [backK] at h
    split at h <;> first | cases h | skip
    split at h <;> first | cases h | skip
    rename_i cs' x' hx
    refine ⟨fun p e => ?_, .cons (.any _) .nil⟩
    cases e
    exact ⟨.agg (wkL_w1 (by rw [av_den]; exact dec_wk hx) (by rw [av_den]; exact pv_clean u _)), .cl _ _ (.any _) rfl⟩
  | run u pad => exact ⟨fun p e => ⟨.one (.any _) rfl, .any _⟩, by
      simp only [backK] at h
      split at h <;> first | cases h | skip
      exact .cons (.any _) .nil⟩
  | bx u =>
    simp only [backK] at h
    split at h <;> first | cases h | skip
    rename_i x' hx
    exact ⟨fun p e => ⟨.one (.any _) rfl, .any _⟩, wkL_w1 (by show WkL _ ((av S u _).map den1); rw [av_den]; exact dec_wk hx) (by show ((av S u _).map den1).all _ = true; rw [av_den]; exact pv_clean u _)⟩
theorem all_mem {φ : RPl → (rk : RK) → rk.ty S.A → Prop} : ∀ (V : RV) (h : HV S.A V), AllV φ V h → AllV (fun rp rk x => φ rp rk x ∧ (rp, rk) ∈ V) V h
  | [], _, _ => trivial
  | [(rp, rk)], x, h => ⟨h, by simp⟩
  | (rp, rk) :: y :: r, h, ha => ⟨⟨ha.1, by simp⟩, all_mono (fun rp rk x h => ⟨h.1, List.mem_cons_of_mem _ h.2⟩) _ _ (all_mem (y :: r) h.2 ha.2)⟩
theorem tip_mem {q u : Nat} {rp : RPl} : ∀ {V : RV}, (rp, RK.own q u) ∈ V → q ∈ tipV V
  | (rp', rk') :: V, h => by
    rcases List.mem_cons.1 h with e | h
    · cases e; exact List.mem_cons_self
    · have := tip_mem h
      cases rk' <;> first | exact List.mem_cons_of_mem _ this | exact this
theorem tip_memP {q u : Nat} {rp : RPl} : ∀ {V : RV}, (rp, RK.prv q u) ∈ V → q ∈ tipV V
  | (rp', rk') :: V, h => by
    rcases List.mem_cons.1 h with e | h
    · cases e; exact List.mem_cons_self
    · have := tip_memP h
      cases rk' <;> first | exact List.mem_cons_of_mem _ this | exact this
def BoxAt (rp : RPl) (i : Nat) : Prop := rp = .bx i ∨ (∃ j, rp = .ce i j) ∨ rp = .tl i
theorem box_mem {rp : RPl} {rk : RK} {i : Nat} (hi : BoxAt rp i) : ∀ {V : RV}, (rp, rk) ∈ V → i ∈ boxV V
  | (rp', rk') :: V, h => by
    rcases List.mem_cons.1 h with e | h
    · cases e
      rcases hi with rfl | ⟨j, rfl⟩ | rfl <;> exact List.mem_cons_self
    · have := box_mem hi h
      cases rp' <;> first | exact List.mem_cons_of_mem _ this | exact this
def tipS (s : XS S.A) (rk : RK) (x : rk.ty S.A) : XS S.A := match rk, x with
  | .own q t, l => s.setT q (szOf S t) l.length
  | .prv q t, l => s.setP q (szOf S t) t l
  | _, _ => s
theorem layK_eq (s : XS S.A) (rp : RPl) (rk : RK) (x : rk.ty S.A) : layK s rp rk x = match rp with
  | .sl d => (tipS s rk x).put d (slotK rk x)
  | .ce i j => (match (tipS s rk x).L i with
    | some bx => (tipS s rk x).setL i { bx with cs := bx.cs.set j (slotK rk x) }
    | none => tipS s rk x)
  | .bx i => (match (tipS s rk x).L i with
    | some bx => (tipS s rk x).setL i { bx with cs := cellsK rk x }
    | none => tipS s rk x)
  | .tl i => (match (tipS s rk x).L i with
    | some bx => (tipS s rk x).setL i { bx with tl := tlK rk x }
    | none => tipS s rk x) := by
  cases rk <;> rfl
theorem tipS_env (s : XS S.A) (rk : RK) (x : rk.ty S.A) : (tipS s rk x).env = s.env ∧ (tipS s rk x).L = s.L ∧ (tipS s rk x).c = s.c := by cases rk <;> exact ⟨rfl, rfl, rfl⟩
theorem layK_T (s : XS S.A) (rp : RPl) (rk : RK) (x : rk.ty S.A) : (layK s rp rk x).T = (tipS s rk x).T := by
  rw [layK_eq]
  cases rp with
  | sl d => rfl
  | bx i => simp only []; split <;> rfl
  | ce i j => simp only []; split <;> rfl
  | tl i => simp only []; split <;> rfl
theorem lay_tip {q : Nat} : ∀ (V : RV) (h : HV S.A V) (s : XS S.A), (q ∈ tipV V ∨ s.T q ≠ none) → (layV s V h).T q ≠ none
  | [], _, s, h => h.resolve_left (fun h => by cases h)
  | [(rp, rk)], x, s, h => by
    show (layK s rp rk x).T q ≠ none
    rw [layK_T]
    cases rk with
    | own q' t =>
      show (bif Nat.beq q q' then _ else s.T q) ≠ none
      cases hq : Nat.beq q q' with
      | true => simp
      | false =>
        rcases h with h | h
        · rcases List.mem_cons.1 h with e | h
          · subst e; rw [Nat.beq_refl] at hq; cases hq
          · cases h
        · exact h
    | prv q' t =>
      show (bif Nat.beq q q' then _ else s.T q) ≠ none
      cases hq : Nat.beq q q' with
      | true => simp
      | false =>
        rcases h with h | h
        · rcases List.mem_cons.1 h with e | h
          · subst e; rw [Nat.beq_refl] at hq; cases hq
          · cases h
        · exact h
    | _ => exact h.resolve_left (fun h => by cases h)
  | (rp, rk) :: y :: r, h, s, hq => by
    refine lay_tip (y :: r) h.2 _ ?_
    rw [layK_T]
    cases rk with
    | own q' t =>
      cases hqq : Nat.beq q q' with
      | true => right; show (bif Nat.beq q q' then _ else s.T q) ≠ none; rw [hqq]; simp
      | false =>
        rcases hq with hq | hq
        · rcases List.mem_cons.1 hq with e | hq
          · subst e; rw [Nat.beq_refl] at hqq; cases hqq
          · exact .inl hq
        · right; show (bif Nat.beq q q' then _ else s.T q) ≠ none; rw [hqq]; exact hq
    | prv q' t =>
      cases hqq : Nat.beq q q' with
      | true => right; show (bif Nat.beq q q' then _ else s.T q) ≠ none; rw [hqq]; simp
      | false =>
        rcases hq with hq | hq
        · rcases List.mem_cons.1 hq with e | hq
          · subst e; rw [Nat.beq_refl] at hqq; cases hqq
          · exact .inl hq
        · right; show (bif Nat.beq q q' then _ else s.T q) ≠ none; rw [hqq]; exact hq
    | _ => exact hq
theorem w1L_set {Q : Nat → Prop} {fr : Nat → Bool} {U : Nat → Option (Nat × Nat)} {q : AV S.A} : ∀ {ts ps : List (AV S.A)} {j : Nat} {p : AV S.A}, W1L Q fr U ts ps → ts[j]? = some p → W1 Q fr U p q → W1L Q fr U ts (ps.set j q)
  | _, _, j, p, .nil, hj, _ => by cases hj
  | _, _, 0, p, .cons h hs, hj, hq => by cases hj; exact .cons hq hs
  | _, _, j + 1, p, .cons h hs, hj, hq => .cons h (w1L_set hs hj hq)
theorem w1L_any {Q : Nat → Prop} {fr : Nat → Bool} {U : Nat → Option (Nat × Nat)} : ∀ {ts ps : List (AV S.A)}, ts.length = ps.length → W1L Q fr U ts (ps.map fun _ => .any)
  | [], [], _ => .nil
  | t :: ts, p :: ps, h => .cons (.any _) (w1L_any (by simpa using h))
theorem over_get (s b : XS S.A) (k : Nat) : (s.over b).get k = match s.env k with | some p => p | none => b.get k := by
  unfold XS.get XS.over
  simp only
  cases s.env k <;> rfl
theorem nmem {x : Nat} {l : List Nat} (h : x ∉ l) : memN x l = false := by
  cases hq : memN x l with
  | false => rfl
  | true => exact absurd (memN_mem.1 hq) h
/-- Rows behind cells: as they are laid. -/
theorem lay_tl {φ : RPl → (rk : RK) → rk.ty S.A → Prop} {b : XS S.A} {V0 : RV} {OK : Nat → Option (Tl S.A) → Prop} (hφ : ∀ i rk x, φ (.tl i) rk x → OK i (tlK rk x)) : ∀ (V : RV) (h : HV S.A V) (s : XS S.A), AllV φ V h → (∀ i ∈ tlV V, i ∈ boxV V0) → (∀ i ∈ boxV V0, s.L i = none → b.L i = none) → (∀ i us, (s.over b).L i = some us → i ∈ tlV V ∨ OK i us.tl) → ∀ i us, ((layV s V h).over b).L i = some us → OK i us.tl := by
  have key : ∀ (rp : RPl) (rk : RK) (x : rk.ty S.A) (rest : List Nat) (all : List Nat) (s : XS S.A), φ rp rk x → (∀ i ∈ all, i ∈ boxV V0) → (∀ i, i ∈ all → i ∈ rest ∨ rp = .tl i) → (∀ i ∈ boxV V0, s.L i = none → b.L i = none) → (∀ i us, (s.over b).L i = some us → i ∈ all ∨ OK i us.tl) →
      (∀ i ∈ boxV V0, (layK s rp rk x).L i = none → b.L i = none) ∧ (∀ i us, ((layK s rp rk x).over b).L i = some us → i ∈ rest ∨ OK i us.tl) := by
    intro rp rk x rest all s hx h0 hall hs h
    obtain ⟨ev, el, _⟩ := tipS_env s rk x
    have hs' : ∀ i ∈ boxV V0, (tipS s rk x).L i = none → b.L i = none := by intro i hi hn; rw [el] at hn; exact hs i hi hn
    have h' : ∀ i us, ((tipS s rk x).over b).L i = some us → i ∈ all ∨ OK i us.tl := by
      intro i us hi
      have e9 : ((tipS s rk x).over b).L i = (s.over b).L i := by
        show orE ((tipS s rk x).L i) _ = orE (s.L i) _
        rw [el]
      exact h i us (by rw [← e9]; exact hi)
    have nb : ∀ {i : Nat}, (∀ j, rp ≠ .tl j) → (i ∈ all ∨ OK i (none : Option (Tl S.A)) ∨ True) → ∀ o, (i ∈ all ∨ OK i o) → (i ∈ rest ∨ OK i o) := by
      intro i hne _ o ho
      rcases ho with ho | ho
      · exact .inl ((hall i ho).resolve_right (hne i))
      · exact .inr ho
    have setcase : ∀ (i0 : Nat) (bx bx' : Bx S.A), (tipS s rk x).L i0 = some bx → ((i0 ∈ all ∨ OK i0 bx.tl) → (i0 ∈ rest ∨ OK i0 bx'.tl)) → (∀ i, i ≠ i0 → ∀ o : Option (Tl S.A), (i ∈ all ∨ OK i o) → (i ∈ rest ∨ OK i o)) →
        (∀ i ∈ boxV V0, ((tipS s rk x).setL i0 bx').L i = none → b.L i = none) ∧ (∀ i us, (((tipS s rk x).setL i0 bx').over b).L i = some us → i ∈ rest ∨ OK i us.tl) := by
      intro i0 bx bx' hbx h1 h2
      refine ⟨fun i hi hn => ?_, fun i us hi => ?_⟩
      · have hn : (bif Nat.beq i i0 then some bx' else (tipS s rk x).L i) = none := hn
        cases hq : Nat.beq i i0 with
        | true => rw [hq] at hn; cases hn
        | false => rw [hq] at hn; exact hs' i hi hn
      · rw [over_setL] at hi
        have hi : (bif Nat.beq i i0 then some bx' else ((tipS s rk x).over b).L i) = some us := hi
        cases hq : Nat.beq i i0 with
        | true =>
          have hii := Nat.eq_of_beq_eq_true hq
          rw [hq] at hi
          have hi9 := Option.some.inj hi
          subst hii
          rw [← hi9]
          exact h1 (h' i bx (by show orE ((tipS s rk x).L i) _ = _; rw [hbx]; rfl))
        | false =>
          rw [hq] at hi
          exact h2 i (fun e => by subst e; rw [Nat.beq_refl] at hq; cases hq) _ (h' i us hi)
    rw [layK_eq]
    cases rp with
    | sl d =>
      exact ⟨hs', fun i us hi => nb (fun j e => by cases e) (.inr (.inr trivial)) _ (h' i us hi)⟩
    | ce i0 j =>
      simp only []
      split
      · rename_i bx hbx
        exact setcase i0 bx _ hbx (nb (fun j e => by cases e) (.inr (.inr trivial)) _) (fun i _ o => nb (fun j e => by cases e) (.inr (.inr trivial)) o)
      · exact ⟨hs', fun i us hi => nb (fun j e => by cases e) (.inr (.inr trivial)) _ (h' i us hi)⟩
    | bx i0 =>
      simp only []
      split
      · rename_i bx hbx
        exact setcase i0 bx _ hbx (nb (fun j e => by cases e) (.inr (.inr trivial)) _) (fun i _ o => nb (fun j e => by cases e) (.inr (.inr trivial)) o)
      · exact ⟨hs', fun i us hi => nb (fun j e => by cases e) (.inr (.inr trivial)) _ (h' i us hi)⟩
    | tl i0 =>
      simp only []
      have other : ∀ i, i ≠ i0 → ∀ o : Option (Tl S.A), (i ∈ all ∨ OK i o) → (i ∈ rest ∨ OK i o) := by
        intro i hi o ho
        rcases ho with ho | ho
        · exact .inl ((hall i ho).resolve_right (fun e => by cases e; exact hi rfl))
        · exact .inr ho
      split
      · rename_i bx hbx
        exact setcase i0 bx _ hbx (fun _ => .inr (hφ i0 rk x hx)) other
      · rename_i hnone
        refine ⟨hs', fun i us hi => ?_⟩
        by_cases e : i = i0
        · subst e
          rcases h' i us hi with ho | ho
          · have hb := hs' i (h0 i ho) hnone
            have hi : orE ((tipS s rk x).L i) (b.L i) = some us := hi
            rw [hnone, hb] at hi
            cases hi
          · exact .inr ho
        · exact other i e _ (h' i us hi)
  have tlc : ∀ (rp : RPl) (rk : RK) (V : RV) i, i ∈ tlV ((rp, rk) :: V) → i ∈ tlV V ∨ rp = .tl i := by
    intro rp rk V i hi
    cases rp with
    | tl x => rcases List.mem_cons.1 hi with rfl | hi; exact .inr rfl; exact .inl hi
    | _ => exact .inl hi
  have tlin : ∀ (rp : RPl) (rk : RK) (V : RV) i, i ∈ tlV V → i ∈ tlV ((rp, rk) :: V) := by
    intro rp rk V i hi
    cases rp with
    | tl x => exact List.mem_cons_of_mem _ hi
    | _ => exact hi
  intro V
  induction V with
  | nil => intro h s _ _ _ hh i us hi; exact (hh i us hi).resolve_left (fun h => by cases h)
  | cons e V ih =>
    obtain ⟨rp, rk⟩ := e
    cases V with
    | nil =>
      intro x s ha h0 hs hh i us hi
      exact ((key rp rk x [] _ s ha h0 (fun i hi => tlc rp rk [] i hi) hs hh).2 i us hi).resolve_left (fun h => by cases h)
    | cons y r =>
      intro h s ha h0 hs hh
      have := key rp rk h.1 (tlV (y :: r)) _ s ha.1 h0 (fun i hi => tlc rp rk (y :: r) i hi) hs hh
      exact ih h.2 _ ha.2 (fun i hi => h0 i (tlin rp rk (y :: r) i hi)) this.1 this.2
theorem decH_run {u pad : Nat} {l : List (S.A u)} : ∀ lv : List Leaf, decH lv [(.run u l pad : AV S.A)] = none
  | [] => rfl
  | x0 :: xs => by
    simp only [decH]
    have : decLeaf x0 (.run u l pad : AV S.A) = none := by cases x0 <;> rfl
    rw [this]
theorem tl_box {i : Nat} : ∀ {V : RV}, i ∈ tlV V → i ∈ boxV V
  | (rp, rk) :: V, h => by
    cases rp with
    | sl d => exact tl_box (V := V) h
    | ce x j => exact List.mem_cons_of_mem _ (tl_box (V := V) h)
    | bx x => exact List.mem_cons_of_mem _ (tl_box (V := V) h)
    | tl x =>
      rcases List.mem_cons.1 h with rfl | h
      · exact List.mem_cons_self
      · exact List.mem_cons_of_mem _ (tl_box (V := V) h)
/-- Back to the head, or into it. -/
theorem head_weak {B : Base} {F : Fr S} {b t : XS S.A} {c : Nat} {V : RV} {cl : List Nat} {h : HV S.A V} {ini : Option Nat} {Q Qb : Nat → Prop} {fr : Nat → Bool} {g : Gh} {a : Act} {w : World} (hb : WF Qb F b) (hQ : ∀ n, Qb n → Q n) (hoff : ∀ n, fr n = true → ¬ Q n)
    (hall : AllV (Got ini t) V h) (hfr : ∀ c', ini = some c' → ∀ rp rk q, (rp, rk) ∈ V → tipK rk = some q → rawR t rp = some [.nil] → c' ≤ q → fr q = true) (hin : ∀ rp q u u' l, (rp, RK.own q u) ∈ V → rawR t rp = some [.own q u' l] → Q q) (hinp : ∀ rp q u u' n, (rp, RK.prv q u) ∈ V → rawR t rp = some [.prv q u' n] → Q q)
    (henv : ∀ k, Nat.blt k F.N = true → k ∉ slotsV V ++ cl → t.get k = b.get k) (hbx : ∀ i, i ∈ boxV V → ∃ x y, t.L i = some x ∧ b.L i = some y ∧ x.cs.length = y.cs.length ∧ (i ∈ tlV V ∨ x.tl = y.tl)) (hLn : ∀ i, Qb i → i ∉ boxV V → t.L i = b.L i) (hTn : ∀ q, Q q → q ∉ tipV V → t.T q = b.T q)
    (hr : Rel B (den F t) g a w) : Rel B (den F ((headV b V cl c h).over b)) (unτ fr g) a w := by
  have hm := all_mem V h hall
  -- lists of the call's own
  have hψ : ∀ q y, (headV b V cl c h).T q = some y → (∃ x, t.T q = some x ∧ (x.sz, x.m) = (y.sz, y.m) ∧ x.con = y.con ∧ Q q) ∨ (fr q = true ∧ y.m = 0 ∧ ∀ ps, y.con = some ps → ps = []) := by
    refine lay_ind (M := fun u => ∀ q y, u.T q = some y → (∃ x, t.T q = some x ∧ (x.sz, x.m) = (y.sz, y.m) ∧ x.con = y.con ∧ Q q) ∨ (fr q = true ∧ y.m = 0 ∧ ∀ ps, y.con = some ps → ps = [])) ?_ V h _ hm (fun q y e => by cases e)
    rintro s rp rk x ⟨⟨cs, P, e1, e2, e3⟩, hmem⟩ ih q y hq
    rw [layK_T] at hq
    cases rk with
    | own q' u =>
      have hq : (bif Nat.beq q q' then some ⟨szOf S u, x.length, none⟩ else s.T q) = some y := hq
      cases hqq : Nat.beq q q' with
      | false => rw [hqq] at hq; exact ih q y hq
      | true =>
        rw [hqq] at hq
        obtain rfl := Nat.eq_of_beq_eq_true hqq
        cases hq
        simp only [backK] at e2
        split at e2
        · rename_i q2 u2 l2
          cases h1 : Nat.beq q q2 with
          | false => rw [h1] at e2; cases e2
          | true =>
            rw [h1] at e2
            obtain rfl := Nat.eq_of_beq_eq_true h1
            simp only [cond_true] at e2
            split at e2 <;> first | cases e2 | skip
            rename_i hu
            obtain rfl := Nat.eq_of_beq_eq_true hu
            split at e2 <;> first | cases e2 | skip
            rename_i sz m hTq
            cases hs : Nat.beq sz (szOf S u2) with
            | false => rw [hs] at e2; cases e2
            | true =>
              rw [hs] at e2
              cases e2
              obtain rfl := Nat.eq_of_beq_eq_true hs
              have hl : l2.length = m := e3 _ rfl
              exact .inl ⟨_, hTq, by show (szOf S u2, m) = (szOf S u2, (castT hu l2).length); rw [castT_self, hl], rfl, hin rp q _ _ _ hmem e1⟩
        · split at e2 <;> first | cases e2 | skip
          rename_i c'
          cases hc : Nat.ble c' q with
          | false => rw [hc] at e2; cases e2
          | true =>
            rw [hc] at e2
            cases e2
            exact .inr ⟨hfr c' rfl _ _ q hmem rfl e1 (Nat.le_of_ble_eq_true hc), rfl, fun ps hps => by cases hps⟩
        · cases e2
    | prv q' u =>
      have hq : (bif Nat.beq q q' then some ⟨szOf S u, x.length, some ⟨u, x, 0⟩⟩ else s.T q) = some y := hq
      cases hqq : Nat.beq q q' with
      | false => rw [hqq] at hq; exact ih q y hq
      | true =>
        rw [hqq] at hq
        obtain rfl := Nat.eq_of_beq_eq_true hqq
        cases hq
        simp only [backK] at e2
        split at e2
        · rename_i q2 u2 n2
          cases h1 : (Nat.beq q q2 && Nat.beq u2 u) with
          | false => rw [h1] at e2; cases e2
          | true =>
            rw [h1] at e2
            simp only [Bool.and_eq_true] at h1
            obtain rfl := Nat.eq_of_beq_eq_true h1.1
            obtain rfl := Nat.eq_of_beq_eq_true h1.2
            simp only [cond_true] at e2
            split at e2 <;> first | cases e2 | skip
            rename_i sz m v l pad hTq
            split at e2 <;> first | cases e2 | skip
            rename_i hv
            obtain rfl := Nat.eq_of_beq_eq_true hv
            cases hs : Nat.beq sz (szOf S v) with
            | false => rw [hs] at e2; cases e2
            | true =>
              rw [hs] at e2
              cases e2
              obtain rfl := Nat.eq_of_beq_eq_true hs
              have hl : m = l.length := (e3 _ rfl).2
              exact .inl ⟨_, hTq, by show (szOf S v, m) = (szOf S v, (castT hv l).length); rw [castT_self, hl], rfl, hinp rp q _ _ _ hmem e1⟩
        · split at e2 <;> first | cases e2 | skip
          rename_i c'
          cases hc : Nat.ble c' q with
          | false => rw [hc] at e2; cases e2
          | true =>
            rw [hc] at e2
            cases e2
            exact .inr ⟨hfr c' rfl _ _ q hmem rfl e1 (Nat.le_of_ble_eq_true hc), rfl, fun ps hps => by cases hps; rfl⟩
        · cases e2
    | _ => exact ih q y hq
  have htip : ∀ q, q ∈ tipV V → (headV b V cl c h).T q ≠ none := fun q hq => lay_tip V h _ (.inl hq)
  have hover : ∀ q y, (headV b V cl c h).T q = some y → ((headV b V cl c h).over b).T q = some y := fun q y hh => by show orE ((headV b V cl c h).T q) (b.T q) = _; rw [hh]; rfl
  have hover0 : ∀ q, (headV b V cl c h).T q = none → ((headV b V cl c h).over b).T q = b.T q := fun q hh => by show orE ((headV b V cl c h).T q) (b.T q) = _; rw [hh]; rfl
  have dTT : ∀ {T : Nat → Option (TT S.A)} {q : Nat} {x : TT S.A}, T q = some x → denTT T q = some (x.sz, x.m) := fun {T q x} hx => by unfold denTT; rw [hx]
  have hT : TOk Q fr (denTT t.T) (denTT ((headV b V cl c h).over b).T) := by
    refine ⟨hoff, fun q hq => ?_, fun q x hx => ?_⟩
    · cases hh : (headV b V cl c h).T q with
      | none =>
        have e1 := hover0 q hh
        have e2 := hTn q hq (fun hm => htip q hm hh)
        unfold denTT
        rw [e1, e2]
      | some y =>
        rcases hψ q y hh with ⟨z, h1, h2, _, _⟩ | ⟨h1, _⟩
        · rw [dTT (hover q y hh), dTT h1, h2]
        · exact absurd hq (hoff q h1)
    · cases hh : (headV b V cl c h).T q with
      | none =>
        have e1 := hover0 q hh
        unfold denTT at hx
        rw [e1] at hx
        cases hb2 : b.T q with
        | none => rw [hb2] at hx; cases hx
        | some z => exact .inl (hQ q (hb.T q z hb2))
      | some y =>
        rw [dTT (hover q y hh)] at hx
        cases hx
        rcases hψ q y hh with ⟨z, _, _, _, h4⟩ | ⟨h1, h2, _⟩
        · exact .inl h4
        · exact .inr ⟨h1, h2⟩
  have hM1 : ∀ q, Q q → denM ((headV b V cl c h).over b).T q = denM t.T q := by
    intro q hq
    rw [denM_eq, denM_eq]
    cases hh : (headV b V cl c h).T q with
    | none => rw [hover0 q hh, hTn q hq (fun hm => htip q hm hh)]
    | some y =>
      rcases hψ q y hh with ⟨z, h1, _, h3, _⟩ | ⟨h1, _⟩
      · rw [hover q y hh, h1]; exact h3.symm
      · exact absurd hq (hoff q h1)
  have hM2 : ∀ q ps, denM ((headV b V cl c h).over b).T q = some ps → Q q ∨ (fr q = true ∧ ps = []) := by
    intro q ps hps
    rw [denM_eq] at hps
    cases hh : (headV b V cl c h).T q with
    | none =>
      rw [hover0 q hh] at hps
      cases hb2 : b.T q with
      | none => rw [hb2] at hps; cases hps
      | some z => exact .inl (hQ q (hb.T q z hb2))
    | some y =>
      rw [hover q y hh] at hps
      rcases hψ q y hh with ⟨_, _, _, _, h4⟩ | ⟨h1, _, h3⟩
      · exact .inl h4
      · exact .inr ⟨h1, h3 ps hps⟩
  have hU : ∀ q, q ∈ tipV V → fr q = true → ∃ sz, denTT ((headV b V cl c h).over b).T q = some (sz, 0) := by
    intro q hq hf
    cases hh : (headV b V cl c h).T q with
    | none => exact absurd hh (htip q hq)
    | some y =>
      rcases hψ q y hh with ⟨_, _, _, _, h1⟩ | ⟨_, h1, _⟩
      · exact absurd h1 (hoff q hf)
      · refine ⟨y.sz, ?_⟩
        rw [dTT (hover q y hh), h1]
  have hM : (∀ k, Nat.blt k F.N = true → Wv Q fr (denTT ((headV b V cl c h).over b).T) (t.get k) (((headV b V cl c h).over b).get k)) ∧ ∀ i us, ((headV b V cl c h).over b).L i = some us → ∃ ts, t.L i = some ts ∧ W1L Q fr (denTT ((headV b V cl c h).over b).T) ts.cs us.cs := by
    generalize hUU : denTT ((headV b V cl c h).over b).T = U at hU ⊢
    refine lay_ind (M := fun u => (∀ k, Nat.blt k F.N = true → Wv Q fr U (t.get k) ((u.over b).get k)) ∧ ∀ i us, (u.over b).L i = some us → ∃ ts, t.L i = some ts ∧ W1L Q fr U ts.cs us.cs) ?_ V h _ hm ?_
    · rintro s rp rk x ⟨⟨cs, P, e1, e2, e3⟩, hmem⟩ ⟨i1, i2⟩
      have key := back_w (Q := Q) (fr := fr) (U := U) e2 (fun q u u' l h1 h2 => by subst h1; subst h2; exact hin rp q u u' l hmem e1)
        (fun q u h1 h2 => by
          subst h2
          have fin : tipK rk = some q → q ∈ tipV V → (∃ c', ini = some c' ∧ Nat.ble c' q = true) → fr q = true ∧ ∃ sz, U q = some (sz, 0) := fun ht hq ⟨c', hc1, hc2⟩ => by
            have hf := hfr c' hc1 _ _ q hmem ht e1 (Nat.le_of_ble_eq_true hc2)
            exact ⟨hf, hU q hq hf⟩
          rcases h1 with h1 | h1
          · subst h1
            refine fin rfl (tip_mem hmem) ?_
            simp only [backK] at e2
            split at e2 <;> first | cases e2 | skip
            rename_i c'
            cases hc : Nat.ble c' q with
            | false => rw [hc] at e2; cases e2
            | true => exact ⟨c', rfl, hc⟩
          · subst h1
            refine fin rfl (tip_memP hmem) ?_
            simp only [backK] at e2
            split at e2 <;> first | cases e2 | skip
            rename_i c'
            cases hc : Nat.ble c' q with
            | false => rw [hc] at e2; cases e2
            | true => exact ⟨c', rfl, hc⟩)
        (fun q u u' n h1 h2 => by subst h1; subst h2; exact hinp rp q u u' n hmem e1) e3
      obtain ⟨ev, el, _⟩ := tipS_env s rk x
      have j1 : ∀ k, ((tipS s rk x).over b).get k = (s.over b).get k := by intro k; rw [over_get, over_get, ev]
      have j2 : ∀ i, ((tipS s rk x).over b).L i = (s.over b).L i := by intro i; show orE ((tipS s rk x).L i) _ = orE (s.L i) _; rw [el]
      rw [layK_eq]
      cases rp with
      | sl d =>
        simp only []
        have e1 : some [t.get d] = some cs := e1
        cases e1
        refine ⟨fun k hk => ?_, fun i us hi => ?_⟩
        · rw [over_put, get_put]
          cases hq : Nat.beq k d with
          | true => obtain rfl := Nat.eq_of_beq_eq_true hq; exact (key.1 _ rfl).1
          | false => simp only [cond_false]; rw [j1]; exact i1 k hk
        · exact i2 i us (by rw [← j2]; exact hi)
      | bx i =>
        simp only []
        simp only [rawR] at e1
        split at e1 <;> first | (cases e1; done) | skip
        rename_i ts hts
        cases e1
        split
        · rename_i ps hps
          refine ⟨fun k hk => by rw [over_setL]; show Wv Q fr U _ (((tipS s rk x).over b).get k); rw [j1]; exact i1 k hk, fun i' us hi => ?_⟩
          rw [over_setL] at hi
          have hi : (bif Nat.beq i' i then some { ps with cs := cellsK rk x } else ((tipS s rk x).over b).L i') = some us := hi
          cases hq : Nat.beq i' i with
          | true =>
            have hii := Nat.eq_of_beq_eq_true hq
            rw [hq] at hi
            have hi9 := Option.some.inj hi
            subst hii
            rw [← hi9]
            exact ⟨ts, hts, key.2⟩
          | false => rw [hq] at hi; exact i2 i' us (by rw [← j2]; exact hi)
        · exact ⟨fun k hk => by rw [j1]; exact i1 k hk, fun i' us hi => i2 i' us (by rw [← j2]; exact hi)⟩
      | tl i =>
        simp only []
        split
        · rename_i ps hps
          refine ⟨fun k hk => by rw [over_setL]; show Wv Q fr U _ (((tipS s rk x).over b).get k); rw [j1]; exact i1 k hk, fun i' us hi => ?_⟩
          rw [over_setL] at hi
          have hi : (bif Nat.beq i' i then some { ps with tl := tlK rk x } else ((tipS s rk x).over b).L i') = some us := hi
          cases hq : Nat.beq i' i with
          | true =>
            have hii := Nat.eq_of_beq_eq_true hq
            rw [hq] at hi
            have hi9 := Option.some.inj hi
            subst hii
            rw [← hi9]
            exact i2 i' ps (by rw [← j2]; show orE ((tipS s rk x).L i') _ = _; rw [hps]; rfl)
          | false => rw [hq] at hi; exact i2 i' us (by rw [← j2]; exact hi)
        · exact ⟨fun k hk => by rw [j1]; exact i1 k hk, fun i' us hi => i2 i' us (by rw [← j2]; exact hi)⟩
      | ce i j =>
        simp only []
        simp only [rawR] at e1
        split at e1 <;> first | cases e1 | skip
        rename_i ts hts
        split at e1 <;> first | cases e1 | skip
        rename_i p hp
        split
        · rename_i ps hps
          refine ⟨fun k hk => by rw [over_setL]; show Wv Q fr U _ (((tipS s rk x).over b).get k); rw [j1]; exact i1 k hk, fun i' us hi => ?_⟩
          rw [over_setL] at hi
          have hi : (bif Nat.beq i' i then some { ps with cs := ps.cs.set j (slotK rk x) } else ((tipS s rk x).over b).L i') = some us := hi
          cases hq : Nat.beq i' i with
          | true =>
            have hii := Nat.eq_of_beq_eq_true hq
            rw [hq] at hi
            have hi9 := Option.some.inj hi
            subst hii
            rw [← hi9]
            have : (s.over b).L i' = some ps := by rw [← j2]; show orE ((tipS s rk x).L i') _ = _; rw [hps]; rfl
            obtain ⟨ts', k1, k2⟩ := i2 i' ps this
            rw [hts] at k1
            cases k1
            exact ⟨ts, hts, w1L_set k2 hp (key.1 p rfl).2⟩
          | false => rw [hq] at hi; exact i2 i' us (by rw [← j2]; exact hi)
        · exact ⟨fun k hk => by rw [j1]; exact i1 k hk, fun i' us hi => i2 i' us (by rw [← j2]; exact hi)⟩
    · refine ⟨fun k hk => ?_, fun i us hi => ?_⟩
      · rw [over_get]
        simp only
        cases hk2 : memN k (slotsV V ++ cl) with
        | true => exact .one (.any _) rfl
        | false =>
          simp only [cond_false]
          rw [henv k hk (fun hm => by rw [memN_mem.2 hm] at hk2; cases hk2)]
          exact .same _ (inV_mono hQ (hb.get hk))
      · have hi : orE (bif memN i (boxV V) then (match b.L i with | some bx => some { bx with cs := bx.cs.map fun _ => (.any : AV S.A) } | none => none) else none) (b.L i) = some us := hi
        cases hk2 : memN i (boxV V) with
        | true =>
          obtain ⟨x, y, h1, h2, h3, _⟩ := hbx i (memN_mem.1 hk2)
          rw [hk2, h2] at hi
          cases hi
          exact ⟨x, h1, w1L_any h3⟩
        | false =>
          rw [hk2] at hi
          have hi : b.L i = some us := hi
          have := hb.L i us hi
          exact ⟨us, by rw [hLn i this.1 (fun hm => by rw [memN_mem.2 hm] at hk2; cases hk2)]; exact hi, w1L_refl fun p hp => in1_mono hQ (this.2 p hp)⟩
  have hTl : ∀ i us, ((headV b V cl c h).over b).L i = some us → ∃ ts, t.L i = some ts ∧ us.tl = ts.tl := by
    refine lay_tl (φ := fun rp rk x => Got ini t rp rk x) (b := b) (V0 := V) (OK := fun i o => ∃ ts, t.L i = some ts ∧ o = ts.tl) ?_ V h _ hall (fun i hi => tl_box hi) ?_ ?_
    · rintro i rk x ⟨cs, P, e1, e2, e3⟩
      simp only [rawR] at e1
      split at e1 <;> first | (cases e1; done) | skip
      rename_i cs0 u l pad hL
      cases e1
      cases rk with
      | run u' pad' =>
        simp only [backK] at e2
        split at e2 <;> first | (cases e2; done) | skip
        rename_i hu
        obtain rfl := Nat.eq_of_beq_eq_true hu
        cases e2
        have hp : pad = pad' := e3 _ rfl
        subst hp
        exact ⟨_, hL, rfl⟩
      | bx v =>
        exfalso
        simp only [backK] at e2
        split at e2 <;> first | (cases e2; done) | skip
        rename_i y hy
        unfold dec at hy
        split at hy <;> first | (cases hy; done) | skip
        rename_i hh hd
        rw [decH_run] at hd
        cases hd
      | _ => exfalso; simp only [backK] at e2; first | (cases e2; done) | (split at e2 <;> first | (cases e2; done) | (rename_i e9 _; cases e9; done) | (rename_i e9; cases e9; done))
    · intro i hi hn
      have hn : (bif memN i (boxV V) then (match b.L i with | some bx => some { bx with cs := bx.cs.map fun _ => (.any : AV S.A) } | none => none) else none) = none := hn
      rw [memN_mem.2 hi] at hn
      cases hb2 : b.L i with
      | none => rfl
      | some x => rw [hb2] at hn; cases hn
    · intro i us hi
      have hi : orE (bif memN i (boxV V) then (match b.L i with | some bx => some { bx with cs := bx.cs.map fun _ => (.any : AV S.A) } | none => none) else none) (b.L i) = some us := hi
      cases hk2 : memN i (boxV V) with
      | true =>
        obtain ⟨x, y, h1, h2, _, h4⟩ := hbx i (memN_mem.1 hk2)
        rw [hk2, h2] at hi
        cases hi
        rcases h4 with h4 | h4
        · exact .inl h4
        · exact .inr ⟨x, h1, h4.symm⟩
      | false =>
        rw [hk2] at hi
        have hi : b.L i = some us := hi
        have := hb.L i us hi
        exact .inr ⟨us, by rw [hLn i this.1 (fun hm => by rw [memN_mem.2 hm] at hk2; cases hk2)]; exact hi, rfl⟩
  refine rel_weak hT hM1 hM2 (fun k => inV_mono hQ (hb.ext k)) hM.1 (fun i us hi => ?_) hr
  obtain ⟨ts, h1, h2⟩ := hM.2 i us hi
  obtain ⟨ts', h1', h2'⟩ := hTl i us hi
  rw [h1] at h1'
  cases h1'
  exact ⟨ts, h1, h2, h2'⟩
theorem slotK_in {Q : Nat → Prop} {rk : RK} {x : rk.ty S.A} (h : ∀ q u, (rk = .own q u ∨ rk = .prv q u) → Q q) : inV Q (slotK rk x) ∧ in1 Q (slotK rk x) ∧ ∀ p ∈ cellsK rk x, in1 Q p := by
  have avin : ∀ (lv : List Leaf) (y : HL S.A lv), ∀ p ∈ avsH lv y, in1 Q p := by
    intro lv
    induction lv with
    | nil => intro y p hp; cases hp
    | cons l lv ih =>
      intro y p hp
      rcases List.mem_cons.1 hp with rfl | hp
      · cases l <;> trivial
      · exact ih _ p hp
  cases rk with
  | own q u => have := h q u (.inl rfl); exact ⟨this, this, fun p hp => by obtain rfl := List.mem_singleton.1 hp; exact this⟩
  | prv q u => have := h q u (.inr rfl); exact ⟨this, this, fun p hp => by obtain rfl := List.mem_singleton.1 hp; exact this⟩
  | ag u => exact ⟨avin _ _, trivial, fun p hp => by obtain rfl := List.mem_singleton.1 hp; trivial⟩
  | bx u => exact ⟨trivial, trivial, avin _ _⟩
  | run u pad => exact ⟨trivial, trivial, fun p hp => by obtain rfl := List.mem_singleton.1 hp; trivial⟩
  | _ => exact ⟨trivial, trivial, fun p hp => by obtain rfl := List.mem_singleton.1 hp; trivial⟩
theorem head_wf {F : Fr S} {b : XS S.A} {c : Nat} {Q Qb : Nat → Prop} {V : RV} {cl : List Nat} {h : HV S.A V} (hb : WF Qb F b) (hc : ∀ n, Qb n → Q n) (ht : ∀ q ∈ tipV V, Q q) (hbx : ∀ i ∈ boxV V, Q i) : WF Q F ((headV b V cl c h).over b) := by
  have hall : AllV (fun rp rk x => (rp, rk) ∈ V) V h := by
    have triv : ∀ (V : RV) (h : HV S.A V), AllV (fun _ _ _ => True) V h := by
      intro V
      induction V with
      | nil => intro h; trivial
      | cons e V ih =>
        obtain ⟨rp, rk⟩ := e
        cases V with
        | nil => intro h; trivial
        | cons y r => intro h; exact ⟨trivial, ih h.2⟩
    exact all_mono (fun rp rk x h => h.2) _ _ (all_mem V h (triv V h))
  have hb' : WF Q F b := hb.mono hc
  refine lay_ind (M := fun u => WF Q F (u.over b)) ?_ V h _ hall ?_
  · intro s rp rk x hm ih
    have hq : ∀ q u, (rk = .own q u ∨ rk = .prv q u) → Q q := fun q u e => by
      rcases e with e | e
      · subst e; exact ht q (tip_mem hm)
      · subst e; exact ht q (tip_memP hm)
    obtain ⟨s1, s2, s3⟩ := slotK_in (Q := Q) (x := x) hq
    have ih' : WF Q F ((tipS s rk x).over b) := by
      cases rk with
      | own q u => show WF _ F ((s.setT q _ _).over b); rw [over_setT]; exact ih.setT (hq q u (.inl rfl))
      | prv q u => show WF _ F ((s.setP q _ _ _).over b); rw [over_setP]; exact ih.setP (hq q u (.inr rfl))
      | _ => exact ih
    rw [layK_eq]
    have here : ∀ {i : Nat} {ps : Bx S.A}, (tipS s rk x).L i = some ps → ((tipS s rk x).over b).L i = some ps := by
      intro i ps hps
      show orE ((tipS s rk x).L i) _ = _
      rw [hps]; rfl
    cases rp with
    | sl d => simp only []; rw [over_put]; exact ih'.put s1
    | bx i =>
      simp only []
      split
      · rename_i ps hps; rw [over_setL]; exact ih'.setL (hbx i (box_mem (.inl rfl) hm)) s3
      · exact ih'
    | tl i =>
      simp only []
      split
      · rename_i ps hps; rw [over_setL]; exact ih'.setL (hbx i (box_mem (.inr (.inr rfl)) hm)) (ih'.L i ps (here hps)).2
      · exact ih'
    | ce i j =>
      simp only []
      split
      · rename_i ps hps
        rw [over_setL]
        refine ih'.setL (hbx i (box_mem (.inr (.inl ⟨j, rfl⟩)) hm)) fun p hp => ?_
        rcases List.mem_or_eq_of_mem_set hp with hp | rfl
        · exact (ih'.L i ps (here hps)).2 p hp
        · exact s2
      · exact ih'
  · refine ⟨fun k => ?_, fun i ps hi => ?_, fun q x hq => hb'.T q x hq, hb'.ext⟩
    · unfold getN
      cases hk : Nat.blt k F.N with
      | false => trivial
      | true =>
        simp only [cond_true]
        rw [over_get]
        simp only
        cases memN k (slotsV V ++ cl) with
        | true => trivial
        | false => exact hb'.get hk
    · have hi : orE (bif memN i (boxV V) then (match b.L i with | some bx => some { bx with cs := bx.cs.map fun _ => (.any : AV S.A) } | none => none) else none) (b.L i) = some ps := hi
      cases hk : memN i (boxV V) with
      | false => rw [hk] at hi; exact hb'.L i ps hi
      | true =>
        rw [hk] at hi
        cases hb2 : b.L i with
        | none => rw [hb2] at hi; cases hi
        | some qs =>
          rw [hb2] at hi
          cases hi
          exact ⟨(hb'.L i qs hb2).1, fun p hp => by obtain ⟨_, _, rfl⟩ := List.mem_map.1 hp; trivial⟩
end weak
end Go.Rx
/-! Code is sound. -/
namespace Go.Rx
open Go.Ab Go.RowKit
set_option linter.unusedVariables false
set_option linter.unusedSimpArgs false
/-! ### Loops -/
def LoopIn (P : Program) (c : Code) (Q : Exit → Act → World → Prop) (a : Act) (w : World) : Prop :=
  ∀ b k cs, ∃ e a' w', Q e a' w' ∧ Arrives P (lone (b.at a (.code c :: .inLoop c :: k)) cs w) b k cs e a' w'
theorem loopIn_wp {P : Program} {c : Code} {Q : Exit → Act → World → Prop} {a : Act} {w : World} (h : LoopIn P c Q a w) : (Code.loop c).wp P Q a w := by
  intro b k cs
  obtain ⟨e, a', w', hq, harr⟩ := h b k cs
  exact ⟨e, a', w', hq, .of_steps (.one step_loop) harr⟩
theorem loopIn_step {P : Program} {c : Code} {Q : Exit → Act → World → Prop} {a : Act} {w : World} (h : c.wp P (Exit.then (LoopIn P c Q) Q) a w) : LoopIn P c Q a w := by
  intro b k cs
  obtain ⟨e, a₁, w₁, hq, harr⟩ := h b (.inLoop c :: k) cs
  cases e with
  | normal =>
    obtain ⟨e₂, a₂, w₂, hq₂, harr₂⟩ := hq b k cs
    exact ⟨e₂, a₂, w₂, hq₂, .of_steps (Steps.trans harr (.one step_inLoop)) harr₂⟩
  | exit id => exact ⟨_, a₁, w₁, hq, .pass (x := .inLoop c) rfl (fun _ _ => .inl (by simp)) harr⟩
  | goto l => exact ⟨_, a₁, w₁, hq, .pass (x := .inLoop c) rfl (fun _ _ => .inl (by simp)) harr⟩
  | ret => exact ⟨_, a₁, w₁, hq, .pass (x := .inLoop c) rfl (fun _ _ => .inl (by simp)) harr⟩
  | panic ch => exact ⟨_, a₁, w₁, hq, .pass (x := .inLoop c) rfl (fun _ _ => .inl (by simp)) harr⟩
  | outgrown => exact ⟨_, a₁, w₁, hq, .pass (x := .inLoop c) rfl (fun _ _ => .inl (by simp)) harr⟩
section code
variable {S : Sys} {C : Cfg S} {call : XS S.A → CallT S} {B : Base} {F : Fr S} {K0 : Nat → Prop} {l0 : Nat}
structure Ok (C : Cfg S) (call : XS S.A → CallT S) : Prop where
  cm : ∀ b f args m k k' kp kp', (∀ r m, k r m → k' r m) → (∀ r m, kp r m → kp' r m) → call b f args m k kp → call b f args m k' kp'
  km : ∀ f W, Ab.look C.K f = some (.tr W) → ∀ args k k', (∀ r, k r → k' r) → W args k → W args k'
  ok : ∀ b, CallOk C.P b (call b)
  K : ∀ f W, Ab.look C.K f = some W → ConOk C.P f W
  mx : C.P.follows .mixedOrders = true
theorem Ok.rg (hC : Ok C call) (an : List (Nat × Ann)) (i : Nat) (d : Bool) : Ok (C.rg an i d) call := ⟨hC.cm, hC.km, hC.ok, hC.K, hC.mx⟩
theorem Rel.pay {σ : St} {g : Gh} {a : Act} {w : World} (hr : Rel B σ g a w) (p : PV) : Rel B { σ with pay := p } g a w :=
  ⟨hr.size, hr.env, hr.defers, hr.imm, hr.box, hr.apart, hr.tip, hr.tips, hr.boxtip, hr.below, hr.immle, hr.immnew, hr.pin, hr.prv⟩
theorem tok_refl {Q : Nat → Prop} {T : Nat → Option (Nat × Nat)} (h : ∀ q x, T q = some x → Q q) : TOk Q (fun _ => false) T T :=
  ⟨fun n h => by (cases h), fun _ _ => rfl, fun q x hx => .inl (h q x hx)⟩
/-- Guards are forgotten. -/
theorem clear_weak {b M s : XS S.A} {D : List Nat} {kn : Kn} {Q : Nat → Prop} {g : Gh} {a : Act} {w : World} (hb : ∀ k, noG (getN F.N b k)) (h : Mg F.N b D kn M s) (hw : WF Q F (s.over b)) (hr : Rel B (den F (s.over b)) g a w) :
    WF Q F ((clearG M).over b) ∧ Rel B (den F ((clearG M).over b)) (unτ (fun _ => false) g) a w := by
  have hL : ((clearG M).over b).L = (s.over b).L := h.overL
  have hT : ((clearG M).over b).T = (s.over b).T := h.overT
  have hcl : ∀ k, ((clearG M).over b).get k = (match M.env k with | some (.grd _ _ _) => .any | some p => p | none => b.get k) := by
    intro k
    rw [over_get]
    unfold clearG
    simp only
    cases M.env k with
    | none => rfl
    | some p => cases p <;> rfl
  have key : ∀ k, Nat.blt k F.N = true → Wv Q (fun _ => false) (denTT (s.over b).T) ((s.over b).get k) (((clearG M).over b).get k) ∧ inV Q (((clearG M).over b).get k) := by
    intro k hk
    have h1 := h.slot k
    have hin := hw.get hk
    unfold getN at h1
    rw [hk] at h1
    simp only [cond_true] at h1
    rw [hcl]
    rw [over_get M b] at h1
    cases hm : M.env k with
    | none =>
      rw [hm] at h1
      simp only at h1 ⊢
      have hbk : noG (b.get k) := by have := hb k; unfold getN at this; rw [hk] at this; exact this
      revert h1 hbk
      generalize b.get k = m
      intro h1 hbk
      cases m with
      | grd g w p => exact hbk.elim
      | _ => have h1 : (s.over b).get k = _ := h1; rw [h1] at hin ⊢; exact ⟨.same _ hin, hin⟩
    | some m =>
      rw [hm] at h1
      cases m with
      | grd g w p => exact ⟨.one (.any _) rfl, trivial⟩
      | _ => have h1 : (s.over b).get k = _ := h1; rw [h1] at hin ⊢; exact ⟨.same _ hin, hin⟩
  have hc : (clearG M).c = s.c := h.c
  refine ⟨?_, ?_⟩
  · refine ⟨fun k => ?_, fun i ps hi => hw.L i ps (by rw [← hL]; exact hi), fun q x hq => hw.T q x (by rw [← hT]; exact hq), hw.ext⟩
    unfold getN
    cases hk : Nat.blt k F.N with
    | false => trivial
    | true => exact (key k hk).2
  · have hTT : ∀ q x, denTT (s.over b).T q = some x → Q q := fun q x hx => by
      unfold denTT at hx
      cases hs : (s.over b).T q with
      | none => rw [hs] at hx; cases hx
      | some y => exact hw.T q y hs
    have hMM : ∀ q ps, denM (s.over b).T q = some ps → Q q := fun q ps hx => by
      rw [denM_eq] at hx
      cases hs : (s.over b).T q with
      | none => rw [hs] at hx; cases hx
      | some y => exact hw.T q y hs
    refine rel_weak (Q := Q) (by rw [hT]; exact tok_refl hTT) (fun q _ => by rw [hT]) (fun q ps h => by rw [hT] at h; exact .inl (hMM q ps h)) hw.ext (fun k hk => by rw [hT]; exact (key k hk).1) (fun i us hi => ?_) hr
    rw [hL] at hi
    exact ⟨us, hi, w1L_refl (hw.L i us hi).2, rfl⟩
variable {b s : XS S.A} {Φ : XE S.A → XS S.A → Prop} {lo : Nat}
/-- What a region wrote is forgotten. -/
theorem frg_get {s : XS S.A} {ds : List Nat} {e0 : Nat → Option (AV S.A)} (he : ∀ j, j ∉ ds → s.env j = e0 j) (k : Nat) : ((s.frg ds e0).over b).get k = bif memN k ds then .any else (s.over b).get k := by
  rw [over_get, over_get]
  show (match (bif memN k ds then some .any else e0 k : Option (AV S.A)) with | some p => p | none => b.get k) = _
  cases hm : memN k ds with
  | true => rfl
  | false => rw [cond_false, ← he k (fun hi => by rw [memN_mem.2 hi] at hm; cases hm)]; rfl
theorem frg_wf {Q : Nat → Prop} {s : XS S.A} {ds : List Nat} {e0 : Nat → Option (AV S.A)} (he : ∀ j, j ∉ ds → s.env j = e0 j) (hw : WF Q F (s.over b)) : WF Q F ((s.frg ds e0).over b) := by
  refine ⟨fun k => ?_, hw.L, hw.T, hw.ext⟩
  have h := hw.env k
  unfold getN at h ⊢
  rw [frg_get he]
  cases hk : Nat.blt k F.N with
  | false => trivial
  | true =>
    rw [hk] at h
    cases hm : memN k ds with
    | true => trivial
    | false => exact h
theorem frg_rel {s : XS S.A} {ds : List Nat} {e0 : Nat → Option (AV S.A)} {g : Gh} {a : Act} {w : World} (he : ∀ j, j ∉ ds → s.env j = e0 j) (hr : Rel B (den F (s.over b)) g a w) : Rel B (den F ((s.frg ds e0).over b)) g a w := by
  refine ⟨hr.size, fun k => ?_, hr.defers, hr.imm, hr.box, hr.apart, hr.tip, hr.tips, hr.boxtip, hr.below, hr.immle, hr.immnew, hr.pin, hr.prv⟩
  have h := hr.env k
  have h : Rep (denTT (s.over b).T) g (cond (Nat.blt k F.N) (denV ((s.over b).get k)) (denV (F.ext k))) (a.tmps.getD k (B.ext k)) := h
  show Rep (denTT (s.over b).T) g (cond (Nat.blt k F.N) (denV (((s.frg ds e0).over b).get k)) (denV (F.ext k))) (a.tmps.getD k (B.ext k))
  rw [frg_get he]
  cases hk : Nat.blt k F.N with
  | false => rw [hk] at h; exact h
  | true =>
    rw [hk] at h
    cases hm : memN k ds with
    | true => trivial
    | false => exact h
theorem dsts_mem {ops : List Oper} {o : Oper} {x : Nat} (h : o ∈ ops) (hx : o.dst = some x) : x ∈ dstsOf ops := List.mem_filterMap.2 ⟨o, h, hx⟩
theorem fin_normal {s' : XS S.A} {g : Gh} {a : Act} {w : World} (hb : ∀ k, noG (getN F.N b k)) (h : ∃ M D kn, Mg F.N b D kn M s' ∧ Φ .normal (clearG M)) (hc : lo ≤ s'.c) (hw : WF (Bd K0 l0 s'.c) F (s'.over b)) (hr : Rel B (den F (s'.over b)) g a w) : lift B (LΦ K0 l0 F b lo Φ) .normal a w := by
  obtain ⟨M, D, kn, hm, hΦ⟩ := h
  obtain ⟨h1, h2⟩ := clear_weak hb hm hw hr
  have hcc : (clearG M).c = s'.c := hm.c
  exact ⟨_, _, h2, ⟨clearG M, by omega, by rw [hcc]; exact h1, rfl, hΦ⟩, trivial⟩
theorem fin_panic {ds : List Nat} {e0 : Nat → Option (AV S.A)} {s' : XS S.A} {p : AV S.A} {g : Gh} {a : Act} {w : World} {v : Value} (h : Φ (.panic p) (s'.frg ds e0)) (he : ∀ j, j ∉ ds → s'.env j = e0 j) (hc : lo ≤ s'.c) (hw : WF (Bd K0 l0 s'.c) F (s'.over b)) (hp : inV (Bd K0 l0 s'.c) p) (hr : Rel B (den F (s'.over b)) g a w) (hv : Rep (denTT (s'.over b).T) g (denV p) v) : lift B (LΦ K0 l0 F b lo Φ) (.panic [{ v, recovered := false }]) a w :=
  ⟨_, g, Rel.pay (frg_rel he hr) (denV p), ⟨s'.frg ds e0, hc, frg_wf he hw, p, rfl, hp, h⟩, v, rfl, hv⟩
theorem seq_sound {ds : List Nat} {e0 : Nat → Option (AV S.A)} (hK0 : ∀ n, K0 n → n < l0) (hC : Ok C call) (hpin : POk S B) {ops : Array Oper} {kS : XS S.A → Prop} (hkS : ∀ s' g a w, kS s' → lo ≤ s'.c → WF (Bd K0 l0 s'.c) F (s'.over b) → Rel B (den F (s'.over b)) g a w → lift B (LΦ K0 l0 F b lo Φ) .normal a w) (hl0 : l0 ≤ lo) :
    ∀ (l : List Oper) (i : Nat) (s : XS S.A), (∀ o ∈ l, ∀ x, o.dst = some x → x ∈ ds) → (∀ j, j ∉ ds → s.env j = e0 j) → runS C F.N (call b) b ops.toList (fun _ s => s.c) (fun s => { s with c := s.c + 1 }) (fun p s => Φ (.panic p) (s.frg ds e0)) (numd i l) s kS → lo ≤ s.c → WF (Bd K0 l0 s.c) F (s.over b) → AL C.P B ops (LΦ K0 l0 F b lo Φ) l (den F (s.over b))
  | [], i, s, _, _, h, hc, hw => fun g a w hr => hkS s g a w h hc hw hr
  | o :: l, i, s, hds, he, h, hc, hw => by
    intro g a w hr
    refine wpList_step fun K hK => ?_
    refine step_sound (hC.ok b) hC.K hpin (Q := Bd K0 l0 s.c) (id := s.c) (fun n hn => hn.lt hK0 (Nat.le_trans hl0 hc)) (fun hn => Nat.lt_irrefl _ (hn.lt hK0 (Nat.le_trans hl0 hc))) hw (step_env (hC.cm b) hC.km (hds o (by simp)) he h) hr K _ ?_ ?_
    · rintro a' w' ⟨s', g', ⟨h1, h1e⟩, h2, h3, h4⟩
      refine hK _ _ (seq_sound hK0 hC hpin hkS hl0 l (i + 1) { s' with c := s'.c + 1 } (fun o ho => hds o (by simp [ho])) h1e h1 (by show lo ≤ s'.c + 1; omega) ?_ g' a' w' h4)
      refine WF.setc (h3.mono fun n hn => ?_) _
      show Bd K0 l0 (s'.c + 1) n
      rcases hn with (hn | hn) | hn
      · exact hn.up (by omega)
      · exact .inr ⟨by omega, by omega⟩
      · exact .inr ⟨by omega, by omega⟩
    · rintro e a' w' ⟨ch, rfl, p, s', g', v, ⟨h1, h1e⟩, h2, h3, h4, h5, rfl, h6⟩
      have hle : ∀ n, Bd K0 l0 s.c n ∨ s.c ≤ n ∧ n < s'.c → Bd K0 l0 s'.c n := by
        rintro n (hn | hn)
        · exact hn.up h2
        · exact .inr ⟨by omega, hn.2⟩
      exact fin_panic h1 h1e (by omega) (h3.mono hle) (inV_mono hle h4) h5 h6
theorem noG_in {Q : Nat → Prop} {p : AV S.A} (h : inV Q p) : noG p := by cases p <;> first | trivial | exact h
theorem mg0 {s : XS S.A} (h : ∀ k, noG (getN F.N (s.over b) k)) : Mg F.N b [] (fun _ => none) s s :=
  ⟨rfl, rfl, rfl, fun k => slot_eq (h k), fun k g w p e => by have := h k; rw [e] at this; exact this.elim, fun g v e => by cases e⟩
theorem reg_sound (hK0 : ∀ n, K0 n → n < l0) (hC : Ok C call) (hpin : POk S B) {an : List (Nat × Ann)} {rid : Nat} {ops : Array Oper} {draw : Bool} (hb : ∀ k, noG (getN F.N b k)) (hl0 : l0 ≤ s.c) (hw : WF (Bd K0 l0 s.c) F (s.over b)) (h : Xc C an F.N call (.region rid ops draw) b s Φ) : AW C.P B (.region rid ops draw) (LΦ K0 l0 F b s.c Φ) (den F (s.over b)) := by
  have hng : ∀ k, noG (getN F.N (s.over b) k) := fun k => noG_in (hw.env k)
  have hΦ : ∀ p (M' s' : XS S.A), M'.L = s'.L → M'.T = s'.T → M'.c = s'.c → Φ (.panic p) (M'.frg (dstsOf ops.toList) s.env) → Φ (.panic p) (s'.frg (dstsOf ops.toList) s.env) := by
    rintro p ⟨e1, L1, T1, c1⟩ ⟨e2, L2, T2, c2⟩ h1 h2 h3 h
    simp only at h1 h2 h3
    subst h1 h2 h3
    exact h
  cases draw with
  | false =>
    simp only [Xc] at h
    cases hok : regOk ops.toList [] (numd 0 ops.toList) with
    | false => rw [hok] at h; exact h.elim
    | true =>
      rw [hok] at h
      simp only [Bool.not_true, cond_false] at h
      refine aw_region (P := (C.rg an rid false).P) ?_
      refine seq_sound (C := C.rg an rid false) hK0 (hC.rg an rid false) hpin (kS := fun s' => ∃ M D kn, Mg F.N b D kn M s' ∧ Φ .normal (clearG M)) (fun s' g a w h hc hw hr => fin_normal hb h hc hw hr) hl0 ops.toList 0 s (fun o ho x hx => dsts_mem ho hx) (fun j _ => rfl) ?_ (Nat.le_refl _) hw
      exact run_mg (C := C.rg an rid false) (hC.cm b) hC.km hΦ (fun i M s e => e) (fun D kn M s h => h.mem2 (M' := { M with c := M.c + 1 }) (s' := { s with c := s.c + 1 }) rfl rfl h.L h.T (by show M.c + 1 = s.c + 1; rw [h.c])) (fun D kn M s h hk => ⟨M, D, kn, h, hk⟩) _ [] (fun _ => none) s s hok (mg0 hng) h
  | true =>
    simp only [Xc] at h
    rcases Bool.eq_false_or_eq_true (lookW an rid) with hW | hW
    · rw [hW] at h
      simp only [cond_true] at h
      rcases Bool.eq_false_or_eq_true ((numd 0 ops.toList).all (fun x => (depsN x.2).all fun j => Nat.blt j x.1)) with hbk | hbk
      · rw [hbk] at h
        exact drawA_sound (C := C.rg an rid false) (s := { s with c := s.c + ops.toList.length }) (c0 := s.c) (hC.cm b) hC.km rfl hC.mx (hC.ok b) hC.K hpin hK0 hl0 (by show s.c + ops.toList.length = s.c + ops.size; simp) ⟨hw.env, hw.L, hw.T, hw.ext⟩ hbk (ds := dstsOf ops.toList) (e0 := s.env) (fun i o ho x hx => dsts_mem (by have := List.mem_of_getElem? (l := ops.toList) (i := i) (a := o) (by simpa using ho); exact this) hx) (fun j _ => rfl) h
          (fun s' g a w h hc hw hr => ⟨_, g, hr, ⟨s', hc, hw, rfl, h⟩, trivial⟩) (fun p s' g a w v h he hc hw hp hr hv => fin_panic h he hc hw hp hr hv)
      · rw [hbk] at h; exact h.elim
    rw [hW] at h
    simp only [cond_false] at h
    split at h
    · rename_i E t hE
      rcases Bool.eq_false_or_eq_true ((numd 0 ops.toList).all (fun x => (depsN x.2).all fun j => Nat.blt j x.1) && (eagOk (C.rg an rid true) ops.toList E && schOk E false t (numd 0 ops.toList))) with hbk | hbk
      · rw [hbk] at h
        rw [Bool.and_eq_true, Bool.and_eq_true] at hbk
        exact drawH_sound (C := C.rg an rid true) (s := { s with c := s.c + ops.toList.length }) (c0 := s.c) (hC.cm b) hC.km hΦ rfl rfl hC.mx (hC.ok b) hC.K hpin hK0 hl0 (by show s.c + ops.toList.length = s.c + ops.size; simp) ⟨hw.env, hw.L, hw.T, hw.ext⟩ hbk.1 (hE := hbk.2.1) (hS := hbk.2.2) (ds := dstsOf ops.toList) (e0 := s.env) (fun i o ho x hx => dsts_mem (by have := List.mem_of_getElem? (l := ops.toList) (i := i) (a := o) (by simpa using ho); exact this) hx) (fun j _ => rfl) h
          (fun s' g a w h hc hw hr => ⟨_, g, hr, ⟨s', hc, hw, rfl, h⟩, trivial⟩) (fun p s' g a w v h he hc hw hp hr hv => fin_panic h he hc hw hp hr hv)
      · rw [hbk] at h; exact h.elim
    generalize hπ : canon ops.toList.length [] (numd 0 ops.toList) = π at h
    cases hok : (drawnOk (C.rg an rid true) ops.toList π && regOk ops.toList [] π) with
    | false => rw [hok] at h; exact h.elim
    | true =>
      rw [hok] at h
      rw [Bool.and_eq_true] at hok
      simp only [cond_true] at h
      have hrun := run_mg (C := C.rg an rid true) (hC.cm b) hC.km hΦ (idf := fun i _ => s.c + i) (nx := fun s => s) (kS := fun s' => ∃ M D kn, Mg F.N b D kn M s' ∧ Φ .normal (clearG M)) (fun i M s e => rfl) (fun D kn M s h => h) (fun D kn M s h hk => ⟨M, D, kn, h, hk⟩) π [] (fun _ => none) { s with c := s.c + ops.toList.length } { s with c := s.c + ops.toList.length } hok.2 (mg0 hng) h
      exact draw_sound (C := C.rg an rid true) (s := { s with c := s.c + ops.toList.length }) (c0 := s.c) (hC.cm b) hC.km hΦ rfl rfl hC.mx (hC.ok b) hC.K hpin hK0 hl0 (by show s.c + ops.toList.length = s.c + ops.size; simp) ⟨hw.env, hw.L, hw.T, hw.ext⟩ hok.1 (fun x hx => canon_mem (hπ ▸ hx)) (ds := dstsOf ops.toList) (e0 := s.env) (fun i o ho x hx => dsts_mem (by have := List.mem_of_getElem? (l := ops.toList) (i := i) (a := o) (by simpa using ho); exact this) hx) (fun j _ => rfl) hrun
        (fun s' g a w h hc hw hr => fin_normal hb h hc hw hr) (fun p s' g a w v h he hc hw hp hr hv => fin_panic h he hc hw hp hr hv)
/-! ### What varies -/
theorem over_over (s' s b : XS S.A) : (s'.over s).over b = s'.over (s.over b) := by
  refine xs_ext (fun k => ?_) (fun k => ?_) (fun k => ?_) rfl
  · show orE (orE (s'.env k) (s.env k)) (b.env k) = orE (s'.env k) (orE (s.env k) (b.env k))
    cases s'.env k <;> rfl
  · show orE (orE (s'.L k) (s.L k)) (b.L k) = orE (s'.L k) (orE (s.L k) (b.L k))
    cases s'.L k <;> rfl
  · show orE (orE (s'.T k) (s.T k)) (b.T k) = orE (s'.T k) (orE (s.T k) (b.T k))
    cases s'.T k <;> rfl
theorem onlyB_spec {α : Type} {N : Nat} {ds : List Nat} {f : Nat → Option α} (h : onlyB N ds f = true) {k : Nat} (hk : k < N) (hd : k ∉ ds) : f k = none := by
  have := List.all_eq_true.1 h k (List.mem_range.2 hk)
  cases hf : f k with
  | none => rfl
  | some x => rw [hf] at this; exact absurd (memN_mem.1 this) hd
theorem box_ent {i : Nat} : ∀ {V : RV}, i ∈ boxV V → ∃ rp rk, (rp, rk) ∈ V ∧ BoxAt rp i
  | (rp, rk) :: V, h => by
    have go : i ∈ boxV V → ∃ rp' rk', (rp', rk') ∈ (rp, rk) :: V ∧ BoxAt rp' i := fun h => by
      obtain ⟨rp, rk, h1, h2⟩ := box_ent (V := V) h; exact ⟨rp, rk, List.mem_cons_of_mem _ h1, h2⟩
    cases rp with
    | sl d => exact go h
    | ce x j =>
      rcases List.mem_cons.1 h with rfl | h
      · exact ⟨_, _, List.mem_cons_self, .inr (.inl ⟨j, rfl⟩)⟩
      · exact go h
    | bx x =>
      rcases List.mem_cons.1 h with rfl | h
      · exact ⟨_, _, List.mem_cons_self, .inl rfl⟩
      · exact go h
    | tl x =>
      rcases List.mem_cons.1 h with rfl | h
      · exact ⟨_, _, List.mem_cons_self, .inr (.inr rfl)⟩
      · exact go h
theorem tip_ent {q : Nat} : ∀ {V : RV}, q ∈ tipV V → ∃ rp rk, (rp, rk) ∈ V ∧ ∃ u, rk = RK.own q u ∨ rk = RK.prv q u
  | (rp, rk) :: r, h => by
    have later : q ∈ tipV r → ∃ rp' rk', (rp', rk') ∈ (rp, rk) :: r ∧ ∃ u, rk' = RK.own q u ∨ rk' = RK.prv q u := fun h => by
      obtain ⟨rp', rk', hm, hu⟩ := tip_ent h
      exact ⟨rp', rk', List.mem_cons_of_mem _ hm, hu⟩
    cases rk with
    | own q' u =>
      rcases List.mem_cons.1 h with rfl | h
      · exact ⟨rp, _, List.mem_cons_self, u, .inl rfl⟩
      · exact later h
    | prv q' u =>
      rcases List.mem_cons.1 h with rfl | h
      · exact ⟨rp, _, List.mem_cons_self, u, .inr rfl⟩
      · exact later h
    | _ => exact later h
/-- A list of its own that a value is. -/
def OQ (Q : Nat → Prop) : AV S.A → Prop
  | .own k _ _ => Q k
  | .prv k _ _ => Q k
  | _ => True
theorem oq_inV {Q : Nat → Prop} {p : AV S.A} (h : inV Q p) : OQ Q p := by cases p <;> first | exact h | trivial
theorem oq_in1 {Q : Nat → Prop} {p : AV S.A} (h : in1 Q p) : OQ Q p := by cases p <;> first | exact h | trivial
theorem all_of {φ : RPl → (rk : RK) → rk.ty S.A → Prop} {rp : RPl} {rk : RK} : ∀ {V : RV} {h : HV S.A V}, AllV φ V h → (rp, rk) ∈ V → ∃ x, φ rp rk x
  | [], _, _, hm => by cases hm
  | [(rp', rk')], x, ha, hm => by obtain e := List.mem_singleton.1 hm; cases e; exact ⟨x, ha⟩
  | (rp', rk') :: y :: r, h, ha, hm => by
    rcases List.mem_cons.1 hm with e | hm
    · cases e; exact ⟨_, ha.1⟩
    · exact all_of (V := y :: r) ha.2 hm
theorem rawAt_spec {N : Nat} {β : XS S.A} {Q : Nat → Prop} (hw : WF Q F β) (hN : N = F.N) {pl : Pl} {rp : RPl} {cs : List (AV S.A)} (h : rawAt N β pl = some (rp, cs)) : rawR β rp = some cs ∧ (∀ d, rp = .sl d → Nat.blt d N = true) ∧ (∀ i, BoxAt rp i → Q i) ∧ ∀ p, cs = [p] → OQ Q p := by
  subst hN
  have one : ∀ {rp : RPl} {x : Nat}, (rp = .bx x ∨ (∃ j, rp = .ce x j) ∨ rp = .tl x) → Q x → ∀ i, BoxAt rp i → Q i := by
    rintro rp x h1 h2 i h3
    rcases h1 with rfl | ⟨j, rfl⟩ | rfl <;> rcases h3 with e | ⟨j', e⟩ | e <;> cases e <;> exact h2
  cases pl with
  | sl d =>
    simp only [rawAt] at h
    cases hd : Nat.blt d F.N with
    | false => rw [hd] at h; cases h
    | true =>
      rw [hd] at h
      cases h
      refine ⟨rfl, fun d' e => (by cases e; exact hd), fun i e => (by rcases e with e | ⟨j, e⟩ | e <;> cases e), fun p e => ?_⟩
      have := hw.get hd
      have e : β.get d = p := (List.cons.inj e).1
      rw [e] at this
      exact oq_inV this
  | ce d i =>
    simp only [rawAt] at h
    split at h <;> first | (cases h; done) | skip
    rename_i x hx
    split at h <;> first | (cases h; done) | skip
    rename_i ps hps
    split at h <;> first | (cases h; done) | skip
    rename_i p hp
    cases h
    have hL := hw.L x ps hps
    refine ⟨by simp only [rawR, hps, hp], fun d' e => (by cases e), one (.inr (.inl ⟨i, rfl⟩)) hL.1, fun p' e => ?_⟩
    have := hL.2 p (List.mem_of_getElem? hp)
    have e : p = p' := (List.cons.inj e).1
    rw [e] at this
    exact oq_in1 this
  | bx d =>
    simp only [rawAt] at h
    split at h <;> first | (cases h; done) | skip
    rename_i x hx
    split at h <;> first | (cases h; done) | skip
    rename_i ps hps
    cases h
    have hL := hw.L x _ hps
    refine ⟨by simp only [rawR, hps], fun d' e => (by cases e), one (.inl rfl) hL.1, fun p e => ?_⟩
    have := hL.2 p (by rw [e]; simp)
    exact oq_in1 this
  | tl d =>
    simp only [rawAt] at h
    split at h <;> first | (cases h; done) | skip
    rename_i x hx
    split at h <;> first | (cases h; done) | skip
    rename_i cs u l pad hps
    cases h
    have hL := hw.L x _ hps
    refine ⟨by simp only [rawR, hps], fun d' e => (by cases e), one (.inr (.inr rfl)) hL.1, fun p e => ?_⟩
    rw [← (List.cons.inj e).1]; trivial
theorem initV_spec {N : Nat} {β : XS S.A} {Q : Nat → Prop} (hw : WF Q F β) (hN : N = F.N) : ∀ {V0 : List (Pl × LK)} {id : Nat} {V : RV}, initV N β id V0 = some V → ∀ rp rk, (rp, rk) ∈ V → (∃ cs, rawR β rp = some cs ∧ (∀ p, cs = [p] → OQ Q p)) ∧ (∀ d, rp = .sl d → Nat.blt d N = true) ∧ (∀ i, BoxAt rp i → Q i) ∧ (∀ q u, (rk = .own q u ∨ rk = .prv q u) → Q q ∨ (id ≤ q ∧ q < id + V.length))
  | [], id, V, h => by cases h; intro rp rk hm; cases hm
  | (pl, lk) :: r, id, V, h => by
    simp only [initV] at h
    split at h <;> first | cases h | skip
    rename_i rp0 cs0 hraw
    split at h <;> first | cases h | skip
    rename_i rk0 V' hk hV'
    obtain ⟨s1, s2, s3, s4⟩ := rawAt_spec hw hN hraw
    intro rp rk hm
    rcases List.mem_cons.1 hm with e | hm
    · cases e
      refine ⟨⟨cs0, s1, s4⟩, s2, s3, fun q u e => ?_⟩
      unfold initK at hk
      split at hk <;> first | (cases hk; done) | skip
      all_goals (cases hk; rcases e with e | e <;> cases e)
      · exact .inr ⟨Nat.le_refl _, by simp only [List.length_cons]; omega⟩
      · exact .inl (s4 _ rfl)
      · exact .inr ⟨Nat.le_refl _, by simp only [List.length_cons]; omega⟩
      · exact .inl (s4 _ rfl)
    · obtain ⟨k1, k2, k3, k4⟩ := initV_spec hw hN hV' rp rk hm
      refine ⟨k1, k2, k3, fun q u e => (k4 q u e).imp (fun h => h) fun h => ?_⟩
      simp only [List.length_cons]
      omega
theorem lay_c : ∀ (V : RV) (h : HV S.A V) (s : XS S.A), (layV s V h).c = s.c
  | [], _, s => rfl
  | [(rp, rk)], x, s => by
    show (layK s rp rk x).c = s.c
    rw [layK_eq]
    have := (tipS_env s rk x).2.2
    cases rp with
    | sl d => exact this
    | bx i => simp only []; split <;> exact this
    | tl i => simp only []; split <;> exact this
    | ce i j => simp only []; split <;> exact this
  | (rp, rk) :: y :: r, h, s => by
    show (layV (layK s rp rk h.1) (y :: r) h.2).c = s.c
    rw [lay_c (y :: r) h.2, layK_eq]
    have := (tipS_env s rk h.1).2.2
    cases rp with
    | sl d => exact this
    | bx i => simp only []; split <;> exact this
    | tl i => simp only []; split <;> exact this
    | ce i j => simp only []; split <;> exact this
theorem withP_iff {p : Option Prop} {q : Prop} (h : withP p q) : (∀ r, p = some r → r) ∧ q := by
  cases p with
  | none => exact ⟨fun r e => (by cases e), h⟩
  | some p => exact ⟨fun r e => (by cases e; exact h.1), h.2⟩
section heads
variable {β : XS S.A} {c0 : Nat} {V0 : List (Pl × LK)} {V : RV} {cl : List Nat}
theorem owns_sub {e : RPl × RK} : ∀ {V : RV}, e ∈ ownsV V → e ∈ V
  | (rp, rk) :: V, h => by
    cases rk with
    | own q t =>
      rcases List.mem_cons.1 h with rfl | h
      · exact List.mem_cons_self
      · exact List.mem_cons_of_mem _ (owns_sub h)
    | prv q t =>
      rcases List.mem_cons.1 h with rfl | h
      · exact List.mem_cons_self
      · exact List.mem_cons_of_mem _ (owns_sub h)
    | _ => exact List.mem_cons_of_mem _ (owns_sub (V := V) h)
/-- Into a head. -/
theorem head_init {V' : RV} {c : Nat} (hsub : ∀ e, e ∈ V' → e ∈ V) (hK0 : ∀ n, K0 n → n < l0) (hl0 : l0 ≤ c0) (hw : WF (Bd K0 l0 c0) F β) (hV : initV F.N β c0 V0 = some V) {p0 : Option Prop} {x0 : HV S.A V'} (hx : backV (some c0) β V' = some (p0, x0)) (hp : ∀ r, p0 = some r → r) {g : Gh} {a : Act} {w : World} (hr : Rel B (den F β) g a w) :
    ∃ g', Rel B (den F ((headV β V' cl c x0).over β)) g' a w := by
  have hall := back_all V' p0 x0 hx hp
  have spec := initV_spec hw rfl hV
  refine ⟨_, head_weak (ini := some c0) (Q := Bd K0 l0 c0) (fr := fun n => Nat.ble c0 n) hw (fun n h => h) (fun n h hn => by have := Nat.le_of_ble_eq_true h; have := hn.lt hK0 hl0; omega) hall (fun c' e rp rk q _ _ _ hc => by cases e; exact Nat.ble_eq_true_of_le hc) ?_ ?_ (fun k _ _ => rfl) ?_ (fun i _ _ => rfl) (fun q _ _ => rfl) hr⟩
  · intro rp q u u' l hm hraw
    obtain ⟨⟨cs, h1, h2⟩, _⟩ := spec rp _ (hsub _ hm)
    rw [hraw] at h1
    exact h2 _ (Option.some.inj h1).symm
  · intro rp q u u' l hm hraw
    obtain ⟨⟨cs, h1, h2⟩, _⟩ := spec rp _ (hsub _ hm)
    rw [hraw] at h1
    exact h2 _ (Option.some.inj h1).symm
  · intro i hi
    obtain ⟨rp, rk, hm, hrp⟩ := box_ent hi
    obtain ⟨⟨cs, h1, _⟩, _⟩ := spec rp rk (hsub _ hm)
    rcases hrp with rfl | ⟨j, rfl⟩ | rfl
    · simp only [rawR] at h1
      split at h1 <;> first | (cases h1; done) | skip
      rename_i ps hps
      exact ⟨ps, ps, hps, hps, rfl, .inr rfl⟩
    · simp only [rawR] at h1
      split at h1 <;> first | (cases h1; done) | skip
      rename_i ps hps
      exact ⟨ps, ps, hps, hps, rfl, .inr rfl⟩
    · simp only [rawR] at h1
      split at h1 <;> first | (cases h1; done) | skip
      rename_i ps _ _ _ hps
      exact ⟨_, _, hps, hps, rfl, .inr rfl⟩
/-- Back to a head. -/
theorem head_back (hK0 : ∀ n, K0 n → n < l0) (hl0 : l0 ≤ c0) (hw : WF (Bd K0 l0 c0) F β) (hV : initV F.N β c0 V0 = some V) {s' : XS S.A} (ho : (onlyV F.N (c0 + V.length) cl V β s' && nilOk (s'.over β) V) = true) {p : Option Prop} {h : HV S.A V} (hx : backV (some c0) (s'.over β) V = some (p, h)) (hp : ∀ r, p = some r → r) {g : Gh} {a : Act} {w : World} (hr : Rel B (den F (s'.over β)) g a w) :
    ∃ g', Rel B (den F ((headV β V cl (c0 + V.length) h).over β)) g' a w := by
  have hall := back_all V p h hx hp
  have spec := initV_spec hw rfl hV
  simp only [onlyV, Bool.and_eq_true] at ho
  obtain ⟨⟨o1, o2, o3, o4⟩, o5⟩ := ho
  rw [List.all_eq_true] at o4
  have nn : ∀ {rp : RPl} {rk : RK} {q : Nat}, (rp, rk) ∈ V → tipK rk = some q → isNilR (rawR (s'.over β) rp) = false → nilV (s'.over β) V q = false := fun {rp rk q} hm ht hn => by
    have := List.all_eq_true.1 o5 _ hm
    simp only [ht, hn, Bool.false_or, Bool.not_eq_true'] at this
    exact this
  refine ⟨_, head_weak (ini := some c0) (Q := fun n => Bd K0 l0 (c0 + V.length) n ∧ (Nat.ble c0 n && nilV (s'.over β) V n) = false) (fr := fun n => Nat.ble c0 n && nilV (s'.over β) V n) hw (fun n h => ⟨h.up (Nat.le_add_right _ _), by
      have := h.lt hK0 hl0
      have : Nat.ble c0 n = false := by
        cases hq : Nat.ble c0 n with
        | false => rfl
        | true => have := Nat.le_of_ble_eq_true hq; omega
      rw [this]; rfl⟩) (fun n h hn => by rw [hn.2] at h; cases h) hall (fun c' e rp rk q hm ht hn hc => by
      cases e
      rw [Bool.and_eq_true]
      refine ⟨Nat.ble_eq_true_of_le hc, List.any_eq_true.2 ⟨_, hm, ?_⟩⟩
      simp only [ht, hn]
      rw [Bool.and_eq_true]
      exact ⟨Nat.beq_refl q, rfl⟩) ?_ ?_ ?_ ?_ ?_ ?_ hr⟩
  · intro rp q u u' l hm hraw
    refine ⟨?_, by rw [nn hm rfl (by rw [hraw]; rfl), Bool.and_false]⟩
    rcases (spec rp _ hm).2.2.2 q u (.inl rfl) with h | h
    · exact h.up (Nat.le_add_right _ _)
    · exact .inr ⟨by omega, h.2⟩
  · intro rp q u u' l hm hraw
    refine ⟨?_, by rw [nn hm rfl (by rw [hraw]; rfl), Bool.and_false]⟩
    rcases (spec rp _ hm).2.2.2 q u (.inr rfl) with h | h
    · exact h.up (Nat.le_add_right _ _)
    · exact .inr ⟨by omega, h.2⟩
  · intro k hk hd
    rw [over_get, onlyB_spec o1 (blt hk) hd]
  · intro i hi
    have := o4 i hi
    split at this
    · rename_i x y h1 h2
      rw [Bool.and_eq_true] at this
      refine ⟨x, y, h1, h2, Nat.eq_of_beq_eq_true this.1, ?_⟩
      have h3 := this.2
      split at h3
      · rename_i e1 e2; exact .inr (by rw [e1, e2])
      · exact .inl (memN_mem.1 h3)
      · cases h3
    · cases this
  · intro i hi hd
    show orE (s'.L i) (β.L i) = _
    rw [onlyB_spec o2 (Nat.lt_of_lt_of_le (hi.lt hK0 hl0) (Nat.le_add_right _ _)) hd]; rfl
  · intro q hq hd
    show orE (s'.T q) (β.T q) = _
    rw [onlyB_spec o3 (hq.1.lt hK0 (by omega)) hd]; rfl
theorem head_ok {V' : RV} (hsub : ∀ e, e ∈ V' → e ∈ V) (hK0 : ∀ n, K0 n → n < l0) (hl0 : l0 ≤ c0) (hw : WF (Bd K0 l0 c0) F β) (hV : initV F.N β c0 V0 = some V) (h : HV S.A V') : WF (Bd K0 l0 (headV β V' cl (c0 + V.length) h).c) F ((headV β V' cl (c0 + V.length) h).over β) := by
  have spec := initV_spec hw rfl hV
  have hc : (headV β V' cl (c0 + V.length) h).c = c0 + V.length := lay_c _ _ _
  rw [hc]
  refine head_wf hw (fun n h => h.up (Nat.le_add_right _ _)) (fun q hq => ?_) (fun i hi => ?_)
  · obtain ⟨rp, rk, hm, u, hu⟩ := tip_ent hq
    rcases (spec rp _ (hsub _ hm)).2.2.2 q u hu with h | h
    · exact h.up (Nat.le_add_right _ _)
    · exact .inr ⟨by omega, h.2⟩
  · obtain ⟨rp, rk, hm, hrp⟩ := box_ent hi
    exact ((spec rp rk (hsub _ hm)).2.2.1 i hrp).up (Nat.le_add_right _ _)
end heads
theorem LΦ_lo {lo lo' : Nat} (h : lo ≤ lo') {e : Exit} {σ : St} (hl : LΦ K0 l0 F b lo' Φ e σ) : LΦ K0 l0 F b lo Φ e σ := by
  obtain ⟨s', h1, h2, h3⟩ := hl
  exact ⟨s', Nat.le_trans h h1, h2, h3⟩
theorem aw_weaken {P : Program} {c : Code} {Ψ : Exit → St → Prop} {σ σ' : St} (h : ∀ g a w, Rel B σ g a w → ∃ g', Rel B σ' g' a w) (h' : AW P B c Ψ σ') : AW P B c Ψ σ := by
  intro g a w hr
  obtain ⟨g', hr'⟩ := h g a w hr
  exact h' g' a w hr'
/-- Ends that are seen from further out. -/
theorem LΦ_out {Φi : XE S.A → XS S.A → Prop} {lo lo' : Nat} (hlo : lo ≤ lo') {e : Exit} {σ : St} (hΦ : ∀ e s', e ≠ .normal → Φi e s' → Φ e (s'.over s)) (he : e ≠ .normal) (h : LΦ K0 l0 F (s.over b) lo' Φi e σ) : LΦ K0 l0 F b lo Φ e σ := by
  obtain ⟨s', h1, h2, h3⟩ := h
  refine ⟨s'.over s, Nat.le_trans hlo h1, by rw [over_over]; exact h2, ?_⟩
  cases e with
  | normal => exact absurd rfl he
  | exit id => exact ⟨by rw [over_over]; exact h3.1, hΦ _ _ (fun e => by cases e) h3.2⟩
  | ret => exact ⟨by rw [over_over]; exact h3.1, hΦ _ _ (fun e => by cases e) h3.2⟩
  | panic ch => obtain ⟨p, k1, k2, k3⟩ := h3; exact ⟨p, by rw [over_over]; exact k1, k2, hΦ _ _ (fun e => by cases e) k3⟩
  | goto l => exact h3
  | outgrown => exact h3
theorem repL_set {T T' : Nat → Option (Nat × Nat)} {g g' : Gh} (hm : ∀ q v, Rep1 T g q v → Rep1 T' g' q v) : ∀ {ps : List PV} {vs : List Value} {j : Nat} {p p' : PV}, RepL T g ps vs → ps[j]? = some p → (∀ v, Rep1 T g p v → Rep1 T' g' p' v) → RepL T' g' (ps.set j p') vs
  | [], vs, j, p, p', _, h, _ => by cases h
  | q :: ps, vs, 0, p, p', ⟨v, vs', e, h1, h2, h3⟩, h, hp => by cases h; exact ⟨v, vs', e, hp v h1, h2, RepL.carry hm h3⟩
  | q :: ps, vs, j + 1, p, p', ⟨v, vs', e, h1, h2, h3⟩, h, hp => ⟨v, vs', e, hm q v h1, h2, repL_set hm h3 (by simpa using h) hp⟩
/-- A list that will not be written again. -/
theorem frz1_sound {Q : Nat → Prop} {s : XS S.A} {p : AV S.A} {k : XS S.A → AV S.A → Prop} (hw : WF Q F (s.over b)) (h : frz1 b s p k) : ∃ s1 p', k s1 p' ∧ s1.c = s.c ∧ s1.env = s.env ∧ s1.L = s.L ∧ (inV Q p → inV Q p') ∧ (in1 Q p → in1 Q p') ∧ WF Q F (s1.over b) ∧ denV p' = den1 p' ∧
    ∀ g a w, Rel B (den F (s.over b)) g a w → ∃ g', Rel B (den F (s1.over b)) g' a w ∧ g'.β = g.β ∧ (∀ q v, Rep1 (den F (s.over b)).T g q v → Rep1 (den F (s1.over b)).T g' q v) ∧ ∀ v, Rep1 (den F (s.over b)).T g (den1 p) v → Rep1 (den F (s1.over b)).T g' (den1 p') v := by
  unfold frz1 at h
  split at h
  · rename_i q t n
    split at h <;> first | exact h.elim | skip
    rename_i sz m u l pad hT
    split at h <;> first | exact h.elim | skip
    rename_i hu
    obtain rfl := Nat.eq_of_beq_eq_true hu
    cases hs : Nat.beq sz (szOf S u) with
    | false => rw [hs] at h; exact h.elim
    | true =>
      rw [hs] at h
      obtain rfl := Nat.eq_of_beq_eq_true hs
      obtain ⟨⟨h1, h2⟩, h3⟩ := h
      subst h1 h2
      have hT2 := den_T (F := F) hT
      have hM := den_M (F := F) hT
      have hTf : (den F ((s.setT q (szOf S u) l.length).over b)).T = (den F (s.over b)).T := by
        rw [over_setT, den_setT]
        funext j
        show cond (Nat.beq j q) _ ((den F (s.over b)).T j) = _
        cases hq : Nat.beq j q with
        | false => rfl
        | true => rw [Nat.eq_of_beq_eq_true hq, hT2]; rfl
      refine ⟨_, _, h3, rfl, rfl, rfl, fun h => h, fun h => h, by rw [over_setT]; exact hw.setT (hw.T _ _ hT), rfl, fun g a w hr => ?_⟩
      have hT3 := hT2
      rw [szOf_eq] at hT3
      obtain ⟨g', k1, kβ, k2, k3⟩ := hr.prvFreeze (E := S.E u) (l := l) hT3 hM
      refine ⟨g', ?_, kβ, ?_, ?_⟩
      · have e0 : den F ((s.setT q (szOf S u) l.length).over b) = (den F (s.over b)).setM q none := by
          have := hTf
          rw [over_setT, den_setT] at this ⊢
          refine St.ext' rfl (fun _ => rfl) (fun _ => rfl) this rfl
        rw [e0]; exact k1
      · intro q v hv; rw [hTf]; exact k2 q v hv
      · intro v hv; rw [hTf]; exact k3 v hv
  · exact ⟨_, _, h, rfl, rfl, rfl, fun h => h, fun h => h, hw, rfl, fun g a w hr => ⟨g, hr, rfl, fun _ _ h => h, fun _ h => h⟩⟩
  · exact h.elim
theorem frzP_sound {Q : Nat → Prop} {s : XS S.A} {pl : Pl} {k : XS S.A → Prop} (hw : WF Q F (s.over b)) (h : frzP F.N b s pl k) : ∃ s1, k s1 ∧ s1.c = s.c ∧ WF Q F (s1.over b) ∧ ∀ g a w, Rel B (den F (s.over b)) g a w → ∃ g', Rel B (den F (s1.over b)) g' a w := by
  cases pl with
  | sl d =>
    simp only [frzP] at h
    cases hd : Nat.blt d F.N with
    | false => rw [hd] at h; exact h.elim
    | true =>
      rw [hd] at h
      obtain ⟨s1, p', h1, h2, h3, h4, h5, h5', h6, h7, h8⟩ := frz1_sound (B := B) hw h
      refine ⟨_, h1, h2, by rw [over_put]; exact h6.put (h5 (hw.get hd)), fun g a w hr => ?_⟩
      obtain ⟨g', k1, _, k2, k3⟩ := h8 g a w hr
      refine ⟨g', ?_⟩
      rw [over_put, den_put hd]
      refine { k1 with env := fun j => ?_ }
      show Rep _ _ (cond (Nat.beq j d) _ _) _
      cases hq : Nat.beq j d with
      | false => exact k1.env j
      | true =>
        obtain rfl := Nat.eq_of_beq_eq_true hq
        rw [h7]
        have hv := hr.env j
        rw [show (den F (s.over b)).env j = denV ((s.over b).get j) by show cond (Nat.blt j F.N) _ _ = _; rw [hd]; rfl] at hv
        exact rep_of1' (k3 _ (rep_den1 hv))
  | ce d j =>
    simp only [frzP] at h
    split at h <;> first | exact h.elim | skip
    rename_i x hx
    split at h <;> first | exact h.elim | skip
    rename_i bx hbx
    split at h <;> first | exact h.elim | skip
    rename_i p hp
    obtain ⟨s1, p', h1, h2, h3, h4, h5, h5', h6, h7, h8⟩ := frz1_sound (B := B) hw h
    have hL := hw.L x bx hbx
    have hL1 : (s1.over b).L = (s.over b).L := by show (fun k => orE (s1.L k) (b.L k)) = _; rw [h4]; rfl
    refine ⟨_, h1, h2, ?_, fun g a w hr => ?_⟩
    · rw [over_setL]
      refine h6.setL hL.1 fun q hq => ?_
      rcases List.mem_or_eq_of_mem_set hq with hq | rfl
      · exact hL.2 q hq
      · exact h5' (hL.2 p (List.mem_of_getElem? hp))
    · obtain ⟨g', k1, kβ, k2, k3⟩ := h8 g a w hr
      refine ⟨g', ?_⟩
      rw [over_setL, den_setL]
      have hold : ∀ i, (den F (s1.over b)).L i = (den F (s.over b)).L i := fun i => by show ((s1.over b).L i).map _ = ((s.over b).L i).map _; rw [hL1]
      have live : ∀ i ps, ((den F (s1.over b)).setL x (some (denB { bx with cs := bx.cs.set j p' }))).L i = some ps → ∃ qs, (den F (s1.over b)).L i = some qs := by
        intro i ps hi
        have hi : cond (Nat.beq i x) (some _) ((den F (s1.over b)).L i) = some ps := hi
        cases hq : Nat.beq i x with
        | false => rw [hq] at hi; exact ⟨ps, hi⟩
        | true => rw [Nat.eq_of_beq_eq_true hq, hold]; exact ⟨_, by show ((s.over b).L x).map _ = _; rw [hbx]; rfl⟩
      refine { k1 with box := ?_, apart := ?_, boxtip := ?_ }
      · intro i ps hi
        have hi : cond (Nat.beq i x) (some (denB { bx with cs := bx.cs.set j p' })) ((den F (s1.over b)).L i) = some ps := hi
        cases hq : Nat.beq i x with
        | false => rw [hq] at hi; exact k1.box i ps hi
        | true =>
          rw [hq] at hi
          cases hi
          obtain rfl := Nat.eq_of_beq_eq_true hq
          obtain ⟨cs, ty, j1, j2, j3, j4⟩ := hr.box i (denB bx) (by show ((s.over b).L i).map _ = _; rw [hbx]; rfl)
          obtain ⟨cs', ty', i1, _, i3, _⟩ := k1.box i (denB bx) (by rw [hold]; show ((s.over b).L i).map _ = _; rw [hbx]; rfl)
          refine ⟨cs, ty, by rw [kβ]; exact j1, ?_, i3, by rw [kβ]; exact j4⟩
          obtain ⟨tl, e1, e2⟩ := denB_cs bx
          rw [e2]
          rw [e1] at j2
          have hj : j < bx.cs.length := (List.getElem?_eq_some_iff.1 hp).1
          have := repL_set (j := j) (p' := den1 p') k2 j2 (by rw [List.getElem?_append_left (by rw [List.length_map]; exact hj), List.getElem?_map, hp]; rfl) k3
          rw [List.set_append_left _ _ (by rw [List.length_map]; exact hj)] at this
          rw [List.map_set]
          exact this
      · intro i i' ps ps' h1 h2 hne
        obtain ⟨_, h1⟩ := live i ps h1
        obtain ⟨_, h2⟩ := live i' ps' h2
        exact k1.apart i i' _ _ h1 h2 hne
      · intro i ps t y b' c h1 h2 h3
        obtain ⟨_, h1⟩ := live i ps h1
        exact k1.boxtip i _ t y b' c h1 h2 h3
  | bx d => exact h.elim
  | tl d => exact h.elim
theorem frzV_sound {P : Program} {Q : Nat → Prop} {y : Code} {Ψ : Exit → St → Prop} {k : XS S.A → Prop} : ∀ (V : List Pl) (s : XS S.A), frzV F.N b V s k → WF Q F (s.over b) → (∀ s1, k s1 → s1.c = s.c → WF Q F (s1.over b) → AW P B y Ψ (den F (s1.over b))) → AW P B y Ψ (den F (s.over b))
  | [], s, h, hw, hy => hy s h rfl hw
  | pl :: V, s, h, hw, hy => by
    obtain ⟨s1, h1, h2, h3, h4⟩ := frzP_sound (B := B) hw h
    exact aw_weaken h4 (frzV_sound V s1 h1 h3 fun s2 k1 k2 k3 => hy s2 k1 (k2.trans h2) k3)
/-- **Code that the executor runs is sound.** -/
theorem xc_sound (hK0 : ∀ n, K0 n → n < l0) (hC : Ok C call) (hpin : POk S B) {an : List (Nat × Ann)} : ∀ (c : Code) (b s : XS S.A) (Φ : XE S.A → XS S.A → Prop), (∀ k, noG (getN F.N b k)) → l0 ≤ s.c → WF (Bd K0 l0 s.c) F (s.over b) → Xc C an F.N call c b s Φ → AW C.P B c (LΦ K0 l0 F b s.c Φ) (den F (s.over b)) := by
  intro c
  induction c with
  | skip => intro b s Φ hb hl0 hw h; exact aw_skip ⟨s, Nat.le_refl _, hw, rfl, h⟩
  | ret => intro b s Φ hb hl0 hw h; exact aw_ret ⟨s, Nat.le_refl _, hw, rfl, h⟩
  | exit id => intro b s Φ hb hl0 hw h; exact aw_exit ⟨s, Nat.le_refl _, hw, rfl, h⟩
  | region id ops draw => intro b s Φ hb hl0 hw h; exact reg_sound hK0 hC hpin hb hl0 hw h
  | cond x c1 c2 ih1 ih2 =>
    intro b s Φ hb hl0 hw h
    simp only [Xc] at h
    split at h <;> first | exact h.elim | skip
    rename_i v hv
    refine aw_cond (b := v) (by rw [ev_den, hv]; rfl) (fun e => ?_) (fun e => ?_)
    · subst e; exact ih1 b s Φ hb hl0 hw h
    · subst e; exact ih2 b s Φ hb hl0 hw h
  | block id c ih =>
    intro b s Φ hb hl0 hw h
    simp only [Xc] at h
    refine aw_block (aw_mono (ih b s _ hb hl0 hw h) ?_)
    rintro e σ ⟨s', h1, h2, h3⟩
    cases e with
    | exit id' =>
      obtain ⟨rfl, h3⟩ := h3
      simp only [blockΦ]
      cases hq : Nat.beq id' id with
      | true =>
        simp only [hq, cond_true] at h3
        rw [if_pos (Nat.eq_of_beq_eq_true hq)]
        exact ⟨s', h1, h2, rfl, h3⟩
      | false =>
        simp only [hq, cond_false] at h3
        rw [if_neg (fun e => by subst e; rw [Nat.beq_refl] at hq; cases hq)]
        exact ⟨s', h1, h2, rfl, h3⟩
    | normal => exact ⟨s', h1, h2, h3⟩
    | ret => exact ⟨s', h1, h2, h3⟩
    | panic ch => exact ⟨s', h1, h2, h3⟩
    | goto l => exact ⟨s', h1, h2, h3⟩
    | outgrown => exact ⟨s', h1, h2, h3⟩
  | seq x y ihx ihy =>
    intro b s Φ hb hl0 hw h
    simp only [Xc] at h
    split at h
    · rename_i V0 han
      split at h <;> first | exact h.elim | skip
      rename_i V hV
      split at h <;> first | exact h.elim | skip
      rename_i p0 x0 hx0
      obtain ⟨hp0, ⟨h⟩⟩ := withP_iff h
      have hb2 : ∀ k, noG (getN F.N (s.over b) k) := fun k => noG_in (hw.env k)
      refine aw_seq (aw_weaken (fun g a w hr => head_init (cl := []) (c := s.c + V.length) (fun e => owns_sub) hK0 hl0 hw hV hx0 hp0 hr) (aw_mono (ihx (s.over b) _ _ hb2 (by rw [show (headV (s.over b) (ownsV V) [] (s.c + V.length) x0).c = s.c + V.length from lay_c _ _ _]; omega) (head_ok (fun e => owns_sub) hK0 hl0 hw hV x0) h) ?_))
      · intro e σ hl
        have hlo : s.c ≤ (headV (s.over b) (ownsV V) [] (s.c + V.length) x0).c := by rw [show (headV (s.over b) (ownsV V) [] (s.c + V.length) x0).c = s.c + V.length from lay_c _ _ _]; omega
        cases e with
        | normal =>
          obtain ⟨s', h1, h2, rfl, h3⟩ := hl
          simp only at h3
          split at h3 <;> first | exact h3.elim | skip
          rename_i p hh ho hbk
          obtain ⟨hp, h3⟩ := withP_iff h3
          refine aw_weaken (σ' := den F (((headV (s.over b) V (asg x) (s.c + V.length) hh).over s).over b)) (fun g a w hr => by rw [over_over]; exact head_back hK0 hl0 hw hV ho hbk hp hr) ?_
          refine aw_mono (ihy b _ Φ hb (by show l0 ≤ (headV (s.over b) V (asg x) (s.c + V.length) hh).c; rw [show (headV (s.over b) V (asg x) (s.c + V.length) hh).c = s.c + V.length from lay_c _ _ _]; omega) (by rw [over_over]; exact head_ok (fun e h => h) hK0 hl0 hw hV hh) h3) fun e σ hl => LΦ_lo ?_ hl
          show s.c ≤ (headV (s.over b) V (asg x) (s.c + V.length) hh).c
          rw [show (headV (s.over b) V (asg x) (s.c + V.length) hh).c = s.c + V.length from lay_c _ _ _]; omega
        | exit id => exact LΦ_out hlo (fun e s' he h => by cases e <;> first | exact absurd rfl he | exact h) (fun e => by cases e) hl
        | ret => exact LΦ_out hlo (fun e s' he h => by cases e <;> first | exact absurd rfl he | exact h) (fun e => by cases e) hl
        | panic ch => exact LΦ_out hlo (fun e s' he h => by cases e <;> first | exact absurd rfl he | exact h) (fun e => by cases e) hl
        | goto l => exact LΦ_out hlo (fun e s' he h => by cases e <;> first | exact absurd rfl he | exact h) (fun e => by cases e) hl
        | outgrown => exact LΦ_out hlo (fun e s' he h => by cases e <;> first | exact absurd rfl he | exact h) (fun e => by cases e) hl
    · refine aw_seq (aw_mono (ihx b s _ hb hl0 hw h) ?_)
      rintro e σ ⟨s', h1, h2, h3⟩
      cases e with
      | normal =>
        obtain ⟨rfl, h3⟩ := h3
        exact frzV_sound _ s' h3 h2 fun s1 k1 k2 k3 => aw_mono (ihy b s1 Φ hb (by rw [k2]; exact Nat.le_trans hl0 h1) (by rw [k2]; exact k3) k1) fun e σ hl => LΦ_lo (by rw [k2]; exact h1) hl
      | exit id => exact ⟨s', h1, h2, h3⟩
      | ret => exact ⟨s', h1, h2, h3⟩
      | panic ch => exact ⟨s', h1, h2, h3⟩
      | goto l => exact ⟨s', h1, h2, h3⟩
      | outgrown => exact ⟨s', h1, h2, h3⟩
  | loop c ih =>
    intro b s Φ hb hl0 hw h
    simp only [Xc] at h
    split at h <;> first | exact h.elim | skip
    rename_i V0 han
    split at h <;> first | exact h.elim | skip
    rename_i V hV
    split at h <;> first | exact h.elim | skip
    rename_i p0 x0 hx0
    obtain ⟨hp0, ⟨h⟩⟩ := withP_iff h
    have hb2 : ∀ k, noG (getN F.N (s.over b) k) := fun k => noG_in (hw.env k)
    have hJ := h (fun y => ∀ g a w, Rel B (den F ((headV (s.over b) V (asg c) (s.c + V.length) y).over (s.over b))) g a w → LoopIn C.P c (lift B (LΦ K0 l0 F b s.c Φ)) a w) ?_
    · intro g a w hr
      obtain ⟨g', hr'⟩ := head_init (cl := asg c) (c := s.c + V.length) (fun e h => h) hK0 hl0 hw hV hx0 hp0 hr
      exact loopIn_wp (hJ g' a w hr')
    · intro y hy g a w hr
      have hlo : s.c ≤ (headV (s.over b) V (asg c) (s.c + V.length) y).c := by rw [show (headV (s.over b) V (asg c) (s.c + V.length) y).c = s.c + V.length from lay_c _ _ _]; omega
      have := ih (s.over b) _ _ hb2 (Nat.le_trans hl0 hlo) (head_ok (fun e h => h) hK0 hl0 hw hV y) hy g a w hr
      · refine loopIn_step (wp_mono this ?_)
        rintro e a' w' ⟨σ', g', hr', hl, hpay⟩
        cases e with
        | normal =>
          obtain ⟨s', h1, h2, rfl, h3⟩ := hl
          simp only at h3
          split at h3 <;> first | exact h3.elim | skip
          rename_i p hh ho hbk
          obtain ⟨hp, h3⟩ := withP_iff h3
          obtain ⟨g2, hr2⟩ := head_back hK0 hl0 hw hV ho hbk hp hr'
          exact h3 g2 a' w' hr2
        | exit id => exact ⟨σ', g', hr', LΦ_out hlo (fun e s' he h => by cases e <;> first | exact absurd rfl he | exact h) (fun e => by cases e) hl, hpay⟩
        | ret => exact ⟨σ', g', hr', LΦ_out hlo (fun e s' he h => by cases e <;> first | exact absurd rfl he | exact h) (fun e => by cases e) hl, hpay⟩
        | panic ch => exact ⟨σ', g', hr', LΦ_out hlo (fun e s' he h => by cases e <;> first | exact absurd rfl he | exact h) (fun e => by cases e) hl, hpay⟩
        | goto l => exact ⟨σ', g', hr', LΦ_out hlo (fun e s' he h => by cases e <;> first | exact absurd rfl he | exact h) (fun e => by cases e) hl, hpay⟩
        | outgrown => exact ⟨σ', g', hr', LΦ_out hlo (fun e s' he h => by cases e <;> first | exact absurd rfl he | exact h) (fun e => by cases e) hl, hpay⟩
  | _ => intro b s Φ hb hl0 hw h; exact h.elim
end code
end Go.Rx
/-! What is asked may be less. -/
namespace Go.Rx
open Go.Ab Go.RowKit
set_option linter.unusedVariables false
set_option linter.unusedSimpArgs false
section
variable {S : Sys} {C : Cfg S}
theorem split_mono {get : Nat → AV S.A} {koff koff' : Kn → Prop} (h2 : ∀ kn, koff kn → koff' kn) : ∀ {ch : List (Nat × Bool)} {kon kon' : Kn → Prop} {kn : Kn}, (∀ kn, kon kn → kon' kn) → splitG get kon koff ch kn → splitG get kon' koff' ch kn
  | [], kon, kon', kn, h1, h => h1 kn h
  | (g, w) :: r, kon, kon', kn, h1, h => by
    refine split_mono h2 (ch := r) (fun kn hk => ?_) h
    revert hk
    generalize gval get g = gv
    intro hk
    cases gv with
    | none => cases w <;> exact hk
    | some v =>
      cases w <;> cases v
      · exact h1 _ hk
      · exact h2 _ hk
      · exact h2 _ hk
      · exact h1 _ hk
section run
variable {N : Nat} {call : CallT S} {b : XS S.A} {ops : List Oper} {idf : Nat → XS S.A → Nat} {nx : XS S.A → XS S.A} {kp kp' : AV S.A → XS S.A → Prop} {k k' : XS S.A → Prop}
theorem run_mono (hcm : ∀ f args m k k' kp kp', (∀ r m, k r m → k' r m) → (∀ r m, kp r m → kp' r m) → call f args m k kp → call f args m k' kp') (hkm : ∀ f W, Ab.look C.K f = some (.tr W) → ∀ args k k', (∀ r, k r → k' r) → W args k → W args k')
    (hk : ∀ s, k s → k' s) (hp : ∀ p s, kp p s → kp' p s) : ∀ (l : List (Nat × Oper)) (s : XS S.A) (kn : Kn), runM C N call b ops idf nx kp l s kn k → runM C N call b ops idf nx kp' l s kn k'
  | [], s, kn, h => hk s h
  | (i, o) :: r, s, kn, h => by
    have ih := run_mono hcm hkm hk hp r
    simp only [runM] at h ⊢
    cases hN : dstB N o.dst with
    | false => rw [hN] at h; exact h.elim
    | true =>
    rw [hN] at h
    simp only [Bool.not_true, cond_false] at h ⊢
    have ex : ∀ {kn : Kn} {rq : Rq S.A}, exec C call b (idf i s) o.dst s (fun s' => runM C N call b ops idf nx kp r (nx s') kn k) kp o.op rq → exec C call b (idf i s) o.dst s (fun s' => runM C N call b ops idf nx kp' r (nx s') kn k') kp' o.op rq :=
      fun h => exec_mono hcm hkm (fun s h => ih _ _ h) hp h
    cases hg : o.guard with
    | none => rw [hg] at h; exact ex h
    | some jw =>
      obtain ⟨j, w⟩ := jw
      rw [hg] at h
      simp only at h ⊢
      cases hj : dstOf ops j with
      | none => rw [hj] at h; exact h.elim
      | some g =>
        cases hd : o.dst with
        | none => rw [hj, hd] at h; exact h.elim
        | some d =>
          rw [hj, hd] at h
          rw [hd] at ex
          simp only at h ⊢
          cases hc : gcond (getN N (s.over b)) kn g w ops.length with
          | on => rw [hc] at h; exact ex h
          | off => rw [hc] at h; exact ih _ _ h
          | bad => rw [hc] at h; exact h.elim
          | cond ch =>
            rw [hc] at h
            simp only at h ⊢
            cases hrq : rqP (ptLoad C.P ops o.op) (rqM C (getN N (s.over b)) kn ch o.op) with
            | v p => rw [hrq] at h; exact ih _ _ h
            | vc c p => rw [hrq] at h; exact ⟨h.1, ih _ _ h.2⟩
            | ld x off n ag =>
              rw [hrq] at h
              simp only at h ⊢
              split at h
              · rename_i ps _ _
                cases hb : (Nat.beq ((ps.cs.drop off).take n).length n && (ag || Nat.beq n 1)) with
                | false => rw [hb] at h; exact h.elim
                | true => rw [hb] at h; exact ih _ _ h
              · exact h
            | bad => rw [hrq] at h; exact split_mono (fun kn h => ih _ _ h) (fun kn h => ex h) h
            | box cs => rw [hrq] at h; exact split_mono (fun kn h => ih _ _ h) (fun kn h => ex h) h
            | st x off n cs => rw [hrq] at h; exact split_mono (fun kn h => ih _ _ h) (fun kn h => ex h) h
            | tip t l => rw [hrq] at h; exact split_mono (fun kn h => ih _ _ h) (fun kn h => ex h) h
            | app q t bytes l ext => rw [hrq] at h; exact split_mono (fun kn h => ih _ _ h) (fun kn h => ex h) h
            | app0 t bytes ext => rw [hrq] at h; exact split_mono (fun kn h => ih _ _ h) (fun kn h => ex h) h
            | call f args => rw [hrq] at h; exact split_mono (fun kn h => ih _ _ h) (fun kn h => ex h) h
            | panic p => rw [hrq] at h; exact split_mono (fun kn h => ih _ _ h) (fun kn h => ex h) h
            | ch c => rw [hrq] at h; exact split_mono (fun kn h => ih _ _ h) (fun kn h => ex h) h
            | eld x off e' i ag => rw [hrq] at h; exact split_mono (fun kn h => ih _ _ h) (fun kn h => ex h) h
            | est x off e' i v => rw [hrq] at h; exact split_mono (fun kn h => ih _ _ h) (fun kn h => ex h) h
            | tld q n e' i ag => rw [hrq] at h; exact split_mono (fun kn h => ih _ _ h) (fun kn h => ex h) h
            | tst q n e' i v => rw [hrq] at h; exact split_mono (fun kn h => ih _ _ h) (fun kn h => ex h) h
            | papp q t bytes n ext => rw [hrq] at h; exact split_mono (fun kn h => ih _ _ h) (fun kn h => ex h) h
end run
theorem withP_mono {p : Option Prop} {q q' : Prop} (h : q → q') (hp : withP p q) : withP p q' := by
  cases p with
  | none => exact h hp
  | some p => exact ⟨hp.1, h hp.2⟩
theorem frz1_mono {b s : XS S.A} {p : AV S.A} {k k' : XS S.A → AV S.A → Prop} (hk : ∀ s p, k s p → k' s p) (h : frz1 b s p k) : frz1 b s p k' := by
  unfold frz1 at h ⊢
  split at h
  · split at h <;> first | exact h | skip
    split at h <;> first | exact h.elim | skip
    rename_i hu
    rw [dif_pos hu]
    exact bif_imp (fun e => ⟨e.1, hk _ _ e.2⟩) h
  · exact hk _ _ h
  · exact h
theorem frzP_mono {N : Nat} {b s : XS S.A} {pl : Pl} {k k' : XS S.A → Prop} (hk : ∀ s, k s → k' s) (h : frzP N b s pl k) : frzP N b s pl k' := by
  cases pl with
  | sl d => exact bif_imp (fun e => frz1_mono (fun s p h => hk _ h) e) h
  | ce d j =>
    simp only [frzP] at h ⊢
    split at h <;> first | exact h | skip
    split at h <;> first | exact h | skip
    split at h <;> first | exact h | skip
    exact frz1_mono (fun s p h => hk _ h) h
  | bx d => exact h
  | tl d => exact h
theorem frzV_mono {N : Nat} {b : XS S.A} {k k' : XS S.A → Prop} (hk : ∀ s, k s → k' s) : ∀ (V : List Pl) (s : XS S.A), frzV N b V s k → frzV N b V s k'
  | [], s, h => hk s h
  | pl :: V, s, h => frzP_mono (fun s h => frzV_mono hk V s h) h
theorem xc_mono {call : XS S.A → CallT S} (hcm : ∀ b f args m k k' kp kp', (∀ r m, k r m → k' r m) → (∀ r m, kp r m → kp' r m) → call b f args m k kp → call b f args m k' kp') (hkm : ∀ f W, Ab.look C.K f = some (.tr W) → ∀ args k k', (∀ r, k r → k' r) → W args k → W args k')
    {an : List (Nat × Ann)} {N : Nat} : ∀ (c : Code) (b s : XS S.A) (Φ Φ' : XE S.A → XS S.A → Prop), (∀ e s, Φ e s → Φ' e s) → Xc C an N call c b s Φ → Xc C an N call c b s Φ' := by
  intro c
  induction c with
  | skip => intro b s Φ Φ' hΦ h; exact hΦ _ _ h
  | ret => intro b s Φ Φ' hΦ h; exact hΦ _ _ h
  | exit id => intro b s Φ Φ' hΦ h; exact hΦ _ _ h
  | cond x c1 c2 ih1 ih2 =>
    intro b s Φ Φ' hΦ h
    simp only [Xc] at h ⊢
    split at h
    · rename_i v _
      cases v
      · exact ih2 b s Φ Φ' hΦ h
      · exact ih1 b s Φ Φ' hΦ h
    · exact h
  | block id c ih =>
    intro b s Φ Φ' hΦ h
    simp only [Xc] at h ⊢
    refine ih b s _ _ (fun e s' h => ?_) h
    cases e with
    | exit id' =>
      simp only at h ⊢
      cases hq : Nat.beq id' id <;> rw [hq] at h <;> exact hΦ _ _ h
    | _ => exact hΦ _ _ h
  | region id ops draw =>
    intro b s Φ Φ' hΦ h
    cases draw with
    | false =>
      simp only [Xc] at h ⊢
      cases hok : regOk ops.toList [] (numd 0 ops.toList) with
      | false => rw [hok] at h; exact h.elim
      | true =>
        rw [hok] at h
        exact run_mono (C := C.rg an id false) (hcm b) hkm (fun s h => hΦ _ _ h) (fun p s h => hΦ _ _ h) _ _ _ h
    | true =>
      simp only [Xc] at h ⊢
      rcases Bool.eq_false_or_eq_true (lookW an id) with hW | hW
      · rw [hW] at h ⊢
        simp only [cond_true] at h ⊢
        rcases Bool.eq_false_or_eq_true ((numd 0 ops.toList).all (fun x => (depsN x.2).all fun j => Nat.blt j x.1)) with hbk | hbk
        · rw [hbk] at h ⊢
          exact runA_mono (C := C.rg an id false) (hcm b) hkm (fun s h => hΦ _ _ h) (fun p s h => hΦ _ _ h) _ _ _ h
        · rw [hbk] at h; exact h.elim
      rw [hW] at h ⊢
      simp only [cond_false] at h ⊢
      split at h
      · rename_i E t hE
        rcases Bool.eq_false_or_eq_true ((numd 0 ops.toList).all (fun x => (depsN x.2).all fun j => Nat.blt j x.1) && (eagOk (C.rg an id true) ops.toList E && schOk E false t (numd 0 ops.toList))) with hbk | hbk
        · rw [hbk] at h ⊢
          exact runH_mono (C := C.rg an id true) (hcm b) hkm (fun s h => hΦ _ _ h) (fun p s h => hΦ _ _ h) _ _ _ h
        · rw [hbk] at h; exact h.elim
      generalize canon ops.toList.length [] (numd 0 ops.toList) = π at h ⊢
      cases hok : (drawnOk (C.rg an id true) ops.toList π && regOk ops.toList [] π) with
      | false => rw [hok] at h; exact h.elim
      | true =>
        rw [hok] at h
        exact run_mono (C := C.rg an id true) (hcm b) hkm (fun s h => hΦ _ _ h) (fun p s h => hΦ _ _ h) _ _ _ h
  | seq x y ihx ihy =>
    intro b s Φ Φ' hΦ h
    simp only [Xc] at h ⊢
    split at h
    · split at h <;> first | exact h | skip
      split at h <;> first | exact h | skip
      refine withP_mono (fun ⟨h⟩ => ⟨?_⟩) h
      refine ihx _ _ _ _ (fun e s' h => ?_) h
      cases e with
      | normal =>
        simp only at h ⊢
        split at h
        · exact withP_mono (fun h => ihy _ _ _ _ hΦ h) h
        · exact h
      | _ => exact hΦ _ _ h
    · refine ihx _ _ _ _ (fun e s' h => ?_) h
      cases e with
      | normal => exact frzV_mono (fun s h => ihy _ _ _ _ hΦ h) _ _ h
      | _ => exact hΦ _ _ h
  | loop c ih =>
    intro b s Φ Φ' hΦ h
    simp only [Xc] at h ⊢
    split at h <;> first | exact h | skip
    split at h <;> first | exact h | skip
    split at h <;> first | exact h | skip
    refine withP_mono (fun ⟨h⟩ => ⟨fun J hJ => h J fun y hy => hJ y ?_⟩) h
    refine ih _ _ _ _ (fun e s' h => ?_) hy
    cases e with
    | normal => exact h
    | _ => exact hΦ _ _ h
  | _ => intro b s Φ Φ' hΦ h; exact h
theorem xf_mono (hkm : ∀ f W, Ab.look C.K f = some (.tr W) → ∀ args k k', (∀ r, k r → k' r) → W args k → W args k') : ∀ (n : Nat) (b : XS S.A) (f : Nat) (args : List (AV S.A)) (m : XS S.A) (k k' kp kp' : AV S.A → XS S.A → Prop), (∀ r m, k r m → k' r m) → (∀ r m, kp r m → kp' r m) → Xf C n b f args m k kp → Xf C n b f args m k' kp'
  | 0, b, f, args, m, k, k', kp, kp', hk, hp, h => h
  | n + 1, b, f, args, m, k, k', kp, kp', hk, hp, h => by
    simp only [Xf] at h ⊢
    split at h <;> first | exact h | skip
    split at h <;> first | exact h | skip
    split at h <;> first | exact h | skip
    refine xc_mono (fun b f args m k k' kp kp' => xf_mono hkm n b f args m k k' kp kp') hkm _ _ _ _ _ (fun e s' h => ?_) h
    cases e with
    | ret => simp only at h ⊢; split at h <;> first | exact hk _ _ h | exact h
    | normal => simp only at h ⊢; split at h <;> first | exact hk _ _ h | exact h
    | panic p => exact hp _ _ h
    | exit id => exact h
end
end Go.Rx
