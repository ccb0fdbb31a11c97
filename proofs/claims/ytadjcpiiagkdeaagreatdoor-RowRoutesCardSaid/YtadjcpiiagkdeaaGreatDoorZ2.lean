import Derived.Test.YtadjcpiiagkdeaaGreatDoorZ1
import Derived.Laws.Slices
import Derived.Laws.StructEq
set_option linter.unusedVariables false
set_option linter.unusedSimpArgs false
namespace Go.Ab
open Go.RowKit
set_option linter.unusedVariables false
set_option linter.unusedSimpArgs false
def look {β : Type} : List (Nat × β) → Nat → Option β
  | [], _ => none
  | (k, x) :: r, s => cond (Nat.beq s k) (some x) (look r s)
theorem look_mem {β : Type} : ∀ {l : List (Nat × β)} {s : Nat} {x : β}, look l s = some x → (s, x) ∈ l
  | [], _, _, h => by cases h
  | (k, y) :: r, s, x, h => by
    simp only [look] at h
    cases hq : Nat.beq s k with
    | true =>
      rw [hq] at h
      obtain rfl := Nat.eq_of_beq_eq_true hq
      obtain rfl : y = x := Option.some.inj h
      exact List.mem_cons_self
    | false => rw [hq] at h; exact List.mem_cons_of_mem _ (look_mem h)
theorem look_of {β : Type} : ∀ {l : List (Nat × β)} {s : Nat} {x : β}, (l.map (·.1)).Nodup → (s, x) ∈ l → look l s = some x
  | [], _, _, _, h => by cases h
  | (k, y) :: r, s, x, hn, h => by
    simp only [List.map_cons, List.nodup_cons] at hn
    simp only [look]
    rcases List.mem_cons.1 h with e | h'
    · cases e; rw [Nat.beq_refl]; rfl
    · have : s ≠ k := fun e => by subst e; exact hn.1 (List.mem_map.2 ⟨(s, x), h', rfl⟩)
      rw [nbeq this]
      exact look_of hn.2 h'
theorem look_key {β : Type} {l : List (Nat × β)} {s : Nat} (h : s ∈ l.map (·.1)) (hn : (l.map (·.1)).Nodup) : ∃ x, look l s = some x := by
  obtain ⟨⟨k, x⟩, h1, rfl⟩ := List.mem_map.1 h
  exact ⟨x, look_of hn h1⟩
theorem look_keys {β : Type} {l : List (Nat × β)} {s : Nat} {x : β} (h : look l s = some x) : s ∈ l.map (·.1) := List.mem_map.2 ⟨_, look_mem h, rfl⟩
def ix {α : Type} [Inhabited α] (l : List α) (i : Int) : α := l.getD i.toNat default
def sub {α : Type} (l : List α) (lo hi : Int) : List α := (l.take hi.toNat).drop lo.toNat
theorem ix_some {α : Type} [Inhabited α] {l : List α} {i : Int} (h : 0 ≤ i ∧ i < (l.length : Int)) : l[i.toNat]? = some (ix l i) := by
  have : i.toNat < l.length := by omega
  simp [ix, this]
theorem sub_length {α : Type} (l : List α) (lo hi : Int) (h : 0 ≤ lo ∧ lo ≤ hi ∧ hi ≤ (l.length : Int)) : ((sub l lo hi).length : Int) = hi - lo := by
  simp [sub]; omega
theorem wrap64 (n : Int) : IntKind.wrap .i64 n = (n + 9223372036854775808) % 18446744073709551616 - 9223372036854775808 := by
  show (if true && decide (n % 18446744073709551616 ≥ 9223372036854775808) then n % 18446744073709551616 - 18446744073709551616 else n % 18446744073709551616) = _
  by_cases h : n % 18446744073709551616 ≥ 9223372036854775808
  · rw [decide_eq_true h]; simp; omega
  · rw [decide_eq_false h]; simp; omega
theorem wrapu8 (n : Int) : IntKind.wrap .u8 n = n % 256 := by simp [IntKind.wrap, IntKind.bits, IntKind.signed]
theorem wrapu16 (n : Int) : IntKind.wrap .u16 n = n % 65536 := by simp [IntKind.wrap, IntKind.bits, IntKind.signed]
theorem wrapu32 (n : Int) : IntKind.wrap .u32 n = n % 4294967296 := by simp [IntKind.wrap, IntKind.bits, IntKind.signed]
theorem wrapu64 (n : Int) : IntKind.wrap .u64 n = n % 18446744073709551616 := by simp [IntKind.wrap, IntKind.bits, IntKind.signed]
theorem lenH {α : Type} {E : Enc α} {l : List α} {imm : Imm} {v : Value} (h : sliceH E l imm v) : l.length ≤ 9223372036854775807 := by
  obtain ⟨_, c, _, h1, h2, _⟩ := h
  omega
theorem fd1 (x : Int) : Int.fdiv x (2 ^ 1) = x / 2 := Int.fdiv_eq_ediv_of_nonneg x (by decide)
theorem fd2 (x : Int) : Int.fdiv x (2 ^ 2) = x / 4 := Int.fdiv_eq_ediv_of_nonneg x (by decide)
theorem fd3 (x : Int) : Int.fdiv x (2 ^ 3) = x / 8 := Int.fdiv_eq_ediv_of_nonneg x (by decide)
theorem fd4 (x : Int) : Int.fdiv x (2 ^ 4) = x / 16 := Int.fdiv_eq_ediv_of_nonneg x (by decide)
theorem fd5 (x : Int) : Int.fdiv x (2 ^ 5) = x / 32 := Int.fdiv_eq_ediv_of_nonneg x (by decide)
theorem fd6 (x : Int) : Int.fdiv x (2 ^ 6) = x / 64 := Int.fdiv_eq_ediv_of_nonneg x (by decide)
theorem fd7 (x : Int) : Int.fdiv x (2 ^ 7) = x / 128 := Int.fdiv_eq_ediv_of_nonneg x (by decide)
theorem fd8 (x : Int) : Int.fdiv x (2 ^ 8) = x / 256 := Int.fdiv_eq_ediv_of_nonneg x (by decide)
theorem fd12 (x : Int) : Int.fdiv x (2 ^ 12) = x / 4096 := Int.fdiv_eq_ediv_of_nonneg x (by decide)
theorem fd16 (x : Int) : Int.fdiv x (2 ^ 16) = x / 65536 := Int.fdiv_eq_ediv_of_nonneg x (by decide)
theorem fd24 (x : Int) : Int.fdiv x (2 ^ 24) = x / 16777216 := Int.fdiv_eq_ediv_of_nonneg x (by decide)
theorem fd32 (x : Int) : Int.fdiv x (2 ^ 32) = x / 4294967296 := Int.fdiv_eq_ediv_of_nonneg x (by decide)
theorem fd40 (x : Int) : Int.fdiv x (2 ^ 40) = x / 1099511627776 := Int.fdiv_eq_ediv_of_nonneg x (by decide)
theorem fd48 (x : Int) : Int.fdiv x (2 ^ 48) = x / 281474976710656 := Int.fdiv_eq_ediv_of_nonneg x (by decide)
theorem fd56 (x : Int) : Int.fdiv x (2 ^ 56) = x / 72057594037927936 := Int.fdiv_eq_ediv_of_nonneg x (by decide)
theorem wrap64_id {n : Int} (h : -9223372036854775808 ≤ n ∧ n ≤ 9223372036854775807) : IntKind.wrap .i64 n = n := by rw [wrap64]; omega
section slice
variable {P : Program} {B : Base} {σ : St}
theorem repL_sub {α : Type} {E : Enc α} {T : Nat → Option (Nat × Nat)} {g : Gh} {l : List α} {vs : List Value} (h : RepL T g (l.flatMap E.pv) vs) (lo hi : Nat) : RepL T g (((l.take hi).drop lo).flatMap E.pv) ((vs.take (hi * E.sz)).drop (lo * E.sz)) := by
  have tk : ∀ (l : List α) (n : Nat), (l.take n).flatMap E.pv = (l.flatMap E.pv).take (n * E.sz) := by
    intro l
    induction l with
    | nil => intro n; simp
    | cons x l ih =>
      intro n
      cases n with
      | zero => simp
      | succ n => rw [List.take_succ_cons, List.flatMap_cons, List.flatMap_cons, ih, show (n + 1) * E.sz = E.sz + n * E.sz by rw [Nat.add_mul]; omega, ← E.len x, List.take_length_add_append]
  have dk : ∀ (l : List α) (n : Nat), (l.drop n).flatMap E.pv = (l.flatMap E.pv).drop (n * E.sz) := by
    intro l
    induction l with
    | nil => intro n; simp
    | cons x l ih =>
      intro n
      cases n with
      | zero => simp
      | succ n => rw [List.drop_succ_cons, ih, List.flatMap_cons, show (n + 1) * E.sz = E.sz + n * E.sz by rw [Nat.add_mul]; omega, ← E.len x, List.drop_length_add_append]
  rw [dk, tk]
  exact repL_drop _ (repL_take _ h)
def bO (v : Option Value) (i : Int) (d : Nat) : Prop := (∃ k, v = some (.int k i)) ∨ (v = none ∧ i = d)
theorem run_bounds {len cap : Nat} {lo hi : Option Value} {l h : Int} (w : World) (hl : bO lo l 0) (hh : bO hi h len) (h0 : 0 ≤ l) (h1 : l ≤ h) (h2 : h ≤ (len : Int)) (h3 : len ≤ cap) : (Instr.sliceBounds true len cap lo hi none).run P w = .ok (l.toNat, h.toNat, cap) w := by
  have eh : (h.toNat : Int) = h := Int.toNat_of_nonneg (by omega)
  have q1 : h ≤ (cap : Int) := by omega
  have q2 : 0 ≤ h := by omega
  rcases hl with ⟨k, rfl⟩ | ⟨rfl, rfl⟩ <;> rcases hh with ⟨k', rfl⟩ | ⟨rfl, rfl⟩ <;> simp [Instr.sliceBounds, run_sliceBound, *]
theorem run_bounds3 {len cap : Nat} {lo : Option Value} {l h m : Int} {kh km : IntKind} (w : World) (hl : bO lo l 0) (h0 : 0 ≤ l) (h1 : l ≤ h) (h2 : h ≤ m) (h3 : m ≤ (cap : Int)) : (Instr.sliceBounds true len cap lo (some (.int kh h)) (some (.int km m))).run P w = .ok (l.toNat, h.toNat, m.toNat) w := by
  have eh : (h.toNat : Int) = h := Int.toNat_of_nonneg (by omega)
  have em : (m.toNat : Int) = m := Int.toNat_of_nonneg (by omega)
  have q2 : 0 ≤ h := by omega
  have q3 : 0 ≤ m := by omega
  rcases hl with ⟨k, rfl⟩ | ⟨rfl, rfl⟩ <;> simp [Instr.sliceBounds, run_sliceBound, *]
theorem sliceH_sub {α : Type} {E : Enc α} {l : List α} {imm : Imm} {A : Option Addr} {c lo hi m : Nat} (h : sliceH E l imm (.slice A l.length c)) (h1 : lo ≤ hi) (h2 : hi ≤ l.length) (h3 : hi ≤ m) (h4 : m ≤ c) : sliceH E ((l.take hi).drop lo) imm (sliced A lo hi m E.sz) := by
  have hl : ((l.take hi).drop lo).length = hi - lo := by simp; omega
  rcases sliceH_cells h with ⟨rfl, A', c', he, hn⟩ | ⟨b, o, c', vs, he, hc, h9, hR, hi9⟩
  · simp only [Value.slice.injEq] at he
    obtain ⟨rfl, _, rfl⟩ := he
    simp only [List.length_nil] at h2
    obtain rfl : hi = 0 := by omega
    obtain rfl : lo = 0 := by omega
    obtain ⟨_, c9, e9, _, h9, _⟩ := h
    simp only [Value.slice.injEq] at e9
    have : c ≤ 9223372036854775807 := by rw [e9.2.2]; exact h9
    refine ⟨if m = 0 then A else A.map (·.add (0 * E.sz)), m, ?_, by simp, by omega, fun e => ?_, fun hne => absurd (by simp) hne⟩
    · simp [sliced]
    · by_cases hm : m = 0
      · exact hm
      · rw [if_neg hm] at e
        cases A with
        | none => have := hn rfl; omega
        | some a => cases e
  · simp only [Value.slice.injEq] at he
    obtain ⟨rfl, _, rfl⟩ := he
    unfold sliced
    by_cases hm : m = lo
    · subst hm
      obtain rfl : hi = m := by omega
      rw [if_pos rfl]
      have : (l.take hi).drop hi = [] := List.eq_nil_of_length_eq_zero (by rw [hl]; omega)
      rw [this]
      exact ⟨some ⟨b, o, none⟩, hi - hi, by simp, by simp, by omega, (fun e => nomatch e), fun hne => absurd rfl hne⟩
    · rw [if_neg hm]
      have := sliceH_of (E := E) (l := (l.take hi).drop lo) (imm := imm) (b := b) (o := o + lo * E.sz) (c := m - lo) (repL_sub hR lo hi) (fun j u hu => by
        rw [List.getElem?_drop, List.getElem?_take] at hu
        split at hu
        · have := hi9 _ _ hu
          rw [← this]
          congr 1
          omega
        · cases hu) (by omega) (by omega)
      rw [hl] at this
      simp only [Option.map_some, Addr.add_lit]
      exact this
/-- The value of a bound. -/
def isB (σ : St) (x : Option Operand) (i : Int) (d : Nat) : Prop := (∃ y k, x = some y ∧ σ.ev y = .sc (.int k i)) ∨ (x = none ∧ i = d)
theorem isB_some {y : Operand} {k : IntKind} {i : Int} {d : Nat} (h : σ.ev y = .sc (.int k i)) : isB σ (some y) i d := .inl ⟨y, k, rfl, h⟩
theorem isB_none {d : Nat} {i : Int} (h : i = d) : isB σ none i d := .inr ⟨rfl, h⟩
theorem isB_val {g : Gh} {a : Act} {w : World} (hr : Rel B σ g a w) {x : Option Operand} {i : Int} {d : Nat} (h : isB σ x i d) : bO (x.map a.eval) i d := by
  rcases h with ⟨y, k, rfl, h⟩ | ⟨rfl, h⟩
  · exact .inl ⟨k, by simp [hr.ev_sc h]⟩
  · exact .inr ⟨rfl, h⟩
theorem step_slice {α : Type} {E : Enc α} {l : List α} {o : Oper} {d : Nat} {x : Operand} {lo hi : Option Operand} {t e : TypeId} {i j : Int} {ag : Bool} (hd : o.dst = some d) (hN : Nat.blt d σ.N = true) (ho : o.op = .slice t x lo hi none) (ht : P.underlying t = some (.slice e)) (hte : Ty P e ag E.sz)
    (hx : IsSl σ x E l) (hlo : isB σ lo i 0) (hhi : isB σ hi j l.length) (hb : 0 ≤ i ∧ i ≤ j ∧ j ≤ (l.length : Int)) : OpStep P B o σ (σ.put d (.sem (SL E (sub l i j)))) :=
  step_val hd (blt hN) fun g a w hr => by
    obtain ⟨h0, h1, h2⟩ := hb
    have hs := hx _ _ _ (hr.ev x)
    have hs' := hs
    obtain ⟨A, c, he, hc, _⟩ := hs'
    rw [he] at hs
    have hel : P.elem t = e := by simp [Program.elem, ht]
    have hu : P.underlying t = some (.slice (P.elem t)) := by rw [hel]; exact ht
    refine ⟨sliced A i.toNat j.toNat c E.sz, ?_, sliceH_sub hs (by omega) (by omega) (by omega) (Nat.le_refl _)⟩
    simp only [execOp, ho, Option.map_none]
    rw [run_bind, run_sliceAt_slice w t _ _ _ _ hu, he, run_slice_any w t A l.length c hu, run_bounds w (isB_val hr hlo) (isB_val hr hhi) h0 h1 h2 hc]
    simp only [Result.andThen_ok, hel]
    rw [run_sizeOf hte]
    rfl
/-- With a capacity of its own. -/
theorem step_slice3 {α : Type} {E : Enc α} {l : List α} {o : Oper} {d : Nat} {x yh ym : Operand} {lo : Option Operand} {t e : TypeId} {i j : Int} {ag : Bool} {kh km : IntKind} (hd : o.dst = some d) (hN : Nat.blt d σ.N = true) (ho : o.op = .slice t x lo (some yh) (some ym)) (ht : P.underlying t = some (.slice e)) (hte : Ty P e ag E.sz)
    (hx : IsSl σ x E l) (hlo : isB σ lo i 0) (hhi : σ.ev yh = .sc (.int kh j)) (hmx : σ.ev ym = .sc (.int km j)) (hb : 0 ≤ i ∧ i ≤ j ∧ j ≤ (l.length : Int)) : OpStep P B o σ (σ.put d (.sem (SL E (sub l i j)))) :=
  step_val hd (blt hN) fun g a w hr => by
    obtain ⟨h0, h1, h2⟩ := hb
    have hs := hx _ _ _ (hr.ev x)
    have hs' := hs
    obtain ⟨A, c, he, hc, _⟩ := hs'
    rw [he] at hs
    have hel : P.elem t = e := by simp [Program.elem, ht]
    have hu : P.underlying t = some (.slice (P.elem t)) := by rw [hel]; exact ht
    refine ⟨sliced A i.toNat j.toNat j.toNat E.sz, ?_, sliceH_sub hs (by omega) (by omega) (by omega) (by omega)⟩
    simp only [execOp, ho, Option.map_some, hr.ev_sc hhi, hr.ev_sc hmx]
    rw [run_bind, run_sliceAt_slice w t _ _ _ _ hu, he, run_slice_any w t A l.length c hu, run_bounds3 w (isB_val hr hlo) h0 h1 (Int.le_refl _) (by omega)]
    simp only [Result.andThen_ok, hel]
    rw [run_sizeOf hte]
    rfl
theorem g_ix {α : Type} [Inhabited α] {E : Enc α} {l : List α} {o : Oper} {d : Nat} {x ii : Operand} {t e : TypeId} {ag : Bool} {n : Int} {k : IntKind} {ps : List PV} (hd : o.dst = some d) (hN : Nat.blt d σ.N = true) (ho : o.op = .indexAddr t x ii) (ht : P.underlying t = some (.slice e)) (hte : Ty P e ag E.sz) (hx : IsSl σ x E l)
    (hi : σ.ev ii = .sc (.int k n)) (hb : 0 ≤ n ∧ n < (l.length : Int)) (hp : E.pv (ix l n) = ps) : OpStep P B o σ (σ.put d (.sem (PT ps))) :=
  hp ▸ g_indexAddr hd hN ho ht hte hx hi hb.1 (ix_some hb)
end slice
end Go.Ab
namespace Go.Ab
def iand (k : IntKind) (a b : Int) : Int := k.wrap (BitVec.ofInt k.bits a &&& BitVec.ofInt k.bits b).toNat
def ior (k : IntKind) (a b : Int) : Int := k.wrap (BitVec.ofInt k.bits a ||| BitVec.ofInt k.bits b).toNat
def ixor (k : IntKind) (a b : Int) : Int := k.wrap (BitVec.ofInt k.bits a ^^^ BitVec.ofInt k.bits b).toNat
def iandNot (k : IntKind) (a b : Int) : Int := k.wrap (BitVec.ofInt k.bits a &&& ~~~(BitVec.ofInt k.bits b)).toNat
theorem ofInt_nat (n : Nat) (a : Nat) (h : a < 2 ^ n) : (BitVec.ofInt n (a : Int)).toNat = a := by
  rw [BitVec.toNat_ofInt]
  have h2 : ((2 ^ n : Nat) : Int) = (2 : Int) ^ n := by simp
  have : (a : Int) % ((2 ^ n : Nat) : Int) = a := Int.emod_eq_of_lt (by omega) (by omega)
  rw [this]; simp
/-- Both within the signed kind's numbers. -/
theorem iand64 {a b : Int} (ha : 0 ≤ a ∧ a < 9223372036854775808) (hb : 0 ≤ b ∧ b < 9223372036854775808) : iand .i64 a b = ((a.toNat &&& b.toNat : Nat) : Int) := by
  obtain ⟨m, rfl⟩ := Int.eq_ofNat_of_zero_le ha.1
  obtain ⟨n, rfl⟩ := Int.eq_ofNat_of_zero_le hb.1
  unfold iand
  rw [BitVec.toNat_and, show (BitVec.ofInt IntKind.i64.bits (m : Int)).toNat = m from ofInt_nat 64 m (by omega), show (BitVec.ofInt IntKind.i64.bits (n : Int)).toNat = n from ofInt_nat 64 n (by omega), wrap64_id]
  · simp
  · have : m &&& n ≤ m := Nat.and_le_left
    omega
theorem ior64 {a b : Int} (ha : 0 ≤ a ∧ a < 9223372036854775808) (hb : 0 ≤ b ∧ b < 9223372036854775808) : ior .i64 a b = ((a.toNat ||| b.toNat : Nat) : Int) := by
  obtain ⟨m, rfl⟩ := Int.eq_ofNat_of_zero_le ha.1
  obtain ⟨n, rfl⟩ := Int.eq_ofNat_of_zero_le hb.1
  unfold ior
  rw [BitVec.toNat_or, show (BitVec.ofInt IntKind.i64.bits (m : Int)).toNat = m from ofInt_nat 64 m (by omega), show (BitVec.ofInt IntKind.i64.bits (n : Int)).toNat = n from ofInt_nat 64 n (by omega), wrap64_id]
  · simp
  · have : m ||| n < 2 ^ 63 := Nat.or_lt_two_pow (by omega) (by omega)
    omega
theorem iand8 {a b : Int} (ha : 0 ≤ a ∧ a < 256) (hb : 0 ≤ b ∧ b < 256) : iand .u8 a b = ((a.toNat &&& b.toNat : Nat) : Int) := by
  obtain ⟨m, rfl⟩ := Int.eq_ofNat_of_zero_le ha.1
  obtain ⟨n, rfl⟩ := Int.eq_ofNat_of_zero_le hb.1
  unfold iand
  rw [BitVec.toNat_and, show (BitVec.ofInt IntKind.u8.bits (m : Int)).toNat = m from ofInt_nat 8 m (by omega), show (BitVec.ofInt IntKind.u8.bits (n : Int)).toNat = n from ofInt_nat 8 n (by omega), wrapu8]
  have : m &&& n ≤ m := Nat.and_le_left
  simp; omega
theorem ior8 {a b : Int} (ha : 0 ≤ a ∧ a < 256) (hb : 0 ≤ b ∧ b < 256) : ior .u8 a b = ((a.toNat ||| b.toNat : Nat) : Int) := by
  obtain ⟨m, rfl⟩ := Int.eq_ofNat_of_zero_le ha.1
  obtain ⟨n, rfl⟩ := Int.eq_ofNat_of_zero_le hb.1
  unfold ior
  rw [BitVec.toNat_or, show (BitVec.ofInt IntKind.u8.bits (m : Int)).toNat = m from ofInt_nat 8 m (by omega), show (BitVec.ofInt IntKind.u8.bits (n : Int)).toNat = n from ofInt_nat 8 n (by omega), wrapu8]
  have : m ||| n < 2 ^ 8 := Nat.or_lt_two_pow (by omega) (by omega)
  simp; omega
theorem iand32 {a b : Int} (ha : 0 ≤ a ∧ a < 4294967296) (hb : 0 ≤ b ∧ b < 4294967296) : iand .u32 a b = ((a.toNat &&& b.toNat : Nat) : Int) := by
  obtain ⟨m, rfl⟩ := Int.eq_ofNat_of_zero_le ha.1
  obtain ⟨n, rfl⟩ := Int.eq_ofNat_of_zero_le hb.1
  unfold iand
  rw [BitVec.toNat_and, show (BitVec.ofInt IntKind.u32.bits (m : Int)).toNat = m from ofInt_nat 32 m (by omega), show (BitVec.ofInt IntKind.u32.bits (n : Int)).toNat = n from ofInt_nat 32 n (by omega), wrapu32]
  have : m &&& n ≤ m := Nat.and_le_left
  simp; omega
theorem ior32 {a b : Int} (ha : 0 ≤ a ∧ a < 4294967296) (hb : 0 ≤ b ∧ b < 4294967296) : ior .u32 a b = ((a.toNat ||| b.toNat : Nat) : Int) := by
  obtain ⟨m, rfl⟩ := Int.eq_ofNat_of_zero_le ha.1
  obtain ⟨n, rfl⟩ := Int.eq_ofNat_of_zero_le hb.1
  unfold ior
  rw [BitVec.toNat_or, show (BitVec.ofInt IntKind.u32.bits (m : Int)).toNat = m from ofInt_nat 32 m (by omega), show (BitVec.ofInt IntKind.u32.bits (n : Int)).toNat = n from ofInt_nat 32 n (by omega), wrapu32]
  have : m ||| n < 2 ^ 32 := Nat.or_lt_two_pow (by omega) (by omega)
  simp; omega
/-- A number shifted by n, and one below 2^n. -/
theorem or_add (n a b : Nat) (h : b < 2 ^ n) : (a * 2 ^ n ||| b) = a * 2 ^ n + b := by
  rw [Nat.mul_comm, ← Nat.two_pow_add_eq_or_of_lt h]
theorem and_mask (n a : Nat) : (a &&& (2 ^ n - 1)) = a % 2 ^ n := Nat.and_two_pow_sub_one_eq_mod a n
theorem and128 : ∀ a : Nat, a < 256 → ((a &&& 128) = if 128 ≤ a then 128 else 0) := by decide +kernel
end Go.Ab
namespace Go.Ab
theorem tmod_ite (a b : Int) : Int.tmod a b = if 0 ≤ a then a % b else -((-a) % b) := by
  split
  · exact Int.tmod_eq_emod_of_nonneg (by assumption)
  · rename_i h
    have : Int.tmod (-a) b = (-a) % b := Int.tmod_eq_emod_of_nonneg (by omega)
    rw [Int.neg_tmod] at this
    omega
theorem tdiv_ite (a b : Int) : Int.tdiv a b = if 0 ≤ a then a / b else -((-a) / b) := by
  split
  · exact Int.tdiv_eq_ediv_of_nonneg (by assumption)
  · rename_i h
    have : Int.tdiv (-a) b = (-a) / b := Int.tdiv_eq_ediv_of_nonneg (by omega)
    rw [Int.neg_tdiv] at this
    omega
example (a : Nat) (h : Int.tmod ((a : Int) - 2) 4 = 0) (h2 : 2 ≤ a) : (a : Int) % 4 = 2 := by
  simp only [tmod_ite] at *
  omega
end Go.Ab
namespace Go.Ab
theorem sub_len {α : Type} (l : List α) (lo hi : Int) : (sub l lo hi).length = min hi.toNat l.length - lo.toNat := by simp [sub]
end Go.Ab
namespace Go.Ab
def gdL {α : Type} (ok : α → Prop) (l : List α) : Prop := ∀ x ∈ l, ok x
theorem gdL_nil {α : Type} {p : α → Prop} : gdL p [] := fun _ h => nomatch h
theorem gdL_cons {α : Type} {p : α → Prop} {x : α} {l : List α} (h : p x) (h' : gdL p l) : gdL p (x :: l) := List.forall_mem_cons.2 ⟨h, h'⟩
theorem gdL_app {α : Type} {p : α → Prop} {l l' : List α} (h : gdL p l) (h' : gdL p l') : gdL p (l ++ l') := fun x hx => (List.mem_append.1 hx).elim (h x) (h' x)
theorem gdL_sub {α : Type} {p : α → Prop} {l : List α} (h : gdL p l) {lo hi : Int} : gdL p (sub l lo hi) := fun x hx => h x (List.mem_of_mem_take (List.mem_of_mem_drop hx))
theorem gdL_ix {α : Type} [Inhabited α] {p : α → Prop} {l : List α} (h : gdL p l) (i : Int) (h0 : p default) : p (ix l i) := by
  unfold ix
  rw [List.getD_eq_getElem?_getD]
  cases hq : l[i.toNat]? with
  | none => exact h0
  | some x => exact h x (List.mem_of_getElem? hq)
theorem gdL_ixL {α : Type} {p : α → Prop} {l : List (List α)} (h : gdL (gdL p) l) (i : Int) : gdL p (ix l i) := gdL_ix h i gdL_nil
theorem okI8 {n : Int} : okI .u8 n ↔ 0 ≤ n ∧ n < 256 := by
  have h1 : IntKind.u8.min = 0 := rfl
  have h2 : IntKind.u8.max = 255 := rfl
  simp only [okI, Lit.wf, Bool.and_eq_true, decide_eq_true_eq, h1, h2]
  omega
theorem okI8_wrap (n : Int) : okI .u8 (IntKind.wrap .u8 n) := okI8.2 (by rw [wrapu8]; omega)
theorem ix_u8 {l : List Int} (h : gdL (okI .u8) l) (i : Int) : 0 ≤ ix l i ∧ ix l i < 256 := okI8.1 (gdL_ix h i (okI8.2 (by decide)))
theorem okL_gd {α : Type} {p : α → Prop} {l : List α} (h : okL p l) : gdL p l := h.2
theorem okLL_gd {α : Type} {p : α → Prop} {l : List (List α)} (h : okL (okL p) l) : gdL (gdL p) l := fun x hx => (h.2 x hx).2
end Go.Ab
namespace Go.Ab
theorem gdL_bif {α : Type} {p : α → Prop} {b : Bool} {x y : List α} (h : gdL p x) (h' : gdL p y) : gdL p (bif b then x else y) := by cases b; exact h'; exact h
end Go.Ab
namespace Go.Ab
theorem z1 (b : Bool) : ((!b) = true) = (b = false) := Bool.not_eq_true' b
theorem z2 (b : Bool) : ((!b) = false) = (b = true) := Bool.not_eq_false' b
theorem z3 (a b : Bool) : ((a && b) = true) = (a = true ∧ b = true) := Bool.and_eq_true a b
theorem z4 (a b : Bool) : ((a || b) = true) = (a = true ∨ b = true) := Bool.or_eq_true a b
theorem z5 (a b : Bool) : ((a && b) = false) = (a = false ∨ b = false) := propext Bool.and_eq_false_iff
theorem z6 (a b : Bool) : ((a || b) = false) = (a = false ∧ b = false) := propext Bool.or_eq_false_iff
theorem z7 : (!true) = false := rfl
theorem z8 : (!false) = true := rfl
theorem z9 (p : Prop) [Decidable p] : (decide p = true) = p := decide_eq_true_eq
theorem zA (p : Prop) [Decidable p] : (decide p = false) = ¬ p := propext decide_eq_false_iff_not
theorem zB {α : Type} (l l' : List α) : (l ++ l').length = l.length + l'.length := List.length_append
theorem zC {α : Type} (x : α) (l : List α) : (x :: l).length = l.length + 1 := rfl
theorem zD {α : Type} : ([] : List α).length = 0 := rfl
end Go.Ab
/-! Slices that are written: boxes that hold a list. -/
namespace Go.Ab
open Go.RowKit
set_option linter.unusedVariables false
set_option linter.unusedSimpArgs false
section flat
variable {α : Type} {E : Enc α}
theorem flat_take : ∀ (l : List α) (n : Nat), (l.take n).flatMap E.pv = (l.flatMap E.pv).take (n * E.sz)
  | [], n => by simp
  | x :: l, 0 => by simp
  | x :: l, n + 1 => by rw [List.take_succ_cons, List.flatMap_cons, List.flatMap_cons, flat_take l n, show (n + 1) * E.sz = E.sz + n * E.sz by rw [Nat.add_mul]; omega, ← E.len x, List.take_length_add_append]
theorem flat_drop : ∀ (l : List α) (n : Nat), (l.drop n).flatMap E.pv = (l.flatMap E.pv).drop (n * E.sz)
  | [], n => by simp
  | x :: l, 0 => by simp
  | x :: l, n + 1 => by rw [List.drop_succ_cons, flat_drop l n, List.flatMap_cons, show (n + 1) * E.sz = E.sz + n * E.sz by rw [Nat.add_mul]; omega, ← E.len x, List.drop_length_add_append]
theorem flat_at {l : List α} {i : Nat} {y : α} (h : l[i]? = some y) : ((l.flatMap E.pv).drop (i * E.sz)).take E.sz = E.pv y := by
  have := flat_take (E := E) (l.drop i) 1
  rw [flat_drop, Nat.one_mul] at this
  rw [← this]
  obtain ⟨h1, h2⟩ := List.getElem?_eq_some_iff.1 h
  rw [List.drop_eq_getElem_cons h1, h2]
  simp
theorem flat_set {l : List α} {i : Nat} (y : α) (h : i < l.length) : setCells (l.flatMap E.pv) (i * E.sz) (E.pv y) = (l.set i y).flatMap E.pv := by
  unfold setCells
  rw [E.len y, show i * E.sz + E.sz = (i + 1) * E.sz by rw [Nat.add_mul]; omega, ← flat_take, ← flat_drop, List.set_eq_take_append_cons_drop, if_pos h]
  simp
theorem flat_len (l : List α) : (l.flatMap E.pv).length = l.length * E.sz := by
  induction l with
  | nil => simp
  | cons x l ih => rw [List.flatMap_cons, List.length_append, ih, E.len x, List.length_cons, Nat.add_mul]; omega
end flat
section
variable {P : Program} {B : Base} {σ : St} {Φ : Exit → St → Prop} {α : Type} {E : Enc α}
theorem g_ixArr {o : Oper} {d s off n c off' sz : Nat} {x ix : Operand} {t e : TypeId} {ag : Bool} {k : IntKind} {i : Int} (hd : o.dst = some d) (hN : Nat.blt d σ.N = true) (ho : o.op = .indexAddr t x ix) (ht : P.underlying t = some (.slice e)) (hte : Ty P e ag sz) (hx : σ.ev x = .arr s off n c)
    (hi : σ.ev ix = .sc (.int k i)) (h0 : 0 ≤ i ∧ i < (n : Int)) (he : off + i.toNat * sz = off') : OpStep P B o σ (σ.put d (.loc s off')) :=
  step_val hd (blt hN) fun g a w hr => by
    subst he
    have h1 : a.eval x = .slice (some ⟨g.β s, off, none⟩) n c := by have := hr.ev x; rw [hx] at this; exact this
    refine ⟨.pointer (some ⟨g.β s, off + i.toNat * sz, none⟩), ?_, rfl⟩
    simp only [execOp, ho, h1, hr.ev_sc hi]
    rw [run_bind]
    have : (Instr.indexAt t (.slice (some ⟨g.β s, off, none⟩) n c) (.int k i)).run P w = .ok (.pointer (some ⟨g.β s, off + i.toNat * sz, none⟩)) w := by
      have hc : (0 ≤ i ∧ i < (n : Int)) := h0
      simp only [Instr.indexAt, asIntOf, underlying, program]
      simp only [bind, Sem.bind, Sem.run, pure, ht, hc, and_self, if_true]
      have h9 := run_sizeOf (P := P) hte w
      have h10 := run_bind (P := P) (sizeOf e) (fun z => (pure (.pointer (some ((⟨g.β s, off, none⟩ : Addr).add (i.toNat * z)))) : Sem Value)) w
      rw [h9] at h10
      refine Eq.trans h10 ?_
      show Result.ok (Value.pointer (some ((⟨g.β s, off, none⟩ : Addr).add (i.toNat * sz)))) w = _
      rw [addr_add]
    rw [this]
    rfl
theorem g_ldArr {o : Oper} {d s off : Nat} {t : TypeId} {x : Operand} {ag : Bool} {l : List α} {y : α} {p : PV} (i : Nat) (hd : o.dst = some d) (hN : Nat.blt d σ.N = true) (ho : o.op = .load t x) (ht : Ty P t ag E.sz) (hx : σ.ev x = .loc s off) (hL : σ.L s = some (l.flatMap E.pv))
    (he : off = i * E.sz) (hi : l[i]? = some y) (h1 : (ag || Nat.beq E.sz 1) = true) (hp : PV.ofCells ag (E.pv y) = p) : OpStep P B o σ (σ.put d p) := by
  subst he
  exact step_load hd (blt hN) ho ht hx hL (by rw [flat_at hi, E.len]) (or1 h1) (by rw [flat_at hi]; exact hp)
theorem g_stArr {o : Oper} {s off : Nat} {t : TypeId} {x y : Operand} {ag : Bool} {l : List α} {z : α} {p : PV} (i : Nat) (hd : o.dst = none) (ho : o.op = .store t x y) (ht : Ty P t ag E.sz) (hx : σ.ev x = .loc s off) (hy : σ.ev y = p) (hL : σ.L s = some (l.flatMap E.pv))
    (he : off = i * E.sz) (hi : i < l.length) (hk : p.okCells = true) (hz : p.cellsP = E.pv z) : OpStep P B o σ (σ.setL s (some ((l.set i z).flatMap E.pv))) := by
  subst he
  have := step_store (P := P) (B := B) (σ := σ) (p := p) hd ho ht hx hy hL hk (by rw [hz, E.len]) (by
    rw [flat_len]
    have : (i + 1) * E.sz ≤ l.length * E.sz := Nat.mul_le_mul_right _ hi
    rw [Nat.add_mul] at this
    omega)
  rw [hz, flat_set z hi] at this
  exact this
theorem g_lenArr {o : Oper} {d s off n c : Nat} {x : Operand} {t e : TypeId} (hd : o.dst = some d) (hN : Nat.blt d σ.N = true) (ho : o.op = .call { callee := .builtin .len, args := #[x], argTypes := #[t] }) (ht : P.underlying t = some (.slice e)) (hx : σ.ev x = .arr s off n c) :
    OpStep P B o σ (σ.put d (.sc (.int .i64 (n : Int)))) :=
  step_val hd (blt hN) fun g a w hr => ⟨_, by
    have h1 : a.eval x = .slice (some ⟨g.β s, off, none⟩) n c := by have := hr.ev x; rw [hx] at this; exact this
    simp only [execOp, ho, resolve]
    rw [run_bind, run_pure]
    simp only [invoke, builtin, List.map_toArray, List.map_cons, List.map_nil, h1]
    rw [run_bind]
    have : (Builtin.len_ #[t] o.type #[Value.slice (some ⟨g.β s, off, none⟩) n c]).run P w = .ok (.int .i64 (n : Int)) w := by
      simp [Builtin.len_, underlying, program, bind, Sem.bind, Sem.run, ht, pure, goInt]
    rw [this]
    rfl, rfl⟩
/-- A box that is only read from now on. -/
theorem Rel.freeze {g : Gh} {a : Act} {w : World} {s d n c : Nat} {l : List α} {ps : List PV} (hr : Rel B σ g a w) (hd : d < σ.N) (hx : σ.env d = .arr s 0 n c) (hn : n = l.length) (hL : σ.L s = some ps) (hpl : ps.take (l.length * E.sz) = l.flatMap E.pv) (hE : ∀ x, (E.pv x).map PV.strip1 = E.pv x) (hc : l.length ≤ c ∧ c ≤ 9223372036854775807) :
    ∃ g', Rel B (((σ.kill s).setL s none).put d (.sem (SL E l))) g' a w := by
  subst hn
  obtain ⟨cs, ty, hb, hps0, hno, hown⟩ := hr.box s _ hL
  have hps : RepL σ.T g (l.flatMap E.pv) (cs.toList.take (l.length * E.sz)) := by rw [← hpl]; exact repL_take _ hps0
  have hi1 : Imm.le g.imm (segImm g.imm (g.β s) 0 (cs.toList.take (l.length * E.sz))) := segImm_le fun o _ => hno o
  have hv : a.tmps.getD d (B.ext d) = .slice (some ⟨g.β s, 0, none⟩) l.length c := by have := hr.env d; rw [hx] at this; exact this
  have flatE : (l.flatMap E.pv).map PV.strip1 = l.flatMap E.pv := by
    rw [List.map_flatMap]
    congr 1
    funext x
    exact hE x
  have hR : RepL noT (gh (segImm g.imm (g.β s) 0 (cs.toList.take (l.length * E.sz)))) (l.flatMap E.pv) (cs.toList.take (l.length * E.sz)) := by
    rw [← flatE]; exact repL_strip hi1 hps
  have hsl : (SL E l).holds (segImm g.imm (g.β s) 0 (cs.toList.take (l.length * E.sz))) (.slice (some ⟨g.β s, 0, none⟩) l.length c) :=
    sliceH_of (E := E) (l := l) (b := g.β s) (o := 0) (c := c) hR (fun j u hu => segImm_at hu) hc.1 hc.2
  have lt : g.β s < w.heap.size := (Array.getElem?_eq_some_iff.1 hb).1
  have k1 : ∀ p v, Rep1 σ.T g p v → Rep1 σ.T { g with imm := segImm g.imm (g.β s) 0 (cs.toList.take (l.length * E.sz)) } (p.kill1 s) v := rep1_kill hi1 (fun _ _ => rfl) rfl
  have other : ∀ b, b ≠ g.β s → ∀ o, segImm g.imm (g.β s) 0 (cs.toList.take (l.length * E.sz)) b o = g.imm b o := by
    intro b hb' o
    unfold segImm
    rw [if_neg (fun h => hb' h.1)]
  have live : ∀ s' ps, ((σ.kill s).setL s none).L s' = some ps → s' ≠ s ∧ ∃ ps0, σ.L s' = some ps0 ∧ ps = ps0.map (PV.kill1 s) := by
    intro s' ps h
    simp only [St.setL, St.kill] at h
    cases hq : Nat.beq s' s with
    | true => rw [hq] at h; cases h
    | false =>
      rw [hq] at h
      refine ⟨fun e => by subst e; simp at hq, ?_⟩
      cases hl : σ.L s' with
      | none => rw [hl] at h; simp at h
      | some x => rw [hl] at h; exact ⟨x, rfl, by simpa using h.symm⟩
  refine ⟨{ g with imm := segImm g.imm (g.β s) 0 (cs.toList.take (l.length * E.sz)) }, ?_⟩
  have key : Rel B ((σ.kill s).setL s none) { g with imm := segImm g.imm (g.β s) 0 (cs.toList.take (l.length * E.sz)) } a w := by
    refine { size := hr.size, env := ?_, defers := hr.defers, imm := ?_, box := ?_, apart := ?_, tip := ?_, tips := hr.tips, boxtip := ?_, below := hr.below, immle := Imm.le_trans hr.immle hi1, immnew := ?_, pin := hr.pin, prv := ?_ }
    · exact fun t => rep_kill (g' := { g with imm := segImm g.imm (g.β s) 0 (cs.toList.take (l.length * E.sz)) }) (s := s) hi1 (fun _ _ => rfl) rfl (hr.env t)
    · intro b o v hv'
      simp only [segImm] at hv'
      split at hv'
      · rename_i h
        obtain ⟨rfl, h1, h2⟩ := h
        rw [cell_blk hb]
        rw [List.getElem?_take] at hv'
        split at hv'
        · simpa using hv'
        · cases hv'
      · exact hr.imm b o v hv'
    · intro s' ps h
      obtain ⟨hne, ps0, h0, rfl⟩ := live s' ps h
      obtain ⟨cs', ty', h1, h2, h3, h4⟩ := hr.box s' ps0 h0
      exact ⟨cs', ty', h1, repL_map k1 h2, fun o => (other _ (hr.apart s' s _ _ h0 hL hne) o).trans (h3 o), h4⟩
    · intro s1 s2 p1 p2 h1 h2 hne
      obtain ⟨_, q1, e1, _⟩ := live s1 p1 h1
      obtain ⟨_, q2, e2, _⟩ := live s2 p2 h2
      exact hr.apart s1 s2 _ _ e1 e2 hne
    · intro t sz m b c' h1 h2
      obtain ⟨cs', ty', h3, h4, h5, h6, h7⟩ := hr.tip t sz m b c' h1 h2
      exact ⟨cs', ty', h3, h4, h5, fun o ho => (other _ (fun e => hr.boxtip s _ t _ b c' hL h1 h2 e.symm) o).trans (h6 o ho), h7⟩
    · intro s' ps t x b c' h h2 h3
      obtain ⟨_, q1, e1, _⟩ := live s' ps h
      exact hr.boxtip s' _ t x b c' e1 h2 h3
    · intro b o v hv'
      simp only [segImm] at hv'
      split at hv'
      · rename_i h
        obtain ⟨rfl, h1, h2⟩ := h
        exact .inr hown
      · exact hr.immnew b o v hv'
    · intro k qs h
      refine (hr.prv k qs h).mono rfl rfl hi1 fun b c' h' => ?_
      obtain ⟨sz, m, k1, _⟩ := hr.prv k qs h
      exact ⟨fun o => other _ (fun e => hr.boxtip s _ k _ b c' hL k1 h' e.symm) o, rfl⟩
  exact { key with
    env := fun t => by
      show Rep σ.T _ (cond (Nat.beq t d) (.sem (SL E l)) ((σ.kill s).env t)) _
      cases hq : Nat.beq t d with
      | true => rw [Nat.eq_of_beq_eq_true hq, hv]; exact hsl
      | false => exact key.env t }
theorem al_freeze {ops : Array Oper} {rest : List Oper} {s d n c : Nat} {l : List α} {ps : List PV} (hd : Nat.blt d σ.N = true) (hx : σ.env d = .arr s 0 n c) (hn : n = l.length) (hL : σ.L s = some ps) (hpl : ps.take (l.length * E.sz) = l.flatMap E.pv) (hE : ∀ x, (E.pv x).map PV.strip1 = E.pv x) (hc : l.length ≤ c ∧ c ≤ 9223372036854775807)
    (hk : AL P B ops Φ rest (((σ.kill s).setL s none).put d (.sem (SL E l)))) : AL P B ops Φ rest σ := fun g a w hr => by
  obtain ⟨g', hr'⟩ := hr.freeze (blt hd) hx hn hL hpl hE hc
  exact hk g' a w hr'
theorem aw_freeze {code : Code} {s d n c : Nat} {l : List α} {ps : List PV} (hd : Nat.blt d σ.N = true) (hx : σ.env d = .arr s 0 n c) (hn : n = l.length) (hL : σ.L s = some ps) (hpl : ps.take (l.length * E.sz) = l.flatMap E.pv) (hE : ∀ x, (E.pv x).map PV.strip1 = E.pv x) (hc : l.length ≤ c ∧ c ≤ 9223372036854775807)
    (hk : AW P B code Φ (((σ.kill s).setL s none).put d (.sem (SL E l)))) : AW P B code Φ σ := fun g a w hr => by
  obtain ⟨g', hr'⟩ := hr.freeze (blt hd) hx hn hL hpl hE hc
  exact hk g' a w hr'
end
end Go.Ab
/-! Slices that are made. -/
namespace Go.Ab
open Go.RowKit
set_option linter.unusedVariables false
set_option linter.unusedSimpArgs false
def zeroRow (z : Array Value) (n : Nat) : Array Value := (Array.range (n * z.size)).map (z[· % z.size]!)
theorem zeroRow_list {z : Array Value} : ∀ n : Nat, (zeroRow z n).toList = (List.replicate n z.toList).flatten
  | 0 => by simp [zeroRow]
  | n + 1 => by
    rw [List.replicate_succ', List.flatten_append, ← zeroRow_list n]
    simp only [zeroRow, Array.toList_map, Array.toList_range, List.flatten_cons, List.flatten_nil, List.append_nil]
    rw [Nat.add_mul, Nat.one_mul, List.range_add, List.map_append]
    congr 1
    rw [List.map_map]
    apply List.ext_getElem
    · simp
    · intro i h1 h2
      simp only [List.length_map, List.length_range] at h1
      simp only [List.getElem_map, List.getElem_range, Function.comp]
      have : (n * z.size + i) % z.size = i := by
        rw [Nat.add_comm, Nat.add_mul_mod_self_right, Nat.mod_eq_of_lt h1]
      rw [this, getElem!_pos z i h1]
      simp
theorem repL_repl {T : Nat → Option (Nat × Nat)} {g : Gh} {qs : List PV} {vs : List Value} (h : RepL T g qs vs) : ∀ n : Nat, RepL T g ((List.replicate n qs).flatten) ((List.replicate n vs).flatten)
  | 0 => rfl
  | n + 1 => by
    rw [List.replicate_succ, List.replicate_succ, List.flatten_cons, List.flatten_cons]
    have app : ∀ {ps : List PV} {us : List Value} {ps' : List PV} {us' : List Value}, RepL T g ps us → RepL T g ps' us' → RepL T g (ps ++ ps') (us ++ us') := by
      intro ps
      induction ps with
      | nil => intro us ps' us' h h'; obtain rfl := h; exact h'
      | cons p ps ih => rintro us ps' us' ⟨v, vs', rfl, h1, h2, h3⟩ h'; exact ⟨v, _, rfl, h1, h2, ih h3 h'⟩
    exact app h (repL_repl h n)
theorem flat_repl {α : Type} {E : Enc α} (x : α) : ∀ n : Nat, (List.replicate n x).flatMap E.pv = (List.replicate n (E.pv x)).flatten
  | 0 => rfl
  | n + 1 => by rw [List.replicate_succ, List.flatMap_cons, List.replicate_succ, List.flatten_cons, flat_repl x n]
section
variable {P : Program} {B : Base} {σ : St} {Φ : Exit → St → Prop} {α : Type} {E : Enc α}
theorem run_makeSlice {t e : TypeId} {sz bytes : Nat} {z : Value} {k k' : IntKind} {n : Int} (hel : Elt P t e sz bytes) (hz : (P.info? e).map (·.zero) = some (some z)) (h0 : 0 ≤ n ∧ n ≤ 140737488355328) (hb : n * bytes ≤ 140737488355328) (w : World) :
    (Instr.makeSlice t (.int k n) (.int k' n)).run P w = .ok (.slice (some ⟨w.heap.size, 0, none⟩) n.toNat n.toNat) (w.alloc (.cells (zeroRow z.cells n.toNat) e)) := by
  obtain ⟨i, z', hi, hz', hsz, hbyt, hzs, hz1⟩ := hel.get
  obtain rfl : z' = z := by rw [hi] at hz; simp only [Option.map_some, hz', Option.some.injEq] at hz; exact hz
  obtain ⟨hpos, hbp⟩ := hel.pos
  have hw : IntKind.wrap .i64 n = n := wrap64_id (by omega)
  have hbn : (bytes : Int) * n = n * bytes := Int.mul_comm _ _
  have t1 : ¬ ((n < 0) ∨ ((bytes : Int) * n > 281474976710656)) := by rw [hbn]; omega
  have hroom : ¬ (n.toNat * bytes > 140737488355328) := by
    have : ((n.toNat * bytes : Nat) : Int) = n * bytes := by rw [Int.natCast_mul, Int.toNat_of_nonneg h0.1]
    omega
  have hrow : (Array.range (n.toNat * sz)).map ((if n.toNat * sz = 0 then #[] else z'.cells)[· % (if n.toNat * sz = 0 then #[] else z'.cells).size]!) = zeroRow z'.cells n.toNat := by
    by_cases hn : n.toNat * sz = 0
    · rw [if_pos hn, hn]
      have : n.toNat = 0 := by rcases Nat.mul_eq_zero.1 hn with h | h; exact h; omega
      rw [this]
      unfold zeroRow
      rw [Nat.zero_mul]
      apply Array.ext'
      simp
    · rw [if_neg hn]
      unfold zeroRow
      rw [hzs]
  have hmk : ∀ zz : Array Value, zz = (if n.toNat * sz = 0 then #[] else z'.cells) → (do let a ← newRow e ((Array.range (n.toNat * sz)).map (zz[· % zz.size]!)); pure (.slice (some a) n.toNat n.toNat) : Sem Value).run P w = .ok (.slice (some ⟨w.heap.size, 0, none⟩) n.toNat n.toNat) (w.alloc (.cells (zeroRow z'.cells n.toNat) e)) := by
    intro zz hzz
    rw [hzz, hrow]
    rfl
  simp only [Instr.makeSlice]
  have ha : ∀ k : IntKind, (asInt (.int k n)).run P w = .ok n w := fun _ => rfl
  rw [run_bind, run_underlying hel.und]
  simp only
  rw [run_bind, ha]
  simp only
  rw [run_bind, ha]
  simp only
  rw [run_bind]
  have hinfo : (typeInfo e).run P w = .ok i w := by simp [typeInfo, program, bind, Sem.bind, Sem.run, hi, pure]
  rw [hinfo]
  simp only [hw, hbyt]
  have c1 : decide ((bytes : Int) * n > 2 ^ 48) = false := decide_eq_false (by rw [hbn]; omega)
  have c2 : decide (n < 0) = false := decide_eq_false (by omega)
  have c3 : decide (n > n) = false := decide_eq_false (by omega)
  simp only [c1, c2, c3, Bool.or_self, Bool.false_eq_true, if_false]
  rw [run_bind]
  have hask : (askRoom (n.toNat * bytes)).run P w = .ok () w := by
    unfold askRoom roomBytes
    rw [if_neg hroom]
    rfl
  rw [hask]
  simp only
  rw [run_bind]
  have hs2 : (sizeOf e).run P w = .ok sz w := by simp [sizeOf, typeInfo, program, bind, Sem.bind, Sem.run, hi, pure, hsz]
  rw [hs2]
  simp only
  by_cases hn : n.toNat * sz = 0
  · rw [if_pos hn]
    have := hmk #[] (by rw [if_pos hn])
    rw [run_bind, run_pure]
    exact this
  · rw [if_neg hn]
    have hzv : (zeroValue e).run P w = .ok z' w := by
      simp [zeroValue, typeInfo, program, bind, Sem.bind, Sem.run, hi, hz', pure]
    rw [run_bind, hzv]
    simp only
    rw [run_bind, run_pure]
    exact hmk z'.cells (by rw [if_neg hn])
theorem zero_rep {z : Value} {g : Gh} {T : Nat → Option (Nat × Nat)} {x : α} (h1 : z.cells.toList.all (·.oneCell') = true) (hx : WkL (z.cells.toList.map PV.sc) (E.pv x)) (n : Nat) : RepL T g ((List.replicate n x).flatMap E.pv) (zeroRow z.cells n).toList := by
  rw [zeroRow_list, flat_repl]
  refine repL_repl (wk_repL hx ?_) n
  have : ∀ vs : List Value, vs.all (·.oneCell') = true → RepL T g (vs.map PV.sc) vs := by
    intro vs
    induction vs with
    | nil => intro _; rfl
    | cons v vs ih =>
      intro h
      simp only [List.all_cons, Bool.and_eq_true] at h
      exact ⟨v, vs, rfl, rfl, h.1, ih h.2⟩
  exact this _ h1
/-- A slice is made, to be written. -/
theorem g_makeArr {o : Oper} {d s bytes m : Nat} {t e : TypeId} {x y : Operand} {k k' : IntKind} {n : Int} {z : Value} {v : α} (hd : o.dst = some d) (hN : Nat.blt d σ.N = true) (ho : o.op = .makeSlice t x y) (hp : B.pin s = none) (hel : Elt P t e E.sz bytes) (hz : (P.info? e).map (·.zero) = some (some z)) (h1 : z.cells.toList.all (·.oneCell') = true)
    (hx : σ.ev x = .sc (.int k n)) (hy : σ.ev y = .sc (.int k' n)) (hv : WkL (z.cells.toList.map PV.sc) (E.pv v)) (hE : ∀ x, (E.pv x).map (PV.kill1 s) = E.pv x) (h0 : 0 ≤ n ∧ n ≤ 140737488355328) (hb : n * bytes ≤ 140737488355328) (hm : n.toNat = m) :
    OpStep P B o σ (((σ.kill s).setL s (some ((List.replicate m v).flatMap E.pv))).put d (.arr s 0 m m)) := by
  subst hm
  intro g a w hr K Q hK
  have hxv := hr.ev_sc hx
  have hyv := hr.ev_sc hy
  have hrun : (execOp a.eval o).run P w = .ok (.value (.slice (some ⟨w.heap.size, 0, none⟩) n.toNat n.toNat)) (w.alloc (.cells (zeroRow z.cells n.toNat) e)) := by
    simp only [execOp, ho, hxv, hyv]
    rw [run_bind, run_makeSlice hel hz h0 hb]
    rfl
  unfold Oper.wp
  rw [hrun]
  show K (a.put o.dst _) _
  rw [hd]
  have hn := hr.newBox e hp (zero_rep (E := E) (x := v) h1 hv n.toNat) (cs := zeroRow z.cells n.toNat)
  have hfl : ((List.replicate n.toNat v).flatMap E.pv).map (PV.kill1 s) = (List.replicate n.toNat v).flatMap E.pv := by
    rw [List.map_flatMap]
    congr 1
    funext x
    exact hE x
  rw [hfl] at hn
  refine hK _ _ _ (hn.put (blt hN) ?_)
  show _ = _
  simp
/-- A slice is made that is only read. -/
theorem g_makeSl {o : Oper} {d bytes m : Nat} {t e : TypeId} {x y : Operand} {k k' : IntKind} {n : Int} {z : Value} {v : α} (hd : o.dst = some d) (hN : Nat.blt d σ.N = true) (ho : o.op = .makeSlice t x y) (hel : Elt P t e E.sz bytes) (hz : (P.info? e).map (·.zero) = some (some z)) (h1 : z.cells.toList.all (·.oneCell') = true)
    (hx : σ.ev x = .sc (.int k n)) (hy : σ.ev y = .sc (.int k' n)) (hv : WkL (z.cells.toList.map PV.sc) (E.pv v)) (h0 : 0 ≤ n ∧ n ≤ 140737488355328) (hb : n * bytes ≤ 140737488355328) (hm : n.toNat = m) :
    OpStep P B o σ (σ.put d (.sem (SL E (List.replicate m v)))) := by
  subst hm
  intro g a w hr K Q hK
  have hxv := hr.ev_sc hx
  have hyv := hr.ev_sc hy
  have hrun : (execOp a.eval o).run P w = .ok (.value (.slice (some ⟨w.heap.size, 0, none⟩) n.toNat n.toNat)) (w.alloc (.cells (zeroRow z.cells n.toNat) e)) := by
    simp only [execOp, ho, hxv, hyv]
    rw [run_bind, run_makeSlice hel hz h0 hb]
    rfl
  have hnone : ∀ o, g.imm w.heap.size o = none := fun o => by
    cases hq : g.imm w.heap.size o with
    | none => rfl
    | some u => have := hr.lt_imm hq; omega
  have hi1 : Imm.le g.imm (segImm g.imm w.heap.size 0 (zeroRow z.cells n.toNat).toList) := segImm_le fun o _ => hnone o
  have hr' := hr.called (w' := w.alloc (.cells (zeroRow z.cells n.toNat) e)) hi1 (by
    intro b' o' v hv
    simp only [segImm] at hv
    split at hv
    · rename_i hc
      obtain ⟨rfl, h1, h2⟩ := hc
      rw [cell_blk (heap_alloc_new w _)]
      simpa using hv
    · rw [cell_eq (Below.heap_alloc w _ b' (hr.lt_imm hv))]; exact hr.imm b' o' v hv) (by
    intro b' o' v hv
    simp only [segImm] at hv
    split at hv
    · rename_i hc; exact .inr (by omega)
    · exact .inl hv) (Below.alloc (Below.refl _ _) (Nat.le_refl _) _)
  unfold Oper.wp
  rw [hrun]
  show K (a.put o.dst _) _
  rw [hd]
  refine hK _ _ _ (hr'.put (blt hN) ?_)
  have := sliceH_of (E := E) (l := List.replicate n.toNat v) (b := w.heap.size) (o := 0) (c := n.toNat) (zero_rep (E := E) (x := v) (T := noT) (g := gh (segImm g.imm w.heap.size 0 (zeroRow z.cells n.toNat).toList)) h1 hv n.toNat) (fun j u hu => segImm_at hu) (by simp) (by omega)
  rw [List.length_replicate] at this
  exact this
end
end Go.Ab
namespace Go.Ab
open Go.RowKit
set_option linter.unusedVariables false
set_option linter.unusedSimpArgs false
theorem run_part {P : Program} {t n : Nat} {ag : Bool} (h4 : Ty P t ag n) (vs : List Value) (off : Nat) (hle : off + n ≤ vs.length) (h1 : ag = false → n = 1) (w : World) : (part t vs.toArray off).run P w = .ok (if ag then .agg ((vs.drop off).take n).toArray else ((vs.drop off).take n).headD undef) w := by
  unfold part
  rw [run_bind, run_isAgg h4]
  cases ag with
  | true =>
    simp only [if_true]
    rw [run_bind, run_sizeOf h4]
    simp only [run_pure]
    congr 2
    apply Array.ext'
    simp
  | false =>
    obtain rfl := h1 rfl
    simp only [Bool.false_eq_true, if_false]
    have hlt : off < vs.length := by omega
    simp only [List.getElem?_toArray, List.getElem?_eq_getElem hlt]
    rw [run_pure, List.drop_eq_getElem_cons hlt]
    rfl
section
variable {P : Program} {d : Nat} {t : TypeId} {w : World}
theorem eq_int {k : IntKind} {a b : Int} (hu : P.underlying t = some (.int k)) : (Op.equalIn (d + 1) t (.int k a) (.int k b)).run P w = .ok (decide (a = b)) w := by
  simp only [Op.equalIn, underlying, program]
  simp only [bind, Sem.bind, Sem.run, hu, pure, if_true]
  rfl
theorem eq_bool {a b : Bool} (hu : P.underlying t = some .bool) : (Op.equalIn (d + 1) t (.bool a) (.bool b)).run P w = .ok (decide (a = b)) w := by
  simp only [Op.equalIn, underlying, program]
  simp only [bind, Sem.bind, Sem.run, hu, pure]
  rfl
theorem eq_ptr {e : TypeId} {a : Addr} (hu : P.underlying t = some (.pointer e)) : (Op.equalIn (d + 1) t (.pointer (some a)) (.pointer none)).run P w = .ok false w := by
  simp only [Op.equalIn, underlying, program]
  simp [bind, Sem.bind, Sem.run, hu, pure]
theorem eq_ptn {e : TypeId} (hu : P.underlying t = some (.pointer e)) : (Op.equalIn (d + 1) t (.pointer none) (.pointer none)).run P w = .ok true w := by
  simp only [Op.equalIn, underlying, program]
  simp [bind, Sem.bind, Sem.run, hu, pure]
theorem eq_str {a b : ByteArray} (hu : P.underlying t = some .string) : (Op.equalIn (d + 1) t (.string a) (.string b)).run P w = .ok (decide (a = b)) w := by
  simp only [Op.equalIn, underlying, program]
  simp only [bind, Sem.bind, Sem.run, hu, pure]
  congr 1
  rw [Bool.eq_iff_iff, decide_eq_true_iff]
  cases a with
  | mk x => cases b with
    | mk y => exact (beq_iff_eq (a := x) (b := y)).trans ⟨fun h => by rw [h], fun h => by cases h; rfl⟩
theorem eqf_nil {xs ys : List Value} : (Op.eqFields d xs.toArray ys.toArray []).run P w = .ok true w := by simp [Op.eqFields]
theorem eqf_c {f : Field} {fs : List Field} {xs ys : List Value} {off n : Nat} {ag : Bool} {a b : Value} {r s : Bool} (hn : (f.name == "_") = false) (ht : Ty P f.type ag n) (ho : f.offset = off) (hx : Nat.ble (off + n) xs.length = true) (hy : Nat.ble (off + n) ys.length = true) (h1 : (ag || Nat.beq n 1) = true)
    (ha : (if ag then Value.agg ((xs.drop off).take n).toArray else ((xs.drop off).take n).headD undef) = a) (hb : (if ag then Value.agg ((ys.drop off).take n).toArray else ((ys.drop off).take n).headD undef) = b)
    (he : (Op.equalIn d f.type a b).run P w = .ok r w) (hr : (Op.eqFields d xs.toArray ys.toArray fs).run P w = .ok s w) : (Op.eqFields d xs.toArray ys.toArray (f :: fs)).run P w = .ok (r && s) w := by
  subst ho
  have hn' : f.name ≠ "_" := by simpa using hn
  have p1 := run_part ht xs f.offset (Nat.le_of_ble_eq_true hx) (or1 h1) w
  have p2 := run_part ht ys f.offset (Nat.le_of_ble_eq_true hy) (or1 h1) w
  rw [ha] at p1
  rw [hb] at p2
  rw [Op.eqFields]
  simp only [if_pos hn']
  rw [run_bind, p1]
  simp only []
  rw [run_bind, p2]
  simp only []
  rw [run_bind, he]
  cases r
  · rfl
  · simpa using hr
theorem eq_struct {fs : List Field} {xs ys : List Value} {r r' : Bool} (hu : P.underlying t = some (.struct fs.toArray)) (hp : P.stoodInHeld t = false) (h : (Op.eqFields d xs.toArray ys.toArray fs).run P w = .ok r w) (e : r = r') : (Op.equalIn (d + 1) t (.agg xs.toArray) (.agg ys.toArray)).run P w = .ok r' w := by
  subst e
  have hf : P.fieldsOf t = fs.toArray := by simp [Program.fieldsOf, hu]
  rw [run_equalIn_struct (P := P) w d t xs.toArray ys.toArray (by rw [hf]; exact hu) hp, hf]
  exact h
end
theorem repL_scs {T : Nat → Option (Nat × Nat)} {g : Gh} : ∀ {us vs : List Value}, RepL T g (us.map PV.sc) vs → vs = us
  | [], vs, h => h
  | u :: us, vs, ⟨v, vs', e, h1, _, h3⟩ => by
    have h1 : v = u := h1
    rw [e, h1, repL_scs h3]
section
variable {P : Program} {B : Base} {σ : St}
theorem g_eqA {o : Oper} {d : Nat} {t t' : TypeId} {x y : Operand} {us vs : List Value} {r : Bool} (hd : o.dst = some d) (hN : Nat.blt d σ.N = true) (ho : o.op = .binOp .eql t x y t') (hx : σ.ev x = .agg (us.map .sc)) (hy : σ.ev y = .agg (vs.map .sc))
    (hg : P.eqGuardType P.depth t = false) (h : ∀ w, (Op.equalIn 10000 t (.agg us.toArray) (.agg vs.toArray)).run P w = .ok r w) : OpStep P B o σ (σ.put d (.sc (.bool r))) :=
  step_val hd (blt hN) fun g a w hr => by
    have h1 := hr.ev x
    have h2 := hr.ev y
    rw [hx] at h1
    rw [hy] at h2
    obtain ⟨xs, e1, r1⟩ := rep_agg h1
    obtain ⟨ys, e2, r2⟩ := rep_agg h2
    obtain rfl := repL_scs r1
    obtain rfl := repL_scs r2
    refine ⟨.bool r, ?_, rfl⟩
    have hgd : (eqGuard .eql t x y (.agg xs.toArray) (.agg ys.toArray)).run P w = .ok () w := by
      simp [eqGuard, program, bind, Sem.bind, Sem.run, hg, pure]
    have hb : (binOp .eql t (.agg xs.toArray) (.agg ys.toArray)).run P w = .ok (.bool r) w := by
      show (do pure (Value.bool (← Op.equal t (.agg xs.toArray) (.agg ys.toArray))) : Sem Value).run P w = _
      have e3 := run_bind (P := P) (Op.equal t (.agg xs.toArray) (.agg ys.toArray)) (fun b => (pure (.bool b) : Sem Value)) w
      have e4 : (Op.equal t (.agg xs.toArray) (.agg ys.toArray)).run P w = .ok r w := h w
      rw [e4] at e3
      exact e3
    have hin : (do eqGuard .eql t x y (.agg xs.toArray) (.agg ys.toArray); binOp .eql t (.agg xs.toArray) (.agg ys.toArray) : Sem Value).run P w = .ok (.bool r) w := by
      rw [run_bind, hgd]
      exact hb
    simp only [execOp, ho, e1, e2]
    rw [run_bind, hin]
    rfl
theorem g_neA {o : Oper} {d : Nat} {t t' : TypeId} {x y : Operand} {us vs : List Value} {r : Bool} (hd : o.dst = some d) (hN : Nat.blt d σ.N = true) (ho : o.op = .binOp .neq t x y t') (hx : σ.ev x = .agg (us.map .sc)) (hy : σ.ev y = .agg (vs.map .sc))
    (hg : P.eqGuardType P.depth t = false) (h : ∀ w, (Op.equalIn 10000 t (.agg us.toArray) (.agg vs.toArray)).run P w = .ok r w) : OpStep P B o σ (σ.put d (.sc (.bool (!r)))) :=
  step_val hd (blt hN) fun g a w hr => by
    have h1 := hr.ev x
    have h2 := hr.ev y
    rw [hx] at h1
    rw [hy] at h2
    obtain ⟨xs, e1, r1⟩ := rep_agg h1
    obtain ⟨ys, e2, r2⟩ := rep_agg h2
    obtain rfl := repL_scs r1
    obtain rfl := repL_scs r2
    refine ⟨.bool (!r), ?_, rfl⟩
    have hgd : (eqGuard .neq t x y (.agg xs.toArray) (.agg ys.toArray)).run P w = .ok () w := by
      simp [eqGuard, program, bind, Sem.bind, Sem.run, hg, pure]
    have hb : (binOp .neq t (.agg xs.toArray) (.agg ys.toArray)).run P w = .ok (.bool (!r)) w := by
      show (do pure (Value.bool (!(← Op.equal t (.agg xs.toArray) (.agg ys.toArray)))) : Sem Value).run P w = _
      have e3 := run_bind (P := P) (Op.equal t (.agg xs.toArray) (.agg ys.toArray)) (fun b => (pure (.bool (!b)) : Sem Value)) w
      have e4 : (Op.equal t (.agg xs.toArray) (.agg ys.toArray)).run P w = .ok r w := h w
      rw [e4] at e3
      exact e3
    have hin : (do eqGuard .neq t x y (.agg xs.toArray) (.agg ys.toArray); binOp .neq t (.agg xs.toArray) (.agg ys.toArray) : Sem Value).run P w = .ok (.bool (!r)) w := by
      rw [run_bind, hgd]
      exact hb
    simp only [execOp, ho, e1, e2]
    rw [run_bind, hin]
    rfl
theorem g_eqB {o : Oper} {d : Nat} {t t' : TypeId} {x y : Operand} {a b : Bool} (hd : o.dst = some d) (hN : Nat.blt d σ.N = true) (ho : o.op = .binOp .eql t x y t') (hu : P.underlying t = some .bool) (hx : σ.ev x = .sc (.bool a)) (hy : σ.ev y = .sc (.bool b)) : OpStep P B o σ (σ.put d (.sc (.bool (decide (a = b))))) :=
  g_bin hd hN ho hx hy fun w => by
    have h1 : (eqGuard .eql t x y (.bool a) (.bool b)).run P w = .ok () w := by simp [eqGuard, pure, Sem.run]
    rw [run_bind, h1]
    show (do pure (Value.bool (← Op.equal t (.bool a) (.bool b))) : Sem Value).run P w = _
    have e3 := run_bind (P := P) (Op.equal t (.bool a) (.bool b)) (fun b => (pure (.bool b) : Sem Value)) w
    have e4 : (Op.equal t (.bool a) (.bool b)).run P w = .ok (decide (a = b)) w := eq_bool (d := 9999) hu
    rw [e4] at e3
    exact e3
theorem g_neB {o : Oper} {d : Nat} {t t' : TypeId} {x y : Operand} {a b : Bool} (hd : o.dst = some d) (hN : Nat.blt d σ.N = true) (ho : o.op = .binOp .neq t x y t') (hu : P.underlying t = some .bool) (hx : σ.ev x = .sc (.bool a)) (hy : σ.ev y = .sc (.bool b)) : OpStep P B o σ (σ.put d (.sc (.bool (!decide (a = b))))) :=
  g_bin hd hN ho hx hy fun w => by
    have h1 : (eqGuard .neq t x y (.bool a) (.bool b)).run P w = .ok () w := by simp [eqGuard, pure, Sem.run]
    rw [run_bind, h1]
    show (do pure (Value.bool (!(← Op.equal t (.bool a) (.bool b)))) : Sem Value).run P w = _
    have e3 := run_bind (P := P) (Op.equal t (.bool a) (.bool b)) (fun b => (pure (.bool (!b)) : Sem Value)) w
    have e4 : (Op.equal t (.bool a) (.bool b)).run P w = .ok (decide (a = b)) w := eq_bool (d := 9999) hu
    rw [e4] at e3
    exact e3
theorem g_eqP {o : Oper} {d : Nat} {t t' e : TypeId} {x y : Operand} {s off : Nat} (hd : o.dst = some d) (hN : Nat.blt d σ.N = true) (ho : o.op = .binOp .eql t x y t') (hu : P.underlying t = some (.pointer e)) (hx : σ.ev x = .loc s off) (hy : σ.ev y = .sc (.pointer none)) : OpStep P B o σ (σ.put d (.sc (.bool false))) :=
  step_val hd (blt hN) fun g a w hr => by
    have h1 := hr.ev x
    have h2 := hr.ev y
    rw [hx] at h1
    rw [hy] at h2
    have h1 : _ = Value.pointer (some ⟨g.β s, off, none⟩) := h1
    have h2 : _ = Value.pointer none := h2
    refine ⟨.bool false, ?_, rfl⟩
    have hin : (do eqGuard .eql t x y (.pointer (some ⟨g.β s, off, none⟩)) (.pointer none); binOp .eql t (.pointer (some ⟨g.β s, off, none⟩)) (.pointer none) : Sem Value).run P w = .ok (.bool false) w := by
      have hg : (eqGuard .eql t x y (.pointer (some ⟨g.β s, off, none⟩)) (.pointer none)).run P w = .ok () w := by simp [eqGuard, pure, Sem.run]
      rw [run_bind, hg]
      show (do pure (Value.bool (← Op.equal t (.pointer (some ⟨g.β s, off, none⟩)) (.pointer none))) : Sem Value).run P w = _
      have e3 := run_bind (P := P) (Op.equal t (.pointer (some ⟨g.β s, off, none⟩)) (.pointer none)) (fun b => (pure (.bool b) : Sem Value)) w
      have e4 : (Op.equal t (.pointer (some ⟨g.β s, off, none⟩)) (.pointer none)).run P w = .ok false w := eq_ptr (d := 9999) hu
      rw [e4] at e3
      exact e3
    simp only [execOp, ho, h1, h2]
    rw [run_bind, hin]
    rfl
theorem g_neP {o : Oper} {d : Nat} {t t' e : TypeId} {x y : Operand} {s off : Nat} (hd : o.dst = some d) (hN : Nat.blt d σ.N = true) (ho : o.op = .binOp .neq t x y t') (hu : P.underlying t = some (.pointer e)) (hx : σ.ev x = .loc s off) (hy : σ.ev y = .sc (.pointer none)) : OpStep P B o σ (σ.put d (.sc (.bool true))) :=
  step_val hd (blt hN) fun g a w hr => by
    have h1 := hr.ev x
    have h2 := hr.ev y
    rw [hx] at h1
    rw [hy] at h2
    have h1 : _ = Value.pointer (some ⟨g.β s, off, none⟩) := h1
    have h2 : _ = Value.pointer none := h2
    refine ⟨.bool true, ?_, rfl⟩
    have hin : (do eqGuard .neq t x y (.pointer (some ⟨g.β s, off, none⟩)) (.pointer none); binOp .neq t (.pointer (some ⟨g.β s, off, none⟩)) (.pointer none) : Sem Value).run P w = .ok (.bool true) w := by
      have hg : (eqGuard .neq t x y (.pointer (some ⟨g.β s, off, none⟩)) (.pointer none)).run P w = .ok () w := by simp [eqGuard, pure, Sem.run]
      rw [run_bind, hg]
      show (do pure (Value.bool (!(← Op.equal t (.pointer (some ⟨g.β s, off, none⟩)) (.pointer none)))) : Sem Value).run P w = _
      have e3 := run_bind (P := P) (Op.equal t (.pointer (some ⟨g.β s, off, none⟩)) (.pointer none)) (fun b => (pure (.bool (!b)) : Sem Value)) w
      have e4 : (Op.equal t (.pointer (some ⟨g.β s, off, none⟩)) (.pointer none)).run P w = .ok false w := eq_ptr (d := 9999) hu
      rw [e4] at e3
      exact e3
    simp only [execOp, ho, h1, h2]
    rw [run_bind, hin]
    rfl
theorem g_eqPn {o : Oper} {d : Nat} {t t' e : TypeId} {x y : Operand} (hd : o.dst = some d) (hN : Nat.blt d σ.N = true) (ho : o.op = .binOp .eql t x y t') (hu : P.underlying t = some (.pointer e)) (hx : σ.ev x = .sc (.pointer none)) (hy : σ.ev y = .sc (.pointer none)) : OpStep P B o σ (σ.put d (.sc (.bool true))) :=
  g_bin hd hN ho hx hy fun w => by
    have h1 : (eqGuard .eql t x y (.pointer none) (.pointer none)).run P w = .ok () w := by simp [eqGuard, pure, Sem.run]
    rw [run_bind, h1]
    show (do pure (Value.bool (← Op.equal t (.pointer none) (.pointer none))) : Sem Value).run P w = _
    have e3 := run_bind (P := P) (Op.equal t (.pointer none) (.pointer none)) (fun b => (pure (.bool b) : Sem Value)) w
    have e4 : (Op.equal t (.pointer none) (.pointer none)).run P w = .ok true w := eq_ptn (d := 9999) hu
    rw [e4] at e3
    exact e3
theorem g_nePn {o : Oper} {d : Nat} {t t' e : TypeId} {x y : Operand} (hd : o.dst = some d) (hN : Nat.blt d σ.N = true) (ho : o.op = .binOp .neq t x y t') (hu : P.underlying t = some (.pointer e)) (hx : σ.ev x = .sc (.pointer none)) (hy : σ.ev y = .sc (.pointer none)) : OpStep P B o σ (σ.put d (.sc (.bool false))) :=
  g_bin hd hN ho hx hy fun w => by
    have h1 : (eqGuard .neq t x y (.pointer none) (.pointer none)).run P w = .ok () w := by simp [eqGuard, pure, Sem.run]
    rw [run_bind, h1]
    show (do pure (Value.bool (!(← Op.equal t (.pointer none) (.pointer none)))) : Sem Value).run P w = _
    have e3 := run_bind (P := P) (Op.equal t (.pointer none) (.pointer none)) (fun b => (pure (.bool (!b)) : Sem Value)) w
    have e4 : (Op.equal t (.pointer none) (.pointer none)).run P w = .ok true w := eq_ptn (d := 9999) hu
    rw [e4] at e3
    exact e3
end
end Go.Ab
namespace Go.Ab
open Go.RowKit
set_option linter.unusedVariables false
set_option linter.unusedSimpArgs false
def capPV : Option Nat → PV
  | some s => .loc s 0
  | none => .sc (.pointer none)
theorem rep_capPV {T : Nat → Option (Nat × Nat)} {g : Gh} (x : Option Nat) : Rep T g (capPV x) (cap g.β x) := by
  cases x <;> exact rfl
section
variable {P : Program} {B : Base} {σ : St} {Φ : Exit → St → Prop}
theorem caps_eq {g : Gh} {a : Act} {w : World} (hr : Rel B σ g a w) : ∀ {xs : List Operand} {ls : List (Option Nat)}, xs.map σ.ev = ls.map capPV → xs.map a.eval = ls.map (cap g.β)
  | [], [], _ => rfl
  | [], _ :: _, h => by cases h
  | _ :: _, [], h => by cases h
  | x :: xs, l :: ls, h => by
    simp only [List.map_cons, List.cons.injEq] at h ⊢
    refine ⟨?_, caps_eq hr h.2⟩
    have := hr.ev x
    rw [h.1] at this
    cases l <;> exact this
/-- A function is made. -/
theorem g_makeFunc {o : Oper} {d f : Nat} {xs : List Operand} {ls : List (Option Nat)} (hd : o.dst = some d) (hN : Nat.blt d σ.N = true) (ho : o.op = .makeFunc (.func f) #[] xs.toArray) (hx : xs.map σ.ev = ls.map capPV) : OpStep P B o σ (σ.put d (.clo f ls)) :=
  step_val hd (blt hN) fun g a w hr => by
    refine ⟨.func (.func f) #[] (ls.map (cap g.β)).toArray, ?_, rfl⟩
    have := caps_eq hr hx
    simp [execOp, ho, Instr.makeFunc, pure, bind, Sem.bind, ← this]
theorem g_nilCheck {o : Oper} {d s off : Nat} {x : Operand} (hd : o.dst = some d) (hN : Nat.blt d σ.N = true) (ho : o.op = .nilCheck x) (hx : σ.ev x = .loc s off) : OpStep P B o σ (σ.put d (.loc s off)) :=
  step_val hd (blt hN) fun g a w hr => by
    have h := hr.ev x
    rw [hx] at h
    have h : a.eval x = .pointer (some ⟨g.β s, off, none⟩) := h
    exact ⟨_, by simp [execOp, ho, h, pure], rfl⟩
theorem g_nilCheckC {o : Oper} {d f : Nat} {ls : List (Option Nat)} {x : Operand} (hd : o.dst = some d) (hN : Nat.blt d σ.N = true) (ho : o.op = .nilCheck x) (hx : σ.ev x = .clo f ls) : OpStep P B o σ (σ.put d (.clo f ls)) :=
  step_val hd (blt hN) fun g a w hr => by
    have h := hr.ev x
    rw [hx] at h
    have h : a.eval x = .func (.func f) #[] (ls.map (cap g.β)).toArray := h
    exact ⟨_, by simp [execOp, ho, h, pure], rfl⟩
end
end Go.Ab
/-! Lists that only the frame itself can reach: they may be written again. -/
namespace Go.Ab
open Go.RowKit
set_option linter.unusedVariables false
set_option linter.unusedSimpArgs false
/-- Such a list's handle. -/
def SH (n : Nat) : SemT where
  holds := fun _ v => ∃ A c, v = .slice A n c ∧ n ≤ c ∧ c ≤ 9223372036854775807 ∧ (A = none → c = 0)
  mono := fun _ h => h
  one := fun ⟨_, _, h, _⟩ => by rw [h]; rfl
theorem sh_of {α : Type} {E : Enc α} {l : List α} {imm : Imm} {v : Value} (h : sliceH E l imm v) : (SH l.length).holds imm v := by
  obtain ⟨A, c, h1, h2, h3, h4, _⟩ := h
  exact ⟨A, c, h1, h2, h3, h4⟩
def St.setM (σ : St) (t : Nat) (x : Option (List PV)) : St := { σ with M := fun k => cond (Nat.beq k t) x (σ.M k) }
section
variable {P : Program} {B : Base} {σ σ' : St} {g : Gh} {a : Act} {w w' : World}
/-- From nil. -/
theorem Rel.nilPrv (hr : Rel B σ g a w) (tp sz : Nat) : Rel B (((σ.dropT tp).setT tp (some (sz, 0))).setM tp (some [])) { g with τ := fun k => cond (Nat.beq k tp) none (g.τ k) } a w := by
  have h := hr.nilTip tp sz
  refine { h with prv := fun k ps hk => ?_ }
  have hk : cond (Nat.beq k tp) (some []) (cond (Nat.beq k tp) none (σ.M k)) = some ps := hk
  by_cases e : k = tp
  · subst e
    rw [Nat.beq_refl] at hk
    cases hk
    exact ⟨sz, 0, by show cond (Nat.beq k k) _ _ = _; rw [Nat.beq_refl]; rfl, by simp, fun _ => rfl, fun b c h' => by simp at h'⟩
  · rw [nbeq e] at hk
    exact h.prv k ps (by show cond (Nat.beq k tp) none (σ.M k) = _; rw [nbeq e]; exact hk)
/-- The block of such a list is laid, anew or again. -/
theorem Rel.prvTo (hr : Rel B σ g a w) {t sz n c b : Nat} {cs : Array Value} {ty : TypeId} {ps : List PV} {g' : Gh}
    (hg' : g' = { g with τ := fun k => cond (Nat.beq k t) (some (b, c)) (g.τ k) })
    (hN : σ'.N = σ.N) (henv : ∀ k v, Rep σ.T g (σ.env k) v → Rep σ'.T g' (σ'.env k) v)
    (hL : ∀ s ps', σ'.L s = some ps' → ∃ ps, σ.L s = some ps ∧ ∀ vs, RepL σ.T g ps vs → RepL σ'.T g' ps' vs)
    (hT : ∀ k, σ'.T k = cond (Nat.beq k t) (some (sz, n)) (σ.T k))
    (hw : w'.os = w.os ∧ w'.tape = w.tape ∧ w'.output = w.output ∧ w.heap.size ≤ w'.heap.size) (hother : ∀ k, k < w.heap.size → k ≠ b → w'.heap[k]? = w.heap[k]?)
    (hb : w'.heap[b]? = some (.cells cs ty (0, 0))) (hnone : ∀ o, g.imm b o = none)
    (hps : RepL noT (gh g.imm) ps (cs.toList.take (n * sz))) (hlen : ps.length = n * sz) (hnc : n ≤ c) (hcs : c * sz ≤ cs.size)
    (hbx : ∀ s ps, σ.L s = some ps → g.β s ≠ b) (htp : ∀ t' x b' c', t' ≠ t → σ.T t' = some x → g.τ t' = some (b', c') → b' ≠ b)
    (hbF : B.w0.heap.size ≤ b ∨ B.F b) (hM : ∀ k qs, σ'.M k = some qs → (k = t ∧ qs = ps) ∨ (k ≠ t ∧ σ.M k = some qs)) : Rel B σ' g' a w' := by
  subst hg'
  have lt : ∀ {k : Nat} {o : Obj}, w.heap[k]? = some o → k < w.heap.size := fun h => (Array.getElem?_eq_some_iff.1 h).1
  have Tx : ∀ t' x, t' ≠ t → σ'.T t' = some x → σ.T t' = some x := fun t' x hne h => by rw [hT, nbeq hne] at h; exact h
  have τx : ∀ t', t' ≠ t → (fun k => cond (Nat.beq k t) (some (b, c)) (g.τ k)) t' = g.τ t' := fun t' hne => by simp [nbeq hne]
  refine { size := hr.size.trans hN.symm, env := fun k => henv k _ (hr.env k), defers := hr.defers, imm := ?_, box := ?_, apart := ?_, tip := ?_, tips := ?_, boxtip := ?_, below := ?_, immle := hr.immle, immnew := hr.immnew, pin := hr.pin, prv := ?_ }
  · intro b' o v hv
    have e : b' ≠ b := fun e => by subst e; rw [hnone] at hv; cases hv
    rw [cell_eq (hother b' (hr.lt_imm hv) e)]; exact hr.imm b' o v hv
  · intro s ps' h
    obtain ⟨ps, h1, h2⟩ := hL s ps' h
    obtain ⟨c1, t1, h3, h4, h5, h6⟩ := hr.box s ps h1
    have hne := hbx s ps h1
    exact ⟨c1, t1, by rw [hother _ (lt h3) hne]; exact h3, h2 _ h4, h5, h6⟩
  · intro s s' ps ps' h h' hne
    obtain ⟨_, h1, _⟩ := hL s ps h
    obtain ⟨_, h2, _⟩ := hL s' ps' h'
    exact hr.apart s s' _ _ h1 h2 hne
  · intro t' sz' m b' c' h1 h2
    by_cases e : t' = t
    · subst e
      rw [hT] at h1
      simp only [Nat.beq_refl, cond_true, Option.some.injEq, Prod.mk.injEq] at h1 h2
      obtain ⟨rfl, rfl⟩ := h1
      obtain ⟨rfl, rfl⟩ := h2
      exact ⟨cs, ty, hb, hcs, hnc, fun o _ => hnone o, hbF⟩
    · have h2 : g.τ t' = some (b', c') := by rw [← τx t' e]; exact h2
      obtain ⟨c1, t1, h3, h4, h5, h6, h7⟩ := hr.tip t' sz' m b' c' (Tx t' _ e h1) h2
      have hne := htp t' _ b' c' e (Tx t' _ e h1) h2
      exact ⟨c1, t1, by rw [hother _ (lt h3) hne]; exact h3, h4, h5, h6, h7⟩
  · intro t1 t2 x1 x2 b1 b2 c1 c2 h1 h2 h3 h4 hne
    by_cases e1 : t1 = t
    · subst e1
      have e2 : t2 ≠ t1 := fun e => hne e.symm
      have h4' : g.τ t2 = some (b2, c2) := by rw [← τx t2 e2]; exact h4
      simp only [Nat.beq_refl, cond_true, Option.some.injEq, Prod.mk.injEq] at h3
      rw [← h3.1]
      exact (htp t2 _ _ _ e2 (Tx t2 _ e2 h2) h4').symm
    · have h3' : g.τ t1 = some (b1, c1) := by rw [← τx t1 e1]; exact h3
      by_cases e2 : t2 = t
      · subst e2
        simp only [Nat.beq_refl, cond_true, Option.some.injEq, Prod.mk.injEq] at h4
        rw [← h4.1]
        exact htp t1 _ _ _ e1 (Tx t1 _ e1 h1) h3'
      · have h4' : g.τ t2 = some (b2, c2) := by rw [← τx t2 e2]; exact h4
        exact hr.tips t1 t2 _ _ _ _ _ _ (Tx t1 _ e1 h1) (Tx t2 _ e2 h2) h3' h4' hne
  · intro s ps t' x b' c' h1 h2 h3
    obtain ⟨ps0, h1, _⟩ := hL s ps h1
    by_cases e : t' = t
    · subst e
      simp only [Nat.beq_refl, cond_true, Option.some.injEq, Prod.mk.injEq] at h3
      rw [← h3.1]
      exact hbx s ps0 h1
    · have h3' : g.τ t' = some (b', c') := by rw [← τx t' e]; exact h3
      exact hr.boxtip s ps0 t' x b' c' h1 (Tx t' _ e h2) h3'
  · obtain ⟨h1, h2, h3, h4, h5⟩ := hr.below
    refine ⟨hw.1.trans h1, hw.2.1.trans h2, hw.2.2.1.trans h3, by omega, fun k hk hn => ?_⟩
    rw [hother k (by omega) (fun e => by
      subst e
      rcases hbF with h | h
      · omega
      · exact hn h)]
    exact h5 k hk hn
  · intro k qs h
    rcases hM k qs h with ⟨rfl, rfl⟩ | ⟨e, h⟩
    · refine ⟨sz, n, by rw [hT, Nat.beq_refl]; rfl, hlen, fun h' => by simp at h', fun b' c' h' => ?_⟩
      simp only [Nat.beq_refl, cond_true, Option.some.injEq, Prod.mk.injEq] at h'
      obtain ⟨rfl, rfl⟩ := h'
      exact ⟨hnone, cs, ty, hb, hps⟩
    · refine (hr.prv k qs h).mono (by rw [hT, nbeq e]; rfl) (τx k e) (Imm.le_refl _) fun b' c' h' => ?_
      obtain ⟨sz', m', k1, _⟩ := hr.prv k qs h
      obtain ⟨_, _, k2, _⟩ := hr.tip k sz' m' b' c' k1 h'
      exact ⟨fun _ => rfl, hother _ (lt k2) (htp k _ b' c' e k1 h')⟩
/-- What is appended. -/
theorem pappend_at {α : Type} {E : Enc α} {l ext : List α} {o : Oper} {d tp bytes : Nat} {x y : Operand} {t e : TypeId} (hd : o.dst = some d) (hN : d < σ.N) (ho : o.op = .call { callee := .builtin .append, args := #[x, y], argTypes := #[t, t] })
    (hel : Elt P t e E.sz bytes) (hT : σ.T tp = some (E.sz, l.length)) (hM : σ.M tp = some (l.flatMap E.pv)) (hy : IsSl σ y E ext) (hby : (l ++ ext).length * bytes ≤ 140737488355328) (hr : Rel B σ g a w) (hv : Rep σ.T g (.own tp l.length (SH l.length)) (a.eval x))
    (K : Act → World → Prop) (Q : Exit → Act → World → Prop) (hK : ∀ g' a' w', Rel B (((σ.setT tp (some (E.sz, (l ++ ext).length))).setM tp (some ((l ++ ext).flatMap E.pv))).put d (.own tp (l ++ ext).length (SH (l ++ ext).length))) g' a' w' → K a' w') : o.wp P a w K Q := by
  obtain ⟨i, z, hi, hz, hsz, hbyt, hzs, _⟩ := hel.get
  obtain ⟨hpos, hbp⟩ := hel.pos
  have hmax : (l ++ ext).length ≤ 140737488355328 := Nat.le_trans (Nat.le_mul_of_pos_right _ hbp) hby
  have hlen : (l ++ ext).length = l.length + ext.length := List.length_append
  have hTk : ∀ k, ((σ.setT tp (some (E.sz, (l ++ ext).length))).setM tp (some ((l ++ ext).flatMap E.pv))).T k = cond (Nat.beq k tp) (some (E.sz, (l ++ ext).length)) (σ.T k) := fun _ => rfl
  have hTne : ∀ k, k ≠ tp → ((σ.setT tp (some (E.sz, (l ++ ext).length))).setM tp (some ((l ++ ext).flatMap E.pv))).T k = σ.T k := fun k hk => by rw [hTk, nbeq hk]; rfl
  have hTeq : ((σ.setT tp (some (E.sz, (l ++ ext).length))).setM tp (some ((l ++ ext).flatMap E.pv))).T tp = some (E.sz, (l ++ ext).length) := by rw [hTk, Nat.beq_refl]; rfl
  have hMx : ∀ k qs, ((σ.setT tp (some (E.sz, (l ++ ext).length))).setM tp (some ((l ++ ext).flatMap E.pv))).M k = some qs → (k = tp ∧ qs = (l ++ ext).flatMap E.pv) ∨ (k ≠ tp ∧ σ.M k = some qs) := by
    intro k qs h
    have h : cond (Nat.beq k tp) (some ((l ++ ext).flatMap E.pv)) (σ.M k) = some qs := h
    by_cases e : k = tp
    · subst e; rw [Nat.beq_refl] at h; cases h; exact .inl ⟨rfl, rfl⟩
    · rw [nbeq e] at h; exact .inr ⟨e, h⟩
  have fin : ∀ v' w' g', (execOp a.eval o).run P w = .ok (.value v') w' → Rel B ((σ.setT tp (some (E.sz, (l ++ ext).length))).setM tp (some ((l ++ ext).flatMap E.pv))) g' a w' → Rep (σ.setT tp (some (E.sz, (l ++ ext).length))).T g' (.own tp (l ++ ext).length (SH (l ++ ext).length)) v' → o.wp P a w K Q := by
    intro v' w' g' h1 h2 h3
    unfold Oper.wp
    rw [h1]
    show K (a.put o.dst v') w'
    rw [hd]
    exact hK g' _ w' (h2.put hN h3)
  obtain ⟨hsl, sz', m', hT', hle, hown⟩ : (SH l.length).holds g.imm (a.eval x) ∧ _ := hv
  rw [hT] at hT'
  simp only [Option.some.injEq, Prod.mk.injEq] at hT'
  obtain ⟨rfl, rfl⟩ := hT'
  have hown := hown rfl
  have hext := hy _ _ _ (hr.ev y)
  obtain ⟨_, _, hp1, hp2, hp3, hp4⟩ := hr.prv tp _ hM
  rw [hT] at hp1
  simp only [Option.some.injEq, Prod.mk.injEq] at hp1
  obtain ⟨rfl, rfl⟩ := hp1
  obtain ⟨A0, c1, he0, hn0, hc0, hA0⟩ := hsl
  have none_ : ext = [] → (execOp a.eval o).run P w = .ok (.value (a.eval x)) w → o.wp P a w K Q := by
    intro e0 hrun
    subst e0
    have hst : (σ.setT tp (some (E.sz, (l ++ ([] : List α)).length))).setM tp (some ((l ++ ([] : List α)).flatMap E.pv)) = σ := by
      have e1 : (fun k => cond (Nat.beq k tp) (some (E.sz, (l ++ ([] : List α)).length)) (σ.T k)) = σ.T := by
        funext k
        by_cases e : k = tp
        · subst e; rw [Nat.beq_refl, hT, List.append_nil]; rfl
        · rw [nbeq e]; rfl
      have e2 : (fun k => cond (Nat.beq k tp) (some ((l ++ ([] : List α)).flatMap E.pv)) (σ.M k)) = σ.M := by
        funext k
        by_cases e : k = tp
        · subst e; rw [Nat.beq_refl, hM, List.append_nil]; rfl
        · rw [nbeq e]; rfl
      unfold St.setT St.setM
      rw [e1, e2]
    refine fin (a.eval x) w g hrun (by rw [hst]; exact hr) ⟨⟨A0, c1, by rw [List.append_nil]; exact he0, by rw [List.append_nil]; exact hn0, hc0, hA0⟩, E.sz, _, hTeq, Nat.le_refl _, fun _ => ?_⟩
    rw [List.append_nil]
    exact hown
  rcases sliceH_cells hext with ⟨rfl, A, c0, hyv, _⟩ | ⟨b2, o2, c2, news, hyv, hc2, _, hnews, hni⟩
  · exact none_ rfl (exec_append ho (by rw [he0, hyv]; exact run_append_zero w hel.und hi _ _ _ _ _ hn0))
  · have hm : news.length = ext.length * i.size := by rw [repL_length hnews, flat_length, hsz]
    have hcell : ∀ j u, news[j]? = some u → w.cell? ((⟨b2, o2, none⟩ : Addr).add j) = some u := fun j u hu => by rw [Addr.add_lit]; exact hr.imm _ _ _ (hni j u hu)
    have hone : ∀ u ∈ news, u.oneCell' = true := repL_one' hnews
    by_cases hz0 : ext = []
    · subst hz0
      exact none_ rfl (exec_append ho (by rw [he0, hyv]; exact run_append_zero w hel.und hi _ _ _ _ _ hn0))
    have hp : 0 < ext.length := List.length_pos_iff.2 hz0
    have grow : ∀ (b c : Nat), ∀ p v, Rep1 σ.T g p v → Rep1 ((σ.setT tp (some (E.sz, (l ++ ext).length))).setM tp (some ((l ++ ext).flatMap E.pv))).T { g with τ := fun k => cond (Nat.beq k tp) (some (b, c)) (g.τ k) } p v :=
      fun b c p v h => rep1_grow (g := g) (g' := { g with τ := fun k => cond (Nat.beq k tp) (some (b, c)) (g.τ k) }) (t := tp) (sz := E.sz) (n := l.length) (n' := (l ++ ext).length) (Imm.le_refl _) (by rfl) (fun t' ht' => by simp [nbeq ht']) hTne hT hTeq (by omega) (fun e => by omega) p v h
    -- a new block
    have anew : ∀ (olds : List Value) (old : Nat), RepL noT (gh g.imm) (l.flatMap E.pv) olds → old < l.length + ext.length →
        (execOp a.eval o).run P w = .ok (.value (.slice (some ⟨w.heap.size, 0, none⟩) (l.length + ext.length) (grownCap w (l.length + ext.length) old e))) (w.drew.alloc (.cells (olds.toArray ++ news.toArray ++ Builtin.zeroCells z.cells (grownCap w (l.length + ext.length) old e - (l.length + ext.length))) e)) → o.wp P a w K Q := by
      intro olds old ho1 hold hrun
      have hge := grownCap_ge w (l.length + ext.length) old e
      have hcm : grownCap w (l.length + ext.length) old e ≤ maxLen := grownCap_le_maxLen w _ old e (by simp only [maxLen]; omega)
      have hol : olds.length = l.length * E.sz := by rw [repL_length ho1, flat_length]
      have hnone : ∀ o, g.imm w.heap.size o = none := fun o => by
        cases hq : g.imm w.heap.size o with
        | none => rfl
        | some u => have := hr.lt_imm hq; omega
      have hR : RepL noT (gh g.imm) ((l ++ ext).flatMap E.pv) (olds ++ news) := by
        rw [List.flatMap_append]
        exact repL_append ho1 hnews
      refine fin _ _ { g with τ := fun k => cond (Nat.beq k tp) (some (w.heap.size, grownCap w (l.length + ext.length) old e)) (g.τ k) } hrun ?_ ?_
      · refine Rel.prvTo hr (ps := (l ++ ext).flatMap E.pv) rfl rfl (fun k v h => Rep.carry (grow _ _) h) (fun s ps' h => ⟨ps', h, fun vs hvs => RepL.carry (grow _ _) hvs⟩) hTk ⟨rfl, rfl, rfl, by simp⟩ (fun k hk _ => Below.heap_alloc w.drew _ k hk) (by
            show (w.drew.alloc _).heap[w.heap.size]? = _
            exact heap_alloc_new w.drew _) hnone ?_ (flat_length _ _) ?_ ?_ ?_ ?_ (.inl hr.below.2.2.2.1) hMx
        · have : (olds.toArray ++ news.toArray ++ Builtin.zeroCells z.cells (grownCap w (l.length + ext.length) old e - (l.length + ext.length))).toList.take ((l ++ ext).length * E.sz) = olds ++ news := by
            simp only [Array.toList_append, List.toList_toArray]
            rw [List.take_left']
            rw [List.length_append, hol, hm, hsz, hlen, Nat.add_mul]
          rw [this]; exact hR
        · rw [hlen]; exact hge
        · simp only [Array.size_append, List.size_toArray, size_zeroCells, hzs, hol, hm, hsz, ← Nat.add_mul]
          exact Nat.mul_le_mul_right _ (by omega)
        · intro s ps hL
          obtain ⟨cs1, _, hb1, _⟩ := hr.box s ps hL
          have := (Array.getElem?_eq_some_iff.1 hb1).1
          omega
        · intro t' xx b' c' _ h1 h2
          obtain ⟨sz1, m1⟩ := xx
          obtain ⟨cs1, _, hb1, _⟩ := hr.tip t' sz1 m1 b' c' h1 h2
          have := (Array.getElem?_eq_some_iff.1 hb1).1
          omega
      · refine ⟨⟨_, _, by rw [hlen], by rw [hlen]; exact hge, by simpa [maxLen] using hcm, fun h => by cases h⟩, E.sz, _, hTeq, Nat.le_refl _, fun _ => .inl ⟨w.heap.size, grownCap w (l.length + ext.length) old e, by simp, by rw [hlen]⟩⟩
    rcases hown with ⟨b, c, hτ, hxv⟩ | ⟨hτ, hl0, hxv⟩
    · obtain ⟨cs, ty0, hcs, hcsz, hmc, hfree, hF⟩ := hr.tip tp E.sz l.length b c hT hτ
      obtain ⟨hnone, cs', ty', hcs', holds⟩ := hp4 b c hτ
      rw [hcs] at hcs'
      cases hcs'
      have hol : (cs.toList.take (l.length * E.sz)).length = l.length * E.sz := by rw [repL_length holds, flat_length]
      have hc9 : c ≤ 9223372036854775807 := by
        rw [hxv] at he0
        simp only [Value.slice.injEq] at he0
        rw [he0.2.2]; exact hc0
      by_cases hroom : l.length + ext.length ≤ c
      · have hfit : l.length * i.size + news.length ≤ cs.size := by
          rw [hm, ← Nat.add_mul, hsz]
          exact Nat.le_trans (Nat.mul_le_mul_right _ hroom) hcsz
        have hrun := exec_append ho (P := P) (w := w) (a := a) (by rw [hxv, hyv]; exact run_append_in w hel.und hi hcs hm hcell hone hroom hfit)
        have hnr : (cs.toList.take (l.length * i.size) ++ news ++ cs.toList.drop (l.length * i.size + news.length)).toArray.toList = cs.toList.take (l.length * i.size) ++ news ++ cs.toList.drop (l.length * i.size + news.length) := by simp
        refine fin _ _ { g with τ := fun k => cond (Nat.beq k tp) (some (b, c)) (g.τ k) } hrun ?_ ?_
        · refine Rel.prvTo hr (ps := (l ++ ext).flatMap E.pv) rfl rfl (fun k v h => Rep.carry (grow _ _) h) (fun s ps' h => ⟨ps', h, fun vs hvs => RepL.carry (grow _ _) hvs⟩) hTk ⟨rfl, rfl, rfl, by simp [World.setRow]⟩ (fun k _ hk => setRow_other w b k _ hk) (setRow_heap w b cs _ ty0 _ hcs) hnone ?_ (flat_length _ _) (by omega) ?_ ?_ ?_ hF hMx
          · rw [hnr]
            have : (cs.toList.take (l.length * i.size) ++ news ++ cs.toList.drop (l.length * i.size + news.length)).take ((l ++ ext).length * E.sz) = cs.toList.take (l.length * E.sz) ++ news := by
              rw [hsz] at hm ⊢
              rw [List.take_left']
              rw [List.length_append, hol, hm, hlen, Nat.add_mul]
            rw [this, List.flatMap_append]
            exact repL_append holds hnews
          · simp only [List.size_toArray, List.length_append, List.length_take, List.length_drop, Array.length_toList]
            have : l.length * i.size + news.length ≤ cs.size := hfit
            omega
          · intro s ps hL
            exact hr.boxtip s ps tp _ b c hL hT hτ
          · intro t' xx b' c' hne h1 h2
            exact (hr.tips t' tp _ _ _ _ _ _ h1 hT h2 hτ hne)
        · exact ⟨⟨_, _, by rw [hlen], by omega, hc9, fun h => by cases h⟩, E.sz, _, hTeq, Nat.le_refl _, fun _ => .inl ⟨b, c, by simp, by rw [hlen]⟩⟩
      · refine anew (cs.toList.take (l.length * E.sz)) c holds (by omega) (exec_append ho ?_)
        rw [hxv, hyv]
        have hcl : ∀ (j : Nat) (v : Value), (cs.toList.take (l.length * E.sz))[j]? = some v → w.cell? ((⟨b, 0, none⟩ : Addr).add j) = some v := by
          intro j v hv
          rw [Addr.add_lit, Nat.zero_add, cell_blk hcs]
          rw [List.getElem?_take] at hv
          split at hv
          · simpa using hv
          · cases hv
        have := run_append_grow (P := P) w t o.type e i z hel.und hi hz ⟨b, 0, none⟩ l.length c (cs.toList.take (l.length * E.sz)) (by rw [hol, hsz]) hcl ⟨b2, o2, none⟩ ext.length c2 news hm hcell (by omega) (by omega) (growslice_fits (by omega) (by rw [hbyt, ← hlen]; exact hby))
        exact this
    · obtain rfl : l = [] := List.eq_nil_of_length_eq_zero hl0
      refine anew [] 0 rfl (by simpa using hp) (exec_append ho ?_)
      rw [hxv, hyv]
      have := run_append_nil (P := P) w t o.type e i z hel.und hi hz ⟨b2, o2, none⟩ ext.length c2 news hm hcell hp (by omega) (by rw [hbyt]; have := hby; simp only [List.nil_append] at this; omega)
      simpa using this
/-- The handle, where the list is as long as it is. -/
theorem rep_prv {n m sz tp : Nat} {v : Value} (hT : σ.T tp = some (sz, m)) (hv : Rep σ.T g (.own tp n (SH n)) v) : (SH n).holds g.imm v ∧ n ≤ m ∧ (n = m → (∃ b c, g.τ tp = some (b, c) ∧ v = .slice (some ⟨b, 0, none⟩) n c) ∨ (g.τ tp = none ∧ n = 0 ∧ v = .slice none 0 0)) := by
  obtain ⟨h1, sz', m', h2, h3, h4⟩ : (SH n).holds g.imm v ∧ _ := hv
  rw [hT] at h2
  cases h2
  exact ⟨h1, h3, h4⟩
/-- From now on it stays as it is. -/
theorem Rel.prvFreeze {α : Type} {E : Enc α} {l : List α} {tp : Nat} (hr : Rel B σ g a w) (hT : σ.T tp = some (E.sz, l.length)) (hM : σ.M tp = some (l.flatMap E.pv)) :
    ∃ g', Rel B (σ.setM tp none) g' a w ∧ g'.β = g.β ∧ (∀ p v, Rep1 σ.T g p v → Rep1 σ.T g' p v) ∧ ∀ v, Rep1 σ.T g (.own tp l.length (SH l.length)) v → Rep1 σ.T g' (.own tp l.length (SL E l)) v := by
  obtain ⟨_, _, hp1, hp2, hp3, hp4⟩ := hr.prv tp _ hM
  rw [hT] at hp1
  simp only [Option.some.injEq, Prod.mk.injEq] at hp1
  obtain ⟨rfl, rfl⟩ := hp1
  have hMx : ∀ k qs, (σ.setM tp none).M k = some qs → k ≠ tp ∧ σ.M k = some qs := by
    intro k qs h
    have h : cond (Nat.beq k tp) none (σ.M k) = some qs := h
    by_cases e : k = tp
    · subst e; rw [Nat.beq_refl] at h; cases h
    · rw [nbeq e] at h; exact ⟨e, h⟩
  cases hτ : g.τ tp with
  | none =>
    have hl : l = [] := List.eq_nil_of_length_eq_zero (hp3 hτ)
    refine ⟨g, { hr with prv := fun k qs h => hr.prv k qs (hMx k qs h).2 }, rfl, fun _ _ h => h, fun v hv => ?_⟩
    obtain ⟨h1, sz', m', h2, h3, h4⟩ := hv
    refine ⟨?_, sz', m', h2, h3, h4⟩
    obtain ⟨A, c, k1, k2, k3, k4⟩ := h1
    exact ⟨A, c, k1, k2, k3, k4, fun hne => absurd hl hne⟩
  | some bc =>
    obtain ⟨b, c⟩ := bc
    obtain ⟨hnone, cs, ty, hcs, hR⟩ := hp4 b c hτ
    obtain ⟨cs', ty', hcs', hcsz, hmc, _, hF⟩ := hr.tip tp E.sz l.length b c hT hτ
    rw [hcs] at hcs'
    cases hcs'
    have hi1 : Imm.le g.imm (segImm g.imm b 0 (cs.toList.take (l.length * E.sz))) := segImm_le fun o _ => hnone o
    have hol : (cs.toList.take (l.length * E.sz)).length = l.length * E.sz := by rw [repL_length hR, flat_length]
    have other : ∀ b', b' ≠ b → ∀ o, segImm g.imm b 0 (cs.toList.take (l.length * E.sz)) b' o = g.imm b' o := by
      intro b' hb' o
      unfold segImm
      rw [if_neg (fun h => hb' h.1)]
    have mono : ∀ p v, Rep1 σ.T g p v → Rep1 σ.T { g with imm := segImm g.imm b 0 (cs.toList.take (l.length * E.sz)) } p v :=
      fun p v h => Rep1.mono hi1 (fun _ _ _ => rfl) (fun _ _ _ _ _ => rfl) (fun _ _ _ _ => rfl) (fun _ _ _ _ _ => rfl) h (fun _ _ _ _ => rfl)
    refine ⟨{ g with imm := segImm g.imm b 0 (cs.toList.take (l.length * E.sz)) }, { hr with env := ?_, imm := ?_, box := ?_, tip := ?_, immle := Imm.le_trans hr.immle hi1, immnew := ?_, prv := ?_ }, rfl, mono, fun v hv => ?_⟩
    · exact fun k => Rep.carry mono (hr.env k)
    · intro b' o v hv'
      simp only [segImm] at hv'
      split at hv'
      · rename_i h
        obtain ⟨rfl, h1, h2⟩ := h
        rw [cell_blk hcs]
        rw [List.getElem?_take] at hv'
        split at hv'
        · simpa using hv'
        · cases hv'
      · exact hr.imm b' o v hv'
    · intro s ps h
      obtain ⟨c1, t1, h1, h2, h3, h4⟩ := hr.box s ps h
      exact ⟨c1, t1, h1, RepL.carry mono h2, fun o => (other _ (hr.boxtip s ps tp _ b c h hT hτ) o).trans (h3 o), h4⟩
    · intro t' sz' m' b' c' h1 h2
      obtain ⟨c1, t1, h3, h4, h5, h6, h7⟩ := hr.tip t' sz' m' b' c' h1 h2
      refine ⟨c1, t1, h3, h4, h5, fun o ho => ?_, h7⟩
      by_cases e : t' = tp
      · subst e
        rw [hτ] at h2
        rw [show σ.T t' = some (sz', m') from h1] at hT
        cases h2; cases hT
        show segImm g.imm b 0 _ b o = none
        unfold segImm
        rw [if_neg (by omega)]
        exact hnone o
      · exact (other _ (hr.tips t' tp _ _ _ _ _ _ h1 hT h2 hτ e) o).trans (h6 o ho)
    · intro b' o v hv'
      simp only [segImm] at hv'
      split at hv'
      · rename_i h
        rw [h.1]
        exact .inr hF
      · exact hr.immnew b' o v hv'
    · intro k qs h
      obtain ⟨e, h⟩ := hMx k qs h
      refine (hr.prv k qs h).mono rfl rfl hi1 fun b' c' h' => ?_
      obtain ⟨sz', m', k1, _⟩ := hr.prv k qs h
      exact ⟨fun o => other _ (hr.tips k tp _ _ _ _ _ _ k1 hT h' hτ e) o, rfl⟩
    · obtain ⟨h1, sz', m', h2, h3, h4⟩ := hv
      refine ⟨?_, sz', m', h2, h3, h4⟩
      obtain ⟨A, c1, k1, k2, k3, k4⟩ := h1
      rw [hT] at h2
      cases h2
      rcases h4 rfl with ⟨b', c', e1, e2⟩ | ⟨e1, _, _⟩
      · rw [hτ] at e1
        cases e1
        rw [e2] at k1 ⊢
        simp only [Value.slice.injEq] at k1
        obtain ⟨_, _, rfl⟩ := k1
        exact sliceH_of (E := E) (l := l) (b := b) (o := 0) (c := c) (repL_gh (T := noT) hi1 hR) (fun j u hu => segImm_at hu) k2 k3
      · rw [hτ] at e1; cases e1
/-- A thing's address. -/
theorem g_ixPrv {o : Oper} {d tp n sz : Nat} {x ii : Operand} {t e : TypeId} {ag : Bool} {i : Int} {k : IntKind} (hd : o.dst = some d) (hN : Nat.blt d σ.N = true) (ho : o.op = .indexAddr t x ii) (ht : P.underlying t = some (.slice e)) (hte : Ty P e ag sz)
    (hx : σ.ev x = .own tp n (SH n)) (hi : σ.ev ii = .sc (.int k i)) (h0 : 0 ≤ i ∧ i < (n : Int)) : OpStep P B o σ (σ.put d (.ta tp n (i.toNat * sz))) :=
  step_val hd (blt hN) fun g a w hr => by
    have hv := hr.ev x
    rw [hx] at hv
    obtain ⟨⟨A, c, h1, h2, h3, h4⟩, sz', m, h5, h6, h7⟩ : (SH n).holds g.imm (a.eval x) ∧ _ := hv
    have hn : 0 < n := by omega
    cases A with
    | none => have := h4 rfl; omega
    | some A =>
      refine ⟨.pointer (some (A.add (i.toNat * sz))), ?_, sz', m, h5, h6, fun e => ?_⟩
      · simp only [execOp, ho, h1, hr.ev_sc hi]
        rw [run_bind]
        have : (Instr.indexAt t (.slice (some A) n c) (.int k i)).run P w = .ok (.pointer (some (A.add (i.toNat * sz)))) w := by
          have hc : (0 ≤ i ∧ i < (n : Int)) := h0
          simp only [Instr.indexAt, asIntOf, underlying, program]
          simp only [bind, Sem.bind, Sem.run, pure, ht, hc, and_self, if_true]
          have h9 := run_sizeOf (P := P) hte w
          have h10 := run_bind (P := P) (sizeOf e) (fun z => (pure (.pointer (some (A.add (i.toNat * z)))) : Sem Value)) w
          rw [h9] at h10
          exact h10
        rw [this]
        rfl
      · rcases h7 e with ⟨b, c', h8, h9⟩ | ⟨_, h9, _⟩
        · refine ⟨b, c', h8, ?_⟩
          rw [h9] at h1
          simp only [Value.slice.injEq, Option.some.injEq] at h1
          rw [← h1.1, addr_add, Nat.zero_add]
        · omega
/-- How long it is. -/
theorem g_lenPrv {o : Oper} {d tp n : Nat} {x : Operand} {t e : TypeId} (hd : o.dst = some d) (hN : Nat.blt d σ.N = true) (ho : o.op = .call { callee := .builtin .len, args := #[x], argTypes := #[t] }) (ht : P.underlying t = some (.slice e)) (hx : σ.ev x = .own tp n (SH n)) :
    OpStep P B o σ (σ.put d (.sc (.int .i64 (n : Int)))) :=
  step_val hd (blt hN) fun g a w hr => ⟨_, by
    have hv := hr.ev x
    rw [hx] at hv
    obtain ⟨A, c, h1, _⟩ : (SH n).holds g.imm (a.eval x) := hv.1
    simp only [execOp, ho, resolve]
    rw [run_bind, run_pure]
    simp only [invoke, builtin, List.map_toArray, List.map_cons, List.map_nil, h1]
    rw [run_bind]
    have : (Builtin.len_ #[t] o.type #[Value.slice A n c]).run P w = .ok (.int .i64 (n : Int)) w := by
      simp [Builtin.len_, underlying, program, bind, Sem.bind, Sem.run, ht, pure, goInt]
    rw [this]
    rfl, rfl⟩
theorem g_ldPrv {α : Type} {E : Enc α} {l : List α} {y : α} {p : PV} {o : Oper} {d tp off : Nat} {t : TypeId} {x : Operand} {ag : Bool} (i : Nat) (hd : o.dst = some d) (hN : Nat.blt d σ.N = true) (ho : o.op = .load t x) (ht : Ty P t ag E.sz) (hx : σ.ev x = .ta tp l.length off)
    (hT : σ.T tp = some (E.sz, l.length)) (hM : σ.M tp = some (l.flatMap E.pv)) (hE : (E.pv y).all PV.clean1 = true) (he : off = i * E.sz) (hi : l[i]? = some y) (h1 : (ag || Nat.beq E.sz 1) = true) (hp : PV.ofCells ag (E.pv y) = p) : OpStep P B o σ (σ.put d p) := by
  subst he
  refine step_val hd (blt hN) fun g a w hr => ?_
  obtain ⟨_, _, hp1, hp2, hp3, hp4⟩ := hr.prv tp _ hM
  rw [hT] at hp1
  simp only [Option.some.injEq, Prod.mk.injEq] at hp1
  obtain ⟨rfl, rfl⟩ := hp1
  have hv := hr.ev x
  rw [hx] at hv
  obtain ⟨_, _, h2, _, h4⟩ := hv
  rw [hT] at h2
  cases h2
  obtain ⟨b, c, hτ, hv⟩ := h4 rfl
  obtain ⟨hnone, cs, ty, hcs, hR⟩ := hp4 b c hτ
  have hR2 := repL_flat_get hR i y hi
  have hl := repL_length hR2
  rw [E.len] at hl
  have hrun := run_loadVar (P := P) ht (b := b) (o := i * E.sz) (w := w) hl (or1 h1) (fun j v hj => by
    rw [cell_blk hcs]
    rw [List.getElem?_take] at hj
    split at hj
    · rw [List.getElem?_drop, List.getElem?_take] at hj
      split at hj
      · simpa using hj
      · cases hj
    · cases hj)
  refine ⟨_, by
    simp only [execOp, ho, Instr.loadAt, Instr.sureAddr, hv]
    rw [run_bind, run_bind]
    simp only [run_pure]
    rw [hrun], ?_⟩
  rw [← hp]
  exact ofCells_rep (repL_clean (Imm.le_refl _) hE hR2) (fun e => by rw [hl]; exact or1 h1 e)
theorem g_stPrv {α : Type} {E : Enc α} {l : List α} {z : α} {p : PV} {o : Oper} {tp off : Nat} {t : TypeId} {x y : Operand} {ag : Bool} (i : Nat) (hd : o.dst = none) (ho : o.op = .store t x y) (ht : Ty P t ag E.sz) (hx : σ.ev x = .ta tp l.length off) (hy : σ.ev y = p)
    (hT : σ.T tp = some (E.sz, l.length)) (hM : σ.M tp = some (l.flatMap E.pv)) (he : off = i * E.sz) (hi : i < l.length) (hk : p.okCells = true) (hz : WkL (p.cellsP.map PV.strip1) (E.pv z)) : OpStep P B o σ (σ.setM tp (some ((l.set i z).flatMap E.pv))) := by
  subst he
  intro g a w hr K Q hK
  obtain ⟨_, _, hp1, hp2, hp3, hp4⟩ := hr.prv tp _ hM
  rw [hT] at hp1
  simp only [Option.some.injEq, Prod.mk.injEq] at hp1
  obtain ⟨rfl, rfl⟩ := hp1
  have hv := hr.ev x
  rw [hx] at hv
  obtain ⟨_, _, h2, _, h4⟩ := hv
  rw [hT] at h2
  cases h2
  obtain ⟨b, c, hτ, hv⟩ := h4 rfl
  obtain ⟨hnone, cs, ty, hcs, hR⟩ := hp4 b c hτ
  obtain ⟨cs', ty', hcs', hcsz, hmc, _, hF⟩ := hr.tip tp E.sz l.length b c hT hτ
  rw [hcs] at hcs'
  cases hcs'
  have hyv := hr.ev y
  rw [hy] at hyv
  have hRy := repL_cells hk hyv
  have hRz : RepL noT (gh g.imm) (E.pv z) (a.eval y).cells.toList := wk_repL hz (repL_strip (Imm.le_refl _) hRy)
  have hlz := repL_length hRz
  rw [E.len] at hlz
  have hmul : (i + 1) * E.sz ≤ l.length * E.sz := Nat.mul_le_mul_right _ hi
  rw [Nat.add_mul, Nat.one_mul] at hmul
  have hmul2 : l.length * E.sz ≤ c * E.sz := Nat.mul_le_mul_right _ hmc
  obtain ⟨cs', hrun, hcs2⟩ := run_storeVar (P := P) ht (o := i * E.sz) hcs (v := a.eval y) (by simpa using hlz) (by omega) (repL_one' hRz)
  unfold Oper.wp
  have hx2 : (execOp a.eval o).run P w = .ok .skip (w.setBlk b (.cells cs' ty (0, 0))) := by
    simp only [execOp, ho, Instr.storeAt, Instr.sureAddr, hv]
    rw [run_bind, run_bind]
    simp only [run_pure]
    rw [hrun]
  rw [hx2]
  have hlt := (Array.getElem?_eq_some_iff.1 hcs).1
  have hsize : cs'.size = cs.size := by
    have := congrArg List.length hcs2
    have h9 : cs'.toList.length = cs'.size := Array.length_toList
    have h8 : cs.toList.length = cs.size := Array.length_toList
    rw [h9] at this
    rw [this]
    simp only [setCells, List.length_append, List.length_take, List.length_drop, h8, hlz]
    omega
  have hτeq : ({ g with τ := fun k => cond (Nat.beq k tp) (some (b, c)) (g.τ k) } : Gh) = g := by
    have : (fun k => cond (Nat.beq k tp) (some (b, c)) (g.τ k)) = g.τ := by
      funext k
      by_cases e : k = tp
      · subst e; rw [Nat.beq_refl, hτ]; rfl
      · rw [nbeq e]; rfl
    rw [this]
  have key : ∀ n, n = l.length → Rel B (σ.setM tp (some ((l.set i z).flatMap E.pv))) g a (w.setBlk b (.cells cs' ty (0, 0))) := by
    intro n hn
    refine Rel.prvTo hr (t := tp) (b := b) (c := c) (n := n) (sz := E.sz) (ps := (l.set i z).flatMap E.pv) (g' := g) hτeq.symm rfl (fun k v h => h) (fun s ps' h => ⟨ps', h, fun vs hvs => hvs⟩) (fun k => by
        by_cases e : k = tp
        · subst e; rw [Nat.beq_refl]; show σ.T k = _; rw [hT, hn]; rfl
        · rw [nbeq e]; rfl) ⟨rfl, rfl, rfl, by rw [setBlk_size]; exact Nat.le_refl _⟩ (fun k _ hk => by rw [setBlk_get hlt, if_neg (fun e => hk e.symm)]) (by rw [setBlk_get hlt, if_pos rfl]) hnone ?_ (by rw [flat_length, List.length_set, hn]) (by omega) (by omega) (fun s ps hL => hr.boxtip s ps tp _ b c hL hT hτ) (fun t' xx b' c' hne h1 h2 => hr.tips t' tp _ _ _ _ _ _ h1 hT h2 hτ hne) hF ?_
    · rw [hn, hcs2, ← flat_set z hi]
      have e2 : (setCells cs.toList (i * E.sz) (a.eval y).cells.toList).take (l.length * E.sz) = setCells (cs.toList.take (l.length * E.sz)) (i * E.sz) (a.eval y).cells.toList := by
        have h8 : cs.toList.length = cs.size := Array.length_toList
        apply List.ext_getElem?
        intro j
        simp only [setCells, List.getElem?_take, List.getElem?_append, List.length_append, List.length_take, List.getElem?_drop, h8, hlz]
        have e3 : min (i * E.sz) cs.size = i * E.sz := by omega
        have e4 : min (l.length * E.sz) cs.size = l.length * E.sz := by omega
        have e5 : min (i * E.sz) (l.length * E.sz) = i * E.sz := by omega
        simp only [e3, e4, e5]
        by_cases h1 : j < l.length * E.sz
        · by_cases h2 : j < i * E.sz
          · simp [h1, h2, Nat.lt_add_right _ h2]
          · by_cases h3 : j < i * E.sz + E.sz
            · simp [h1, h2, h3]
            · have h5 : i * E.sz + E.sz + (j - (i * E.sz + E.sz)) = j := by omega
              simp [h1, h2, h3, h5]
        · have h2 : ¬ j < i * E.sz := by omega
          have h3 : ¬ j < i * E.sz + E.sz := by omega
          have h5 : i * E.sz + E.sz + (j - (i * E.sz + E.sz)) = j := by omega
          simp [h1, h2, h3, h5]
      rw [e2]
      exact repL_setCells _ hR hRz
    · intro k qs h
      have h : cond (Nat.beq k tp) (some ((l.set i z).flatMap E.pv)) (σ.M k) = some qs := h
      by_cases e : k = tp
      · subst e; rw [Nat.beq_refl] at h; cases h; exact .inl ⟨rfl, rfl⟩
      · rw [nbeq e] at h; exact .inr ⟨e, h⟩
  show K (a.put o.dst undef) _
  rw [hd]
  exact hK g _ _ (key _ rfl)
end
end Go.Ab
/-! An executor over abstract values: what it computes is a weakest precondition. -/
namespace Go.Rx
open Go.Ab
set_option linter.unusedVariables false
/-- What stands in one cell of plain data. -/
inductive Leaf where
  | int (k : IntKind)
  | bool
  | str
  | sl (t : Nat)
  | er
abbrev Leaf.ty (A : Nat → Type) : Leaf → Type
  | .int _ => Int
  | .bool => Bool
  | .str => ByteArray
  | .sl t => List (A t)
  | .er => Bool
abbrev HL (A : Nat → Type) : List Leaf → Type
  | [] => Unit
  | x :: xs => x.ty A × HL A xs
/-- A Lean type as cells. -/
structure Shp (A : Nat → Type) (α : Type) where
  lv : List Leaf
  toH : α → HL A lv
  ofH : HL A lv → α
  eta : ∀ h, toH (ofH h) = h
inductive AV (A : Nat → Type) : Type where
  | any
  | und
  | nil
  | sc (v : Value)
  | loc (s off : Nat)
  | pt (cs : List (AV A))
  | clo (f : Nat) (ls : List (Option Nat))
  | sl (t : Nat) (l : List (A t))
  | own (k t : Nat) (l : List (A t))
  | agg (cs : List (AV A))
  | tup (vs : List (AV A))
  | grd (g : Nat) (w : Bool) (p : AV A)
  | run (t : Nat) (l : List (A t)) (pad : Nat)
  | ifc (t : Nat) (x : A t)
  | er (b : Bool)
  | el (s off e : Nat) (i : Int)
  | prv (k t n : Nat)
  | tel (k t n : Nat) (i : Int)
section leaf
variable {A : Nat → Type}
def leafAV : (x : Leaf) → x.ty A → AV A
  | .int k, n => .sc (.int k n)
  | .bool, b => .sc (.bool b)
  | .str, s => .sc (.string s)
  | .sl t, l => .sl t l
  | .er, b => .er b
def avsH : (lv : List Leaf) → HL A lv → List (AV A)
  | [], _ => []
  | x :: xs, h => leafAV x h.1 :: avsH xs h.2
def castT {t u : Nat} (h : Nat.beq t u = true) (l : List (A t)) : List (A u) := (Nat.eq_of_beq_eq_true h) ▸ l
def asSl (t : Nat) : AV A → Option (List (A t))
  | .nil => some []
  | .sl u l => if h : Nat.beq u t = true then some (castT h l) else none
  | .own _ u l => if h : Nat.beq u t = true then some (castT h l) else none
  | _ => none
def kindB : IntKind → IntKind → Bool
  | .i8, .i8 | .i16, .i16 | .i32, .i32 | .i64, .i64 | .u8, .u8 | .u16, .u16 | .u32, .u32 | .u64, .u64 => true
  | _, _ => false
def decLeaf : (x : Leaf) → AV A → Option (x.ty A)
  | .int k, .sc (.int k' n) => bif kindB k k' then some n else none
  | .bool, .sc (.bool b) => some b
  | .str, .sc (.string s) => some s
  | .sl t, p => asSl t p
  | .er, .er b => some b
  | _, _ => none
def decH : (lv : List Leaf) → List (AV A) → Option (HL A lv)
  | [], [] => some ()
  | x :: xs, p :: ps => match decLeaf x p with
    | some a => match decH xs ps with
      | some r => some (a, r)
      | none => none
    | none => none
  | _, _ => none
end leaf
/-- An error: none, or one of which nothing is known. -/
def ER (b : Bool) : SemT where
  holds := fun _ v => (b = false ∧ v = .nilIface) ∨ (b = true ∧ ∃ te pe, v = .iface te pe)
  mono := fun _ h => h
  one := fun h => by rcases h with ⟨_, rfl⟩ | ⟨_, te, pe, rfl⟩ <;> rfl
structure Dat0 where
  α : Type
  inh : Inhabited α
structure EncShp (A : Nat → Type) (α : Type) where
  E : Enc α
  shp : Shp A α
def leafPV {A : Nat → Type} (E : ∀ t, Enc (A t)) : (x : Leaf) → x.ty A → PV
  | .int k, n => .sc (.int k n)
  | .bool, b => .sc (.bool b)
  | .str, s => .sc (.string s)
  | .sl t, l => .sem (SL (E t) l)
  | .er, b => .sem (ER b)
def pvsH {A : Nat → Type} (E : ∀ t, Enc (A t)) : (lv : List Leaf) → HL A lv → List PV
  | [], _ => []
  | x :: xs, h => leafPV E x h.1 :: pvsH E xs h.2
/-- A package variable that is a row: its block, its things. -/
structure Gv (A : Nat → Type) where
  b : Nat
  e : Nat
  l : List (A e)
/-- The Lean types of a program's types, and what is known of them. -/
structure Sys where
  A : Nat → Type
  inh : ∀ t, Inhabited (A t)
  E : ∀ t, Enc (A t)
  shp : ∀ t, Shp A (A t)
  law : ∀ t x, (E t).pv x = pvsH E (shp t).lv ((shp t).toH x)
  glob : List (Gv A) := []
  gw : World → Prop := fun _ => True
  gwm : ∀ w w' : World, w.heap.size ≤ w'.heap.size → (∀ b, b < w.heap.size → w'.heap[b]? = w.heap[b]?) → gw w → gw w' := by intros; trivial
section sys
variable (S : Sys)
def av (t : Nat) (x : S.A t) : List (AV S.A) := avsH (S.shp t).lv ((S.shp t).toH x)
def dec (t : Nat) (cs : List (AV S.A)) : Option (S.A t) := match decH (S.shp t).lv cs with
  | some h => some ((S.shp t).ofH h)
  | none => none
/-- The size of a thing's type in cells. -/
def szOf (t : Nat) : Nat := (S.shp t).lv.length
def cellsA {A : Nat → Type} : AV A → List (AV A)
  | .agg cs => cs
  | p => [p]
def oneA {A : Nat → Type} : AV A → AV A
  | .agg _ => .any
  | .tup _ => .any
  | .grd _ _ _ => .any
  | p => p
def unG {A : Nat → Type} : AV A → AV A
  | .grd _ _ _ => .any
  | p => p
def unT {A : Nat → Type} : AV A → AV A
  | .tup _ => .any
  | .grd _ _ _ => .any
  | p => p
def ofCells {A : Nat → Type} (ag : Bool) (cs : List (AV A)) : AV A := match ag with
  | true => .agg cs
  | false => match cs with | [p] => oneA p | _ => .any
end sys
/-! ### What is read off the program -/
def tyOf (P : Program) (t : Nat) : Option (Bool × Nat) := match P.underlying t, P.info? t with
  | some d, some i => some (aggD d, i.size)
  | _, _ => none
def fldOf (P : Program) (t f : Nat) : Option (Nat × Bool × Nat) := match P.underlying t with
  | some (.struct fs) => match fs.toList[f]? with
    | some x => match tyOf P x.type with
      | some (ag, n) => bif Nat.beq n 0 then none else some (x.offset, ag, n)
      | none => none
    | none => none
  | _ => none
def zeroOf (P : Program) (t : Nat) : Option Value := match P.info? t with
  | some i => i.zero
  | none => none
/-- A slice's things of type e: so many cells, so many bytes. -/
def eltOf (P : Program) (e : Nat) : Option (Nat × Nat) := match P.info? e with
  | some i => (match i.zero with
    | some z => bif Nat.beq z.cells.size i.size && z.cells.toList.all (·.oneCell') && Nat.blt 0 i.size && Nat.blt 0 i.bytes then some (i.size, i.bytes) else none
    | none => none)
  | none => none
def placesOf (P : Program) : List Field → Option (List (Nat × Nat))
  | [] => some []
  | f :: fs => match tyOf P f.type, placesOf P fs with
    | some (_, n), some r => some ((f.offset, n) :: r)
    | _, _ => none
def memN (x : Nat) : List Nat → Bool
  | [] => false
  | y :: r => Nat.beq x y || memN x r
/-! ### The state -/
/-- A box: cells; behind them a row of things of one type; behind it what is never read. -/
structure Tl (A : Nat → Type) where
  t : Nat
  l : List (A t)
  pad : Nat
structure Bx (A : Nat → Type) where
  cs : List (AV A)
  tl : Option (Tl A)
def Bx.of {A : Nat → Type} (cs : List (AV A)) : Bx A := ⟨cs, none⟩
/-- A tip: the size of its things, how many; what it holds, where none but the frame can reach it. -/
structure TT (A : Nat → Type) where
  sz : Nat
  m : Nat
  pv : Option (Tl A)
structure XS (A : Nat → Type) where
  env : Nat → Option (AV A)
  L : Nat → Option (Bx A)
  T : Nat → Option (TT A)
  c : Nat
section state
variable {A : Nat → Type}
def orE {α : Type} : Option α → Option α → Option α
  | some a, _ => some a
  | none, b => b
def XS.over (s b : XS A) : XS A := { env := fun k => orE (s.env k) (b.env k), L := fun k => orE (s.L k) (b.L k), T := fun k => orE (s.T k) (b.T k), c := s.c }
def XS.mem (s : XS A) : XS A := { s with env := fun _ => none }
def XS.withM (s m : XS A) : XS A := { m with env := s.env }
def XS.get (s : XS A) (k : Nat) : AV A := match s.env k with | some p => p | none => .any
def XS.put (s : XS A) (d : Nat) (p : AV A) : XS A := { s with env := fun k => bif Nat.beq k d then some p else s.env k }
def XS.putO (s : XS A) : Option Nat → AV A → XS A
  | some d, p => s.put d p
  | none, _ => s
def XS.setL (s : XS A) (i : Nat) (x : Bx A) : XS A := { s with L := fun k => bif Nat.beq k i then some x else s.L k }
def XS.setT (s : XS A) (i sz m : Nat) : XS A := { s with T := fun k => bif Nat.beq k i then some ⟨sz, m, none⟩ else s.T k }
def XS.setP (s : XS A) (i sz t : Nat) (l : List (A t)) : XS A := { s with T := fun k => bif Nat.beq k i then some ⟨sz, l.length, some ⟨t, l, 0⟩⟩ else s.T k }
def litA : Value → AV A
  | .slice none 0 0 => .nil
  | v => .sc v
/-- What a frame's slot has. -/
def getN (N : Nat) (s : XS A) (k : Nat) : AV A := bif Nat.blt k N then s.get k else .any
def evA (get : Nat → AV A) : Operand → AV A
  | .tmp t => get t
  | .const v => litA v
  | .func f => .sc (.func (.func f) #[] #[])
  | .global g => .sc (.pointer (some ⟨g, 0, none⟩))
end state
/-! ### What an operation asks for -/
inductive Rq (A : Nat → Type) where
  | bad
  | v (p : AV A)
  | vc (h : Prop) (p : AV A)
  | ld (s off n : Nat) (ag : Bool)
  | box (bx : Bx A)
  | st (s off n : Nat) (cs : List (AV A))
  | tip (t : Nat) (l : List (A t))
  | app (k t bytes : Nat) (l ext : List (A t))
  | app0 (t bytes : Nat) (ext : List (A t))
  | call (f : Nat) (args : List (AV A))
  | panic (p : AV A)
  | ch (c : Bool → Prop)
  | eld (s off e : Nat) (i : Int) (ag : Bool)
  | est (s off e : Nat) (i : Int) (v : A e)
  | tld (k n e : Nat) (i : Int) (ag : Bool)
  | tst (k n e : Nat) (i : Int) (v : A e)
  | papp (k t bytes n : Nat) (ext : List (A t))
/-- What is read out of memory that stays. -/
def leafA {A : Nat → Type} : AV A → AV A
  | .nil => .nil
  | .sc v => .sc v
  | .sl t l => .sl t l
  | .own _ t l => .sl t l
  | .er b => .er b
  | _ => .any
def isCell {A : Nat → Type} : AV A → Bool
  | .any => false
  | .tel _ _ _ _ => false
  | .run _ _ _ => false
  | .und => false
  | .agg _ => false
  | .tup _ => false
  | .grd _ _ _ => false
  | .sc v => v.oneCell'
  | _ => true
def fillA {A : Nat → Type} (places : List (Nat × Nat)) (cells : List (AV A)) : List (Nat × AV A) → Option (List (AV A))
  | [] => some cells
  | (i, p) :: r => match places[i]? with
    | some (off, n) => bif Nat.beq (cellsA p).length n && (Nat.ble (off + n) cells.length && (cellsA p).all isCell) then fillA places (setCells cells off (cellsA p)) r else none
    | none => none
def binI {A : Nat → Type} (op : BinOp) (k k' : IntKind) (a b : Int) : Rq A := match op with
  | .add => bif kindB k k' then .v (.sc (.int k (k.wrap (a + b)))) else .bad
  | .sub => bif kindB k k' then .v (.sc (.int k (k.wrap (a - b)))) else .bad
  | .mul => bif kindB k k' then .v (.sc (.int k (k.wrap (a * b)))) else .bad
  | .eql => bif kindB k k' then .v (.sc (.bool (decide (a = b)))) else .bad
  | .neq => bif kindB k k' then .v (.sc (.bool (!decide (a = b)))) else .bad
  | .lss => bif kindB k k' then .v (.sc (.bool (decide (a < b)))) else .bad
  | .leq => bif kindB k k' then .v (.sc (.bool (decide (a ≤ b)))) else .bad
  | .gtr => bif kindB k k' then .v (.sc (.bool (decide (b < a)))) else .bad
  | .geq => bif kindB k k' then .v (.sc (.bool (decide (b ≤ a)))) else .bad
  | .and => bif kindB k k' then .v (.sc (.int k (iand k a b))) else .bad
  | .or => bif kindB k k' then .v (.sc (.int k (ior k a b))) else .bad
  | .xor => bif kindB k k' then .v (.sc (.int k (ixor k a b))) else .bad
  | .andNot => bif kindB k k' then .v (.sc (.int k (iandNot k a b))) else .bad
  | _ => .bad
/-- Where a row stands at a type's end: how far in, of what type, how many. -/
def tailOf (P : Program) (t : Nat) : Option (Nat × Nat × Nat) := match P.underlying t with
  | some (.array n e) => some (0, e, n)
  | some (.struct fs) => (match fs.toList.getLast? with
    | some f => (match P.underlying f.type with
      | some (.array n e) => some (f.offset, e, n)
      | _ => none)
    | none => none)
  | _ => none
/-- What is asked of a number; of one that is written out, at once. -/
def ask {A : Nat → Type} (y : Operand) (n : Int) (h : Int → Prop) (b : Int → Bool) (p : AV A) : Rq A := match y with
  | .const _ => bif b n then .v p else .bad
  | _ => .vc (h n) p
def askS {A : Nat → Type} (y : Operand) (n : Int) (k : IntKind) (p : Nat → AV A) : Rq A := match y with
  | .const _ => bif decide (0 ≤ n) && Nat.ble n.toNat k.bits then .v (p n.toNat) else .bad
  | _ => .vc (0 ≤ n) (p (min n.toNat k.bits))
def boolA {A : Nat → Type} : AV A → Option Bool
  | .sc (.bool b) => some b
  | _ => none
def binB {A : Nat → Type} (op : BinOp) (a b : Bool) : Rq A := match op with
  | .eql => .v (.sc (.bool (decide (a = b))))
  | .neq => .v (.sc (.bool (!decide (a = b))))
  | _ => .bad
def binStr {A : Nat → Type} (op : BinOp) (a b : ByteArray) : Rq A := match op with
  | .eql => .v (.sc (.bool (a.toList == b.toList)))
  | .neq => .v (.sc (.bool (!(a.toList == b.toList))))
  | .lss => .v (.sc (.bool (Op.bytesLess a.toList b.toList)))
  | .leq => .v (.sc (.bool (Op.bytesLess a.toList b.toList || a.toList == b.toList)))
  | .gtr => .v (.sc (.bool (!(Op.bytesLess a.toList b.toList || a.toList == b.toList))))
  | .geq => .v (.sc (.bool (!Op.bytesLess a.toList b.toList)))
  | _ => .bad
def binA {A : Nat → Type} (bl : Bool) (op : BinOp) (x y : AV A) : Rq A := match x, y with
  | .sc (.int k a), .sc (.int k' b) => binI op k k' a b
  | .sc (.string a), .sc (.string b) => binStr op a b
  | x, y => match bl, boolA x, boolA y with
    | true, some a, some b => binB op a b
    | _, _, _ => .bad
/-- An address against nil. -/
def ptB {A : Nat → Type} (op : BinOp) (x y : AV A) : Option Bool := match op, x, y with
  | .eql, .loc _ _, .sc (.pointer none) => some false
  | .neq, .loc _ _, .sc (.pointer none) => some true
  | .eql, .sc (.pointer none), .sc (.pointer none) => some true
  | .neq, .sc (.pointer none), .sc (.pointer none) => some false
  | _, _, _ => none
def binX {A : Nat → Type} (pt bl : Bool) (op : BinOp) (x y : AV A) : Rq A := match pt, ptB op x y with
  | true, some b => .v (.sc (.bool b))
  | _, _ => binA bl op x y
def isPtrT (P : Program) (t : Nat) : Bool := match P.underlying t with
  | some (.pointer _) => true
  | _ => false
def isBoolT (P : Program) (t : Nat) : Bool := match P.underlying t with
  | some .bool => true
  | _ => false
section rq
variable (S : Sys) (P : Program)
def u8H {A : Nat → Type} : (lv : List Leaf) → Option (HL A lv → Int)
  | [.int .u8] => some fun h => h.1
  | _ => none
/-- The bytes that a slice holds. -/
def bytesA : AV S.A → Option (List Int)
  | .nil => some []
  | .sl t l => (match u8H (S.shp t).lv with | some f => some (l.map fun x => f ((S.shp t).toH x)) | none => none)
  | .own _ t l => (match u8H (S.shp t).lv with | some f => some (l.map fun x => f ((S.shp t).toH x)) | none => none)
  | _ => none
def rowA (e : Nat) : Nat → List (AV S.A) → Option (List (S.A e))
  | 0, [] => some []
  | 0, _ :: _ => none
  | n + 1, cs => match dec S e (cs.take (szOf S e)), rowA e n (cs.drop (szOf S e)) with
    | some a, some l => some (a :: l)
    | _, _ => none
def mkBx (t : Nat) (cs : List (AV S.A)) : Bx S.A := match tailOf P t with
  | some (off, e, n) => (match rowA S e n (cs.drop off) with
    | some l => bif Nat.ble off cs.length then ⟨cs.take off, some ⟨e, l, 0⟩⟩ else .of cs
    | none => .of cs)
  | none => .of cs
def findG (b : Nat) : List (Gv S.A) → Option (Gv S.A)
  | [] => none
  | x :: r => bif Nat.beq x.b b then some x else findG b r
/-- A slice of which nothing is known but its things, against nil. -/
def nilQ (op : BinOp) (x : AV S.A) : Option (Bool → Prop) := match op, x with
  | .eql, .sl _ l => some fun v => l ≠ [] → v = false
  | .neq, .sl _ l => some fun v => l ≠ [] → v = true
  | .eql, .own _ _ l => some fun v => l ≠ [] → v = false
  | .neq, .own _ _ l => some fun v => l ≠ [] → v = true
  | _, _ => none
def nilK : Operand → Bool
  | .const (.slice none 0 0) => true
  | _ => false
def nilE : Operand → Bool
  | .const .nilIface => true
  | _ => false
def isErT (P : Program) (t : Nat) : Bool := match P.underlying t with
  | some (.interface _) => true
  | _ => false
/-- An error against nil. -/
def errQ0 {A : Nat → Type} (P : Program) (t : Nat) (y : Operand) (op : BinOp) (p : AV A) : Option Bool := match isErT P t, nilE y, op, p with
  | true, true, .eql, .er b => some (!b)
  | true, true, .neq, .er b => some b
  | _, _, _, _ => none
/-- Structs, field by field. -/
def eqFs (g : Nat → List Value → List Value → Option Bool) (ty : Nat → Option (Bool × Nat)) : List Field → List Value → List Value → Option Bool
  | [], _, _ => some true
  | f :: r, us, vs => match f.name == "_", ty f.type with
    | false, some (ag, n) => bif (Nat.ble (f.offset + n) us.length && Nat.ble (f.offset + n) vs.length) && (ag || Nat.beq n 1) then (match g f.type ((us.drop f.offset).take n) ((vs.drop f.offset).take n), eqFs g ty r us vs with
      | some a, some b => some (a && b)
      | _, _ => none) else none
    | _, _ => none
def eqV (P : Program) : Nat → Nat → List Value → List Value → Option Bool
  | 0, _, _, _ => none
  | d + 1, t, us, vs => match P.underlying t, us, vs with
    | some (.int k0), [.int k a], [.int k' b] => bif kindB k0 k && kindB k k' then some (decide (a = b)) else none
    | some .bool, [.bool a], [.bool b] => some (decide (a = b))
    | some .string, [.string a], [.string b] => some (decide (a = b))
    | some (.struct fs), us, vs => bif P.stoodInHeld t then none else eqFs (eqV P d) (tyOf P) fs.toList us vs
    | _, _, _ => none
def scL {A : Nat → Type} : List (AV A) → Option (List Value)
  | [] => some []
  | .sc v :: r => (match scL r with
    | some l => some (v :: l)
    | none => none)
  | _ :: _ => none
def aggQ {A : Nat → Type} (P : Program) (t : Nat) (op : BinOp) (p q : AV A) : Option Bool := match op, p, q with
  | .eql, .agg xs, .agg ys => (match P.eqGuardType P.depth t, tyOf P t, scL xs, scL ys with
    | false, some (true, _), some us, some vs => eqV P 16 t us vs
    | _, _, _, _ => none)
  | .neq, .agg xs, .agg ys => (match P.eqGuardType P.depth t, tyOf P t, scL xs, scL ys with
    | false, some (true, _), some us, some vs => (match eqV P 16 t us vs with
      | some r => some (!r)
      | none => none)
    | _, _, _, _ => none)
  | _, _, _ => none
/-- A comparison that is known at once. -/
def errQ {A : Nat → Type} (P : Program) (t : Nat) (y : Operand) (op : BinOp) (p q : AV A) : Option Bool := match errQ0 P t y op p with
  | some b => some b
  | none => aggQ P t op p q
/-- A string's bytes as things. -/
def u8O {A : Nat → Type} : (lv : List Leaf) → Option (Int → HL A lv)
  | [.int .u8] => some fun n => (n, ())
  | _ => none
def isSlT (P : Program) (t : Nat) : Bool := match P.underlying t with
  | some (.slice _) => true
  | _ => false
def isIface (t : Nat) : Bool := match P.underlying t with
  | some (.interface _) => true
  | some _ => false
  | none => true
/-- A slice's things. -/
def slT {A : Nat → Type} (e : Nat) (p : AV A) : Option (List (A e)) := asSl e p
def boundA {A : Nat → Type} (get : Nat → AV A) (d : Int) : Option Operand → Option Int
  | none => some d
  | some x => match evA get x with
    | .sc (.int _ n) => some n
    | _ => none
def elemsA (e : Nat) (get : Nat → AV S.A) : Nat → List (Nat × Operand) → Option (List (S.A e))
  | _, [] => some []
  | i, (j, x) :: r => bif Nat.beq i j then (match dec S e (cellsA (evA get x)) with
    | some a => match elemsA e get (i + 1) r with
      | some l => some (a :: l)
      | none => none
    | none => none) else none
def capsA {A : Nat → Type} : List (AV A) → Option (List (Option Nat))
  | [] => some []
  | .loc s off :: r => match off with
    | 0 => match capsA r with | some l => some (some s :: l) | none => none
    | _ => none
  | _ => none
/-- An append of so many zero things to a list of the call's own. -/
def mkN (n : Int) : Nat := bif decide (0 ≤ n) then n.toNat else 281474976710656
def rqMk (get : Nat → AV S.A) (t' e : Nat) (x y : Operand) : Rq S.A := match P.underlying t', evA get y, eltOf P e, zeroOf P e with
  | some (.int _), .sc (.int _ n), some (sz, by'), some zv => bif Nat.beq sz (szOf S e) then (match dec S e (zv.cells.toList.map litA), evA get x with
    | some z, .own k u l => if h : Nat.beq u e = true then .app k e by' (castT h l) (List.replicate (mkN n) z) else .bad
    | _, _ => .bad) else .bad
  | _, _, _, _ => .bad
/-- A string's byte. -/
def sAt (s : ByteArray) (n : Int) : Int := ((s.data.toList.getD n.toNat 0).toNat : Int)
def rqBuiltin (get : Nat → AV S.A) (b : Builtin) (args : List Operand) (ts : List Nat) : Rq S.A := match b, args, ts with
  | .len, [x], [t] => (match P.underlying t with
    | some (.slice e) => (match slT e (evA get x) with
      | some l => .v (.sc (.int .i64 (l.length : Int)))
      | none => (match evA get x with
        | .prv _ _ n => .v (.sc (.int .i64 (n : Int)))
        | _ => .bad))
    | some .string => (match evA get x with
      | .sc (.string s) => .v (.sc (.int .i64 (s.size : Int)))
      | _ => .bad)
    | _ => .bad)
  | .append, [x, y], [t, t'] => (match P.underlying t, Nat.beq t t' with
    | some (.slice e), true => (match eltOf P e, slT e (evA get y) with
      | some (sz, by'), some ext => bif Nat.beq sz (szOf S e) then (match evA get x with
        | .own k u l => if h : Nat.beq u e = true then .app k e by' (castT h l) ext else .bad
        | .nil => .app0 e by' ext
        | .prv k u n => bif Nat.beq u e then .papp k e by' n ext else .bad
        | _ => .bad) else .bad
      | _, _ => .bad)
    | some (.slice e), false => rqMk S P get t' e x y
    | _, _ => .bad)
  | .min, [x, y], _ => (match evA get x, evA get y with
    | .sc (.int k a), .sc (.int k' b) => bif kindB k k' then .v (.sc (.int k (bif decide (b < a) then b else a))) else .bad
    | _, _ => .bad)
  | _, _, _ => .bad
def rq (get : Nat → AV S.A) : Op → Rq S.A
  | .move x => .v (evA get x)
  | .assign x => .v (evA get x)
  | .alloc t => (match zeroOf P t with | some z => .box (mkBx S P t (z.cells.toList.map litA)) | none => .bad)
  | .box t x => .box (mkBx S P t (cellsA (evA get x)))
  | .load t a => (match tyOf P t with
    | some (ag, n) => (match evA get a with
      | .loc s off => .ld s off n ag
      | .el s off e i => bif Nat.beq n (szOf S e) && (ag || Nat.beq n 1) then .eld s off e i ag else .bad
      | .tel k e n' i => bif Nat.beq n (szOf S e) && (ag || Nat.beq n 1) then .tld k n' e i ag else .bad
      | .pt cs => bif Nat.beq (cs.take n).length n && (ag || Nat.beq n 1) then .v (ofCells ag ((cs.take n).map leafA)) else .bad
      | _ => .bad)
    | none => .bad)
  | .store t a x => (match tyOf P t with
    | some (ag, n) => (match evA get a with
      | .loc s off => .st s off n (cellsA (evA get x))
      | .el s off e i => (match Nat.beq n (szOf S e), dec S e (cellsA (evA get x)) with
        | true, some v => .est s off e i v
        | _, _ => .bad)
      | .tel k e n' i => (match Nat.beq n (szOf S e), dec S e (cellsA (evA get x)) with
        | true, some v => .tst k n' e i v
        | _, _ => .bad)
      | _ => .bad)
    | none => .bad)
  | .fieldAddr t x f => (match fldOf P t f with
    | some (off, _, _) => (match evA get x with
      | .loc s o => .v (.loc s (o + off))
      | .pt cs => .v (.pt (cs.drop off))
      | _ => .bad)
    | none => .bad)
  | .field t x f => (match fldOf P t f with
    | some (off, ag, n) => (match evA get x with
      | .agg cs => bif Nat.ble (off + n) cs.length && (ag || Nat.beq n 1) then .v (ofCells ag ((cs.drop off).take n)) else .bad
      | _ => .bad)
    | none => .bad)
  | .extract x i => (match evA get x with
    | .tup vs => (match vs[i]? with | some p => .v (unT p) | none => .bad)
    | _ => .bad)
  | .build t parts => (match zeroOf P t, P.underlying t with
    | some z, some (.struct fs) => (match placesOf P fs.toList with
      | some pl => (match fillA pl (z.cells.toList.map litA) (parts.toList.map fun x => (x.1, evA get x.2)) with
        | some cs => bif z.cells.toList.all (·.oneCell') then .v (.agg cs) else .bad
        | none => .bad)
      | none => .bad)
    | _, _ => .bad)
  | .buildSlice t n parts => (match P.underlying t with
    | some (.slice e) => (match elemsA S e get 0 parts.toList, eltOf P e with
      | some l, some (sz, _) => bif Nat.beq l.length n && Nat.beq sz (szOf S e) && Nat.ble (n * sz) 16777216 then .tip e l else .bad
      | _, _ => .bad)
    | _ => .bad)
  | .binOp op t x y _ => (match op, evA get x, evA get y with
    | .add, .sc (.string a), .sc (.string b) => .vc (a.size + b.size ≤ 9223372036854775807) (.sc (.string (a ++ b)))
    | .shl, .sc (.int k a), .sc (.int _ n) => askS y n k (fun m => .sc (.int k (k.wrap (a * 2 ^ m))))
    | .shr, .sc (.int k a), .sc (.int _ n) => askS y n k (fun m => .sc (.int k (Int.fdiv a (2 ^ m))))
    | .quo, .sc (.int k a), .sc (.int k' n) => bif kindB k k' then ask y n (fun n => n ≠ 0) (fun n => !decide (n = 0)) (.sc (.int k (k.wrap (Int.tdiv a n)))) else .bad
    | .rem, .sc (.int k a), .sc (.int k' n) => bif kindB k k' then ask y n (fun n => n ≠ 0) (fun n => !decide (n = 0)) (.sc (.int k (Int.tmod a n))) else .bad
    | op, p, q => (match errQ P t y op p q with
      | some b => .v (.sc (.bool b))
      | none => (match nilK y, nilQ S op p with
        | true, some c => bif isSlT P t then .ch c else .bad
        | _, _ => binX (isPtrT P t) (isBoolT P t) op p q)))
  | .unOp op _ x => (match op, evA get x with
    | .not, .sc (.bool b) => .v (.sc (.bool (!b)))
    | .neg, .sc (.int k n) => .v (.sc (.int k (k.wrap (0 - n))))
    | .xor, .sc (.int k n) => .v (.sc (.int k (ixor k (if k.signed then -1 else k.max) n)))
    | _, _ => .bad)
  | .convert u t x => (match P.underlying u, P.underlying t, evA get x with
    | some (.int _), some (.int k), .sc (.int _ n) => .v (.sc (.int k (k.wrap n)))
    | some (.slice e), some .string, p => (match P.underlying e, bytesA S p with
      | some (.int .u8), some ns => .v (.sc (.string (bsOf ns)))
      | _, _ => .bad)
    | some .string, some (.slice e), .sc (.string b) => (match P.underlying e, u8O (S.shp e).lv with
      | some (.int .u8), some f => .vc (b.size ≤ 9223372036854775807) (.sl e (b.data.toList.map fun c => (S.shp e).ofH (f (c.toNat : Int))))
      | _, _ => .bad)
    | _, _, _ => .bad)
  | .nilCheck x => (match evA get x with
    | .loc s off => .v (.loc s off)
    | .clo f ls => .v (.clo f ls)
    | _ => .bad)
  | .panic x => (match evA get x with
    | .ifc t y => .panic (.ifc t y)
    | _ => .bad)
  | .makeInterface t x => (match isIface P t, dec S t (cellsA (evA get x)) with
    | false, some y => (match tyOf P t with
      | some (true, _) => (match evA get x with
        | .agg _ => .v (.ifc t y)
        | _ => .bad)
      | _ => .bad)
    | _, _ => .bad)
  | .typeAssert x _ t true => (match isIface P t, evA get x with
    | false, .ifc u y => bif Nat.beq u t then .v (.tup [.agg (av S u y), .sc (.bool true)]) else .bad
    | false, .sc .nilIface => (match zeroOf P t with
      | some (.agg cs) => bif cs.toList.all (·.oneCell') then .v (.tup [.agg (cs.toList.map litA), .sc (.bool false)]) else .bad
      | _ => .bad)
    | _, _ => .bad)
  | .indexAddr t x i => (match P.underlying t, evA get i with
    | some (.slice e), .sc (.int _ n) => (match slT e (evA get x), tyOf P e with
      | some l, some (_, m) => bif Nat.beq m (szOf S e) then .vc (0 ≤ n ∧ n < (l.length : Int)) (.pt (av S e (@ix _ (S.inh e) l n))) else .bad
      | none, some (_, m) => (match evA get x with
        | .prv k u c => bif Nat.beq u e && Nat.beq m (szOf S e) then .vc (0 ≤ n ∧ n < (c : Int)) (.tel k e c n) else .bad
        | _ => .bad)
      | _, _ => .bad)
    | some (.array c e), .sc (.int _ n) => (match tyOf P e with
      | some (_, m) => bif !Nat.beq m (szOf S e) then .bad else (match evA get x with
        | .loc s off => .vc (0 ≤ n ∧ n < (c : Int)) (.el s off e n)
        | .sc (.pointer (some ⟨b, 0, none⟩)) => (match findG S b S.glob with
          | some gv => if h : Nat.beq gv.e e = true then bif Nat.beq gv.l.length c then .vc (0 ≤ n ∧ n < (c : Int)) (.pt (av S e (@ix _ (S.inh e) (castT h gv.l) n))) else .bad else .bad
          | none => .bad)
        | _ => .bad)
      | none => .bad)
    | _, _ => .bad)
  | .slice t x lo hi mx => (match P.underlying t with
    | some (.slice e) => (match slT e (evA get x), tyOf P e with
      | some l, some (_, m) => (match boundA get 0 lo, boundA get (l.length : Int) hi, mx with
        | some a, some b, none => bif Nat.beq m (szOf S e) then .vc (0 ≤ a ∧ a ≤ b ∧ b ≤ (l.length : Int)) (.sl e (sub l a b)) else .bad
        | some a, some b, some _ => (match hi, boundA get 0 mx with
          | some _, some b' => bif Nat.beq m (szOf S e) then .vc (b' = b ∧ 0 ≤ a ∧ a ≤ b ∧ b ≤ (l.length : Int)) (.sl e (sub l a b)) else .bad
          | _, _ => .bad)
        | _, _, _ => .bad)
      | _, _ => .bad)
    | some .string => (match evA get x, mx with
      | .sc (.string s), none => (match boundA get 0 lo, boundA get (s.size : Int) hi with
        | some a, some b => .vc (0 ≤ a ∧ a ≤ b ∧ b ≤ (s.size : Int)) (.sc (.string (s.extract a.toNat b.toNat)))
        | _, _ => .bad)
      | _, _ => .bad)
    | _ => .bad)
  | .index t x i => (match P.underlying t, evA get x, evA get i with
    | some .string, .sc (.string s), .sc (.int _ n) => .vc (0 ≤ n ∧ n < (s.size : Int)) (.sc (.int .u8 (sAt s n)))
    | _, _, _ => .bad)
  | .makeFunc (.func f) first captured => (match first.toList, capsA (captured.toList.map (evA get)) with
    | [], some ls => .v (.clo f ls)
    | _, _ => .bad)
  | .call c => (match c.callee with
    | .builtin b => rqBuiltin S P get b c.args.toList c.argTypes.toList
    | .value f => (match evA get f with
      | .sc (.func (.func f) ⟨[]⟩ ⟨[]⟩) => .call f (c.args.toList.map (evA get))
      | .clo f ls => .call f (c.args.toList.map (evA get) ++ ls.map fun o => match o with | some s => .loc s 0 | none => .sc (.pointer none))
      | _ => .bad)
    | _ => .bad)
  | _ => .bad
end rq
/-- Do an append's two operands have one type? -/
def sameT (c : Call) : Bool := match c.argTypes.toList with
  | [t, t'] => Nat.beq t t'
  | _ => false
/-! ### Running -/
def withP (p : Option Prop) (q : Prop) : Prop := match p with | some p => p ∧ q | none => q
inductive XE (A : Nat → Type) where
  | normal
  | exit (id : Nat)
  | ret
  | panic (p : AV A)
/-- A contract: what is asked, and what is there behind it; or what is asked, and what is handed back. -/
inductive Con (A : Nat → Type) where
  | tr (W : List (AV A) → (AV A → Prop) → Prop)
  | fn (F : List (AV A) → Option (AV A))
  | srt (e g : Nat) (Q : List (A e) → Prop) (R : A e → A e → Prop)
  | own (e : Nat) (F : List (AV A) → Option (Prop × List (A e)))
  | bx (t : Nat) (F : A t → List (AV A) → Option (Option Prop × AV A × A t))
/-- A place that varies: a slot; a cell of the box that a slot leads to; such a box as one thing. -/
inductive Pl where
  | sl (d : Nat)
  | ce (d i : Nat)
  | bx (d : Nat)
  | tl (d : Nat)
inductive RPl where
  | sl (d : Nat)
  | ce (x i : Nat)
  | bx (x : Nat)
  | tl (x : Nat)
inductive LK where
  | int (k : IntKind)
  | bool
  | str
  | sl (t : Nat)
  | own (t : Nat)
  | prv (t : Nat)
  | ag (t : Nat)
  | bx (t : Nat)
  | run
inductive RK where
  | int (k : IntKind)
  | bool
  | str
  | sl (t : Nat)
  | own (k t : Nat)
  | prv (k t : Nat)
  | ag (t : Nat)
  | bx (t : Nat)
  | run (t pad : Nat)
abbrev RK.ty (A : Nat → Type) : RK → Type
  | .int _ => Int
  | .bool => Bool
  | .str => ByteArray
  | .sl t => List (A t)
  | .own _ t => List (A t)
  | .prv _ t => List (A t)
  | .ag t => A t
  | .bx t => A t
  | .run t _ => List (A t)
abbrev RV := List (RPl × RK)
abbrev HV (A : Nat → Type) : RV → Type
  | [] => Unit
  | [x] => x.2.ty A
  | x :: y :: xs => x.2.ty A × HV A (y :: xs)
/-- An order's beginning; where several may come next, each. -/
inductive Sch where
  | done
  | one (i : Nat) (t : Sch)
  | alt (i : Nat) (t : Sch) (r : Sch)
inductive Ann where
  | join (V : List (Pl × LK))
  | loop (V : List (Pl × LK))
  | frz (V : List Pl)
  | mt (ts : List Nat)
  | all
  | hyb (E : List (Nat × (List Nat × List Nat))) (t : Sch)
structure Cfg (S : Sys) where
  P : Program
  K : List (Nat × Con S.A)
  inl : List Nat
  ann : List (Nat × List (Nat × Ann))
  mt : List Nat := []
  dr : Bool := false
inductive LOOP {ι : Type} (step : ι → (ι → Prop) → Prop) (x : ι) : Prop
  | mk (h : ∀ J : ι → Prop, (∀ y, step y J → J y) → J x)
structure JP {ι : Type} (rest : ι → Prop) (body : (ι → Prop) → Prop) : Prop where
  mk ::
  h : body rest
section run
variable {S : Sys} (C : Cfg S)
abbrev CallT (S : Sys) := Nat → List (AV S.A) → XS S.A → (AV S.A → XS S.A → Prop) → (AV S.A → XS S.A → Prop) → Prop
/-- A function with a body, and no other. -/
def fnB (P : Program) (f : Nat) : Bool := match P.funcs[f]? with
  | some fn => !(fn.name == "runtime.NumGoroutine") && !fn.body.isNone
  | none => false
def flatA {A : Nat → Type} : AV A → Bool
  | .tup _ => false
  | .grd _ _ _ => false
  | _ => true
def isClo {A : Nat → Type} (g : Nat) : AV A → Bool
  | .clo f [] => Nat.beq f g
  | .sc (.func (.func f) ⟨[]⟩ ⟨[]⟩) => Nat.beq f g
  | _ => false
/-- One operation that is carried out; id: a number that names nothing yet. -/
def exec (call : CallT S) (b : XS S.A) (id : Nat) (d : Option Nat) (s : XS S.A) (k : XS S.A → Prop) (kp : AV S.A → XS S.A → Prop) (op : Op) : Rq S.A → Prop
  | .v p => match d with | some d => k (s.put d (unG p)) | none => False
  | .vc h p => match d with | some d => h ∧ k (s.put d (unG p)) | none => False
  | .ld x off n ag => match op, d, (s.over b).L x with
    | .load _ _, some d, some bx => (bif Nat.beq ((bx.cs.drop off).take n).length n && (ag || Nat.beq n 1) then k (s.put d (unG (ofCells ag ((bx.cs.drop off).take n)))) else False)
    | _, _, _ => False
  | .box bx => match op, d with
    | .alloc _, some d => bif bx.cs.all isCell then k ((s.setL id bx).put d (.loc id 0)) else False
    | .box _ _, some d => bif bx.cs.all isCell then k ((s.setL id bx).put d (.loc id 0)) else False
    | _, _ => False
  | .st x off n cs => match op, d, (s.over b).L x with
    | .store _ _ _, none, some bx => (bif Nat.beq cs.length n && (Nat.ble (off + n) bx.cs.length && cs.all isCell) then k (s.setL x { bx with cs := setCells bx.cs off cs }) else False)
    | _, _, _ => False
  | .tip t l => match op, d with
    | .buildSlice _ _ _, some d => k ((s.setT id (szOf S t) l.length).put d (.own id t l))
    | _, _ => False
  | .app q t bytes l ext => match op, d, (s.over b).T q with
    | .call c, some d, some ⟨sz, m, none⟩ => bif !Nat.beq sz (szOf S t) then False else bif memN t C.mt && sameT c then
        (l = [] ∧ m = 0 ∧ ext.length * bytes ≤ 140737488355328) ∧ ∀ y, y = ext → k ((s.setP q sz t y).put d (.prv q t y.length))
      else (l.length = m ∧ (l.length + ext.length) * bytes ≤ 140737488355328) ∧ ∀ y, y = l ++ ext → k ((s.setT q sz y.length).put d (.own q t y))
    | _, _, _ => False
  | .app0 t bytes ext => match op, d with
    | .call _, some d => bif memN t C.mt then ext.length * bytes ≤ 140737488355328 ∧ ∀ y, y = ext → k ((s.setP id (szOf S t) t y).put d (.prv id t y.length))
      else ext.length * bytes ≤ 140737488355328 ∧ ∀ y, y = ext → k ((s.setT id (szOf S t) y.length).put d (.own id t y))
    | _, _ => False
  | .papp q t bytes n ext => match op, d, (s.over b).T q with
    | .call _, some d, some ⟨sz, m, some ⟨u, l, _⟩⟩ => bif !Nat.beq sz (szOf S t) then False else if h : Nat.beq u t = true then
        (n = l.length ∧ m = l.length ∧ (l.length + ext.length) * bytes ≤ 140737488355328) ∧ ∀ y, y = castT h l ++ ext → k ((s.setP q sz t y).put d (.prv q t y.length)) else False
    | _, _, _ => False
  | .call f args => match op, d with
    | .call _, some d => bif fnB C.P f && args.all flatA then (match Ab.look C.K f with
      | some (.tr W) => W args (fun r => k (s.put d (unG r)))
      | some (.fn F) => (match F args with | some r => k (s.put d (unG r)) | none => False)
      | some (.srt e g Q R) => (match args with
        | [.prv q u n, p] => (match isClo g p, (s.over b).T q with
          | true, some ⟨sz, m, some ⟨u', l, _⟩⟩ => if h : Nat.beq u' e = true then bif Nat.beq u e && Nat.beq sz (szOf S e) then
              ((n = l.length ∧ m = l.length) ∧ Q (castT h l)) ∧ ∀ y : List (S.A e), y.Perm (castT h l) → y.Pairwise R → k ((s.setP q sz e y).put d (.tup [])) else False else False
          | _, _ => False)
        | [.nil, p] => bif isClo g p then k (s.put d (.tup [])) else False
        | _ => False)
      | some (.own e F) => (match F args with
        | some (h, l) => bif memN e C.mt then h ∧ ∀ y : List (S.A e), y = l → k ((s.setP id (szOf S e) e y).put d (.prv id e y.length))
          else h ∧ ∀ y : List (S.A e), y = l → k ((s.setT id (szOf S e) y.length).put d (.own id e y))
        | none => False)
      | some (.bx t F) => (match args with
        | .loc x 0 :: as => (match (s.over b).L x with
          | some ⟨cs, none⟩ => (match dec S t cs with
            | some y => (match F y as with
              | some (h, r, z) => withP h (∀ u : S.A t, u = z → k ((s.setL x (.of (av S t u))).put d (unG r)))
              | none => False)
            | none => False)
          | _ => False)
        | _ => False)
      | none => call f args s.mem (fun r m => k ((s.withM m).put d (unG r))) (fun p m => kp p (s.withM m))) else False
    | _, _ => False
  | .panic p => match op, d with
    | .panic _, none => bif C.dr then False else kp p s
    | _, _ => False
  | .ch c => match d with | some d => ∀ v, c v → k (s.put d (.sc (.bool v))) | none => False
  | .eld x off e i ag => match op, d, (s.over b).L x with
    | .load _ _, some d, some ⟨cs, some ⟨u, l, _⟩⟩ => if h : Nat.beq u e = true then bif Nat.beq cs.length off then
        i.toNat < l.length ∧ k (s.put d (unG (ofCells ag (av S e (@ix _ (S.inh e) (castT h l) i))))) else False else False
    | _, _, _ => False
  | .est x off e i v => match op, d, (s.over b).L x with
    | .store _ _ _, none, some ⟨cs, some ⟨u, l, pad⟩⟩ => if h : Nat.beq u e = true then bif Nat.beq cs.length off then
        i.toNat < l.length ∧ k (s.setL x ⟨cs, some ⟨e, (castT h l).set i.toNat v, pad⟩⟩) else False else False
    | _, _, _ => False
  | .tld q n e i ag => match C.dr, op, d, (s.over b).T q with
    | false, .load _ _, some d, some ⟨sz, m, some ⟨u, l, _⟩⟩ => if h : Nat.beq u e = true then bif Nat.beq sz (szOf S e) then
        (n = l.length ∧ m = l.length ∧ i.toNat < l.length) ∧ k (s.put d (unG (ofCells ag (av S e (@ix _ (S.inh e) (castT h l) i))))) else False else False
    | _, _, _, _ => False
  | .tst q n e i v => match op, d, (s.over b).T q with
    | .store _ _ _, none, some ⟨sz, m, some ⟨u, l, _⟩⟩ => if h : Nat.beq u e = true then bif Nat.beq sz (szOf S e) then
        (n = l.length ∧ m = l.length ∧ i.toNat < l.length) ∧ k (s.setP q sz e ((castT h l).set i.toNat v)) else False else False
    | _, _, _ => False
  | _ => False
/-! #### Guards -/
abbrev Kn := Nat → Option Bool
def eqB : Bool → Bool → Bool
  | true, true => true
  | false, false => true
  | _, _ => false
def memG (g : Nat) (w : Bool) : List (Nat × Bool) → Bool
  | [] => false
  | (g', w') :: r => (Nat.beq g g' && eqB w w') || memG g w r
/-- What holds under known guards. -/
def stripG {A : Nat → Type} (kn : Kn) (ch : List (Nat × Bool)) : AV A → AV A
  | .grd g w p => match kn g with
    | some v => bif eqB v w then p else .und
    | none => p
  | p => p
inductive GC where
  | off
  | on
  | cond (ch : List (Nat × Bool))
  | bad
def gcond {A : Nat → Type} (get : Nat → AV A) (kn : Kn) (g : Nat) (w : Bool) : Nat → GC
  | 0 => .bad
  | n + 1 => match kn g with
    | some v => bif eqB v w then .on else .off
    | none => match get g with
      | .und => .off
      | .sc (.bool _) => .cond [(g, w)]
      | .grd g' w' p => (match p with
        | .sc (.bool _) => (match gcond get kn g' w' n with
          | .on => .cond [(g, w)]
          | .off => .off
          | .cond ch => .cond ((g, w) :: ch)
          | .bad => .bad)
        | _ => .bad)
      | _ => .bad
/-- The bool that a guard's slot has. -/
def gval {A : Nat → Type} (get : Nat → AV A) (g : Nat) : Option Bool := match get g with
  | .sc (.bool v) => some v
  | .grd _ _ (.sc (.bool v)) => some v
  | _ => none
/-- h, wherever all guards hold. -/
def whenC {A : Nat → Type} (get : Nat → AV A) (h : Prop) : List (Nat × Bool) → Prop
  | [] => h
  | (g, w) :: r => match gval get g, w with
    | some v, true => whenC get (v = true → h) r
    | some v, false => whenC get (v = false → h) r
    | none, _ => False
def knSet (kn : Kn) (g : Nat) (v : Bool) : Kn := fun x => bif Nat.beq x g then some v else kn x
/-- All guards are settled, the outermost first. -/
def splitG {A : Nat → Type} (get : Nat → AV A) (kon koff : Kn → Prop) : List (Nat × Bool) → Kn → Prop
  | [], kn => kon kn
  | (g, w) :: r, kn => splitG get (fun kn => match gval get g, w with
      | some v, true => cond v (kon (knSet kn g true)) (koff (knSet kn g false))
      | some v, false => cond v (koff (knSet kn g true)) (kon (knSet kn g false))
      | none, _ => False) koff r kn
def selB {A : Nat → Type} (c : Bool) (x y : AV A) : Option (AV A) := match x, y with
  | .sc (.bool a), .sc (.bool a') => some (.sc (.bool (cond c a a')))
  | _, _ => none
def dstOf (ops : List Oper) (j : Nat) : Option Nat := match ops[j]? with | some o => o.dst | none => none
/-- May what a slot has be used, where ch and kn hold? -/
def okG {A : Nat → Type} (kn : Kn) (ch : List (Nat × Bool)) : AV A → Bool
  | .grd g w _ => (match kn g with
    | some _ => true
    | none => memG g w ch)
  | _ => true
def okX (get : Nat → AV S.A) (kn : Kn) (ch : List (Nat × Bool)) : Operand → Bool
  | .tmp t => okG kn ch (get t)
  | _ => true
/-- What an operation asks for, where ch and kn hold; a choice between two bools is one value. -/
def rqM (get : Nat → AV S.A) (kn : Kn) (ch : List (Nat × Bool)) (op : Op) : Rq S.A := match op with
  | .pick (.tmp g) x y => bif !okG kn ch (get g) then .bad else (match stripG kn ch (get g), kn g with
    | .sc (.bool _), some true => bif okX get kn ch x then .v (evA (fun k => stripG kn ch (get k)) x) else .bad
    | .sc (.bool _), some false => bif okX get kn ch y then .v (evA (fun k => stripG kn ch (get k)) y) else .bad
    | .sc (.bool v), none => bif okX get kn ((g, true) :: ch) x && okX get kn ((g, false) :: ch) y then
        (match selB v (evA (fun k => stripG kn ((g, true) :: ch) (get k)) x) (evA (fun k => stripG kn ((g, false) :: ch) (get k)) y) with
        | some p => .v p
        | none => .bad) else .bad
    | _, _ => .bad)
  | .pick _ _ _ => .bad
  | op => bif op.operands.toList.all (okX get kn ch) then rq S C.P (fun k => stripG kn ch (get k)) op else .bad
def quiet {A : Nat → Type} : Rq A → Bool
  | .v _ => true
  | .vc _ _ => true
  | .call _ _ => false
  | _ => false
def dstB (N : Nat) : Option Nat → Bool
  | some d => Nat.blt d N
  | none => true
/-- A load through a slice's thing: it reads no box. -/
def ptLoad (P : Program) (ops : List Oper) : Op → Bool
  | .load _ (.tmp t) => ops.any fun o => match o.dst, o.op with
    | some d, .indexAddr ty _ _ => Nat.beq d t && isSlT P ty
    | _, _ => false
  | _ => false
def rqP {A : Nat → Type} (pl : Bool) (r : Rq A) : Rq A := match pl with
  | true => (match r with | .ld _ _ _ _ => .bad | .eld _ _ _ _ _ => .bad | .tld _ _ _ _ _ => .bad | r => r)
  | false => r
/-- The operations of a region, one behind the other. idf: which number a new thing has. -/
def runM (N : Nat) (call : CallT S) (b : XS S.A) (ops : List Oper) (idf : Nat → XS S.A → Nat) (nx : XS S.A → XS S.A) (kp : AV S.A → XS S.A → Prop) : List (Nat × Oper) → XS S.A → Kn → (XS S.A → Prop) → Prop
  | [], s, _, k => k s
  | (i, o) :: r, s, kn, k =>
    bif !dstB N o.dst then False else
    match o.guard with
    | none => exec C call b (idf i s) o.dst s (fun s' => runM N call b ops idf nx kp r (nx s') kn k) kp o.op (rqP (ptLoad C.P ops o.op) (rqM C (getN N (s.over b)) kn [] o.op))
    | some (j, w) => match dstOf ops j, o.dst with
      | none, _ => False
      | _, none => False
      | some g, some _ => match gcond (getN N (s.over b)) kn g w ops.length with
        | .on => exec C call b (idf i s) o.dst s (fun s' => runM N call b ops idf nx kp r (nx s') kn k) kp o.op (rqP (ptLoad C.P ops o.op) (rqM C (getN N (s.over b)) kn [] o.op))
        | .off => runM N call b ops idf nx kp r (nx (s.putO o.dst .und)) kn k
        | .cond ch => (match rqP (ptLoad C.P ops o.op) (rqM C (getN N (s.over b)) kn ch o.op) with
          | .v p => runM N call b ops idf nx kp r (nx (s.putO o.dst (.grd g w (unG p)))) kn k
          | .vc h p => whenC (getN N (s.over b)) h ch ∧ runM N call b ops idf nx kp r (nx (s.putO o.dst (.grd g w (unG p)))) kn k
          | .ld x off n ag => (match o.op, (s.over b).L x with
            | .load _ _, some bx => (bif Nat.beq ((bx.cs.drop off).take n).length n && (ag || Nat.beq n 1) then runM N call b ops idf nx kp r (nx (s.putO o.dst (.grd g w (unG (ofCells ag ((bx.cs.drop off).take n)))))) kn k else False)
            | _, _ => False)
          | _ => splitG (getN N (s.over b))
              (fun kn => exec C call b (idf i s) o.dst s (fun s' => runM N call b ops idf nx kp r (nx s') kn k) kp o.op (rqP (ptLoad C.P ops o.op) (rqM C (getN N (s.over b)) kn [] o.op)))
              (fun kn => runM N call b ops idf nx kp r (nx (s.putO o.dst .und)) kn k) ch kn)
        | .bad => False
def addD : Option Nat → List Nat → List Nat
  | some d, D => d :: D
  | none, D => D
/-- Each slot is written once; a guard is there before what it guards. -/
def regOk (ops : List Oper) : List Nat → List (Nat × Oper) → Bool
  | _, [] => true
  | D, (_, o) :: r => (match o.dst with | some d => !memN d D | none => true) &&
    (match o.guard with | none => true | some (j, _) => (match dstOf ops j with | some g => memN g D | none => false)) && regOk ops (addD o.dst D) r
def numd {α : Type} : Nat → List α → List (Nat × α)
  | _, [] => []
  | i, x :: r => (i, x) :: numd (i + 1) r
/-- Slots that hold what may not be there are forgotten. -/
def clearG {A : Nat → Type} (s : XS A) : XS A := { s with env := fun k => match s.env k with
  | some (.grd _ _ _) => some .any
  | x => x }
/-! #### Regions of open order -/
def depsN (o : Oper) : List Nat := (o.after.toList.filter (fun e => Region.binds .any e)).map (·.on)
/-- May an operation be carried out as soon as what it hangs on is there, unseen? -/
def quietOp : Op → Bool
  | .store _ _ _ => false
  | .call c => (match c.callee with
    | .builtin .len => true
    | .builtin .min => true
    | .builtin .max => true
    | _ => false)
  | .mapUpdate _ _ _ _ => false
  | .panic _ => false
  | .defer _ => false
  | .binOp _ _ _ y _ => !nilK y
  | _ => true
def readyB (done : List Nat) (o : Oper) : Bool := (depsN o).all (fun j => memN j done)
def pickB (done : List Nat) (q : Bool) : List (Nat × Oper) → Option ((Nat × Oper) × List (Nat × Oper))
  | [] => none
  | (i, o) :: r => bif readyB done o && (!q || quietOp o.op) then some ((i, o), r) else
    match pickB done q r with
    | some (x, r') => some (x, (i, o) :: r')
    | none => none
/-- An order in which the quiet ones come as soon as they can. -/
def canon : Nat → List Nat → List (Nat × Oper) → List (Nat × Oper)
  | 0, _, _ => []
  | n + 1, done, l => match pickB done true l with
    | some (x, r) => x :: canon n (x.1 :: done) r
    | none => match pickB done false l with
      | some (x, r) => x :: canon n (x.1 :: done) r
      | none => []
/-- All that stand before the operation i. -/
def uni : List Nat → List Nat → List Nat
  | [], l => l
  | j :: r, l => uni r (bif memN j l then l else j :: l)
def befores (ops : List Oper) : List (List Nat) := ops.foldl (fun acc o => acc ++ [(depsN o).foldl (fun l j => uni (j :: acc.getD j []) l) []]) []
def usesO : List Operand → List Nat
  | [] => []
  | .tmp t :: r => t :: usesO r
  | _ :: r => usesO r
def allocB : Op → Bool
  | .alloc _ => true
  | .box _ _ => true
  | .buildSlice _ _ _ => true
  | _ => false
def ldB : Op → Bool
  | .load _ _ => true
  | _ => false
/-- A call that is carried out within its caller's memory. -/
def inlB (C : Cfg S) : Op → Bool
  | .call c => (match c.callee with
    | .value (.func f) => (match Ab.look C.K f with | some (.bx _ _) => true | some _ => false | none => true)
    | .builtin _ => false
    | _ => true)
  | _ => false
def memB (C : Cfg S) : Op → Bool
  | .store _ _ _ => true
  | op => inlB C op
def readsO (ops : List Oper) (o : Oper) : List Nat := usesO o.op.operands.toList ++ (match o.guard with | some (j, _) => (match dstOf ops j with | some g => [g] | none => []) | none => [])
/-- May x, which comes first, as well come behind y? -/
def swapB (C : Cfg S) (ops : List Oper) (x y : Oper) : Bool :=
  quietOp x.op && (match x.dst with | some d => !memN d (readsO ops y) && (match y.dst with | some d' => !Nat.beq d' d && !memN d' (readsO ops x) | none => true) | none => false) && (!inlB C y.op || !allocB x.op) && (!ldB x.op || (ptLoad C.P ops x.op || !memB C y.op))
def pairsB (C : Cfg S) (ops : List Oper) (bf : List (List Nat)) : List (Nat × Oper) → Bool
  | [] => true
  | x :: r => r.all (fun y => memN x.1 (bf.getD y.1 []) || swapB C ops x.2 y.2) && (!memN x.1 (r.map (·.1)) && pairsB C ops bf r)
def drawnOk (C : Cfg S) (ops : List Oper) (π : List (Nat × Oper)) : Bool :=
  pairsB C ops (befores ops) π && (List.range ops.length).all (fun i => memN i (π.map (·.1)))
    && (numd 0 ops).all (fun x => (depsN x.2).all fun j => Nat.blt j x.1)
/-- A code's number: its first region's. -/
def fid : Code → Option Nat
  | .region i _ _ => some i
  | .seq a b => match fid a with | some i => some i | none => fid b
  | .cond _ a b => match fid a with | some i => some i | none => fid b
  | .block _ c => fid c
  | .loop c => fid c
  | .scope c => fid c
  | _ => none
def lookA : List (Nat × Ann) → Nat → Option Ann
  | [], _ => none
  | (j, a) :: r, i => bif Nat.beq j i then (match a with
    | .join V => some (.join V)
    | .loop V => some (.loop V)
    | _ => lookA r i) else lookA r i
def annOf (an : List (Nat × Ann)) (c : Code) : Option Ann := match fid c with | some i => lookA an i | none => none
def lookF : List (Nat × Ann) → Nat → List Pl
  | [], _ => []
  | (j, a) :: r, i => bif Nat.beq j i then (match a with
    | .frz V => V
    | _ => lookF r i) else lookF r i
def frzOf (an : List (Nat × Ann)) (c : Code) : List Pl := match fid c with | some i => lookF an i | none => []
def lookM : List (Nat × Ann) → Nat → List Nat
  | [], _ => []
  | (j, a) :: r, i => bif Nat.beq j i then (match a with
    | .mt ts => ts
    | _ => lookM r i) else lookM r i
/-- One operation, every choice split. -/
def goS (pl : Bool) (N : Nat) (call : CallT S) (b : XS S.A) (id : Nat) (d : Option Nat) (s : XS S.A) (k : XS S.A → Prop) (kp : AV S.A → XS S.A → Prop) (op : Op) : Prop := match op with
  | .pick c x y => match d, boolA (evA (getN N (s.over b)) c) with
    | some d, some v => (v = true → k (s.put d (unG (evA (getN N (s.over b)) x)))) ∧ (v = false → k (s.put d (unG (evA (getN N (s.over b)) y))))
    | _, _ => False
  | op => exec C call b id d s k kp op (rqP pl (rq S C.P (getN N (s.over b)) op))
def stepS (N : Nat) (call : CallT S) (b : XS S.A) (ops : List Oper) (id : Nat) (o : Oper) (s : XS S.A) (k : XS S.A → Prop) (kp : AV S.A → XS S.A → Prop) : Prop :=
  dstB N o.dst = true ∧ match o.guard with
    | none => goS C (ptLoad C.P ops o.op) N call b id o.dst s k kp o.op
    | some (j, w) => match dstOf ops j, o.dst with
      | some g, some d => (getN N (s.over b) g = .und → k (s.put d .und)) ∧ (∀ v, boolA (getN N (s.over b) g) = some v → (v = w → goS C (ptLoad C.P ops o.op) N call b id o.dst s k kp o.op) ∧ (v = (!w) → k (s.put d .und))) ∧ (getN N (s.over b) g = .und ∨ ∃ v, boolA (getN N (s.over b) g) = some v)
      | _, _ => False
def runS (N : Nat) (call : CallT S) (b : XS S.A) (ops : List Oper) (idf : Nat → XS S.A → Nat) (nx : XS S.A → XS S.A) (kp : AV S.A → XS S.A → Prop) : List (Nat × Oper) → XS S.A → (XS S.A → Prop) → Prop
  | [], s, k => k s
  | (i, o) :: r, s, k => stepS C N call b ops (idf i s) o s (fun s' => runS N call b ops idf nx kp r (nx s') k) kp
/-! A region's every order. -/
def stepT (N : Nat) (call : CallT S) (b : XS S.A) (ops : List Oper) (id : Nat) (o : Oper) (s : XS S.A) (k : XS S.A → Prop) (kp : AV S.A → XS S.A → Prop) : Prop := bif dstB N o.dst then (match o.guard with
    | none => goS C (ptLoad C.P ops o.op) N call b id o.dst s k kp o.op
    | some _ => stepS C N call b ops id o s k kp) else False
def rdyA (rem : List (Nat × Oper)) (o : Oper) : Bool := (depsN o).all fun j => !memN j (rem.map (·.1))
def allA {α : Type} (f : α → Prop) : List α → Prop
  | [] => True
  | [x] => f x
  | x :: y :: r => f x ∧ allA f (y :: r)
def delA (i : Nat) (rem : List (Nat × Oper)) : List (Nat × Oper) := rem.filter fun x => !Nat.beq x.1 i
def runA (N : Nat) (call : CallT S) (b : XS S.A) (ops : List Oper) (c0 : Nat) (kp : AV S.A → XS S.A → Prop) (k : XS S.A → Prop) : Nat → List (Nat × Oper) → XS S.A → Prop
  | 0, rem, s => (match rem with
    | [] => k s
    | _ :: _ => False)
  | n + 1, rem, s => (match rem with
    | [] => k s
    | _ :: _ => allA (fun x => stepT C N call b ops (c0 + x.1) x.2 s (fun s1 => runA N call b ops c0 kp k n (delA x.1 rem) s1) kp) (rem.filter fun x => rdyA rem x.2))
/-- The orders that differ. May each of E, where nothing of its list is left, come ahead of all the others? Beside it: what hangs on it. -/
def aftOk (ops : List Oper) (x : Nat) (Af : List Nat) : Bool :=
  Af.all fun a => match ops[a]? with
    | some o => (depsN o).any fun j => Nat.beq j x || memN j Af
    | none => false
def eagOk (C : Cfg S) (ops : List Oper) (E : List (Nat × (List Nat × List Nat))) : Bool :=
  E.all fun e => match ops[e.1]? with
    | some o => aftOk ops e.1 e.2.2 && (numd 0 ops).all fun y => Nat.beq y.1 e.1 || (memN y.1 e.2.1 || (memN y.1 e.2.2 || swapB C ops o y.2))
    | none => false
def schHas : Sch → Nat → Bool
  | .alt i _ r, j => Nat.beq i j || schHas r j
  | _, _ => false
/-- `true`: one of several that may come next. -/
def schOk (E : List (Nat × (List Nat × List Nat))) : Bool → Sch → List (Nat × Oper) → Bool
  | false, .done, rem => rem.isEmpty
  | true, .done, _ => true
  | false, .one i t, rem => (match Ab.look E i with
    | some e => rem.any (fun x => Nat.beq x.1 i && rdyA rem x.2) && (rem.all (fun z => Nat.beq z.1 i || !memN z.1 e.1) && schOk E false t (delA i rem))
    | none => false)
  | false, .alt i t r, rem => !rem.isEmpty && rem.all (fun x => !rdyA rem x.2 || (Nat.beq i x.1 || schHas r x.1)) && (schOk E false t (delA i rem) && schOk E true r rem)
  | true, .alt i t r, rem => schOk E false t (delA i rem) && schOk E true r rem
  | true, .one _ _, _ => false
def runH (N : Nat) (call : CallT S) (b : XS S.A) (ops : List Oper) (c0 : Nat) (kp : AV S.A → XS S.A → Prop) (k : XS S.A → Prop) : Bool → Sch → XS S.A → Prop
  | false, .done, s => k s
  | true, .done, s => True
  | _, .one i t, s => (match ops[i]? with
    | some o => stepT C N call b ops (c0 + i) o s (fun s1 => runH N call b ops c0 kp k false t s1) kp
    | none => False)
  | _, .alt i t r, s => (match ops[i]? with
    | some o => stepT C N call b ops (c0 + i) o s (fun s1 => runH N call b ops c0 kp k false t s1) kp ∧ runH N call b ops c0 kp k true r s
    | none => False)
def lookH : List (Nat × Ann) → Nat → Option (List (Nat × (List Nat × List Nat)) × Sch)
  | [], _ => none
  | (j, a) :: r, i => bif Nat.beq j i then (match a with
    | .hyb E t => some (E, t)
    | _ => lookH r i) else lookH r i
def lookW : List (Nat × Ann) → Nat → Bool
  | [], _ => false
  | (j, a) :: r, i => bif Nat.beq j i then (match a with
    | .all => true
    | _ => lookW r i) else lookW r i
/-- What a region leaves, where something is thrown: its slots are forgotten. -/
def dstsOf (ops : List Oper) : List Nat := ops.filterMap (·.dst)
def XS.frg {A : Nat → Type} (s : XS A) (ds : List Nat) (e : Nat → Option (AV A)) : XS A := { s with env := fun k => bif memN k ds then some .any else e k }
def Cfg.rg (C : Cfg S) (an : List (Nat × Ann)) (i : Nat) (draw : Bool) : Cfg S := { C with dr := draw, mt := lookM an i }
/-- A list that will not be written again. -/
def frz1 (b s : XS S.A) : AV S.A → (XS S.A → AV S.A → Prop) → Prop
  | .prv q t n, k => (match (s.over b).T q with
    | some ⟨sz, m, some ⟨u, l, _⟩⟩ => if h : Nat.beq u t = true then bif Nat.beq sz (szOf S t) then (n = l.length ∧ m = l.length) ∧ k (s.setT q sz l.length) (.own q t (castT h l)) else False else False
    | _ => False)
  | .nil, k => k s .nil
  | _, _ => False
def frzP (N : Nat) (b s : XS S.A) : Pl → (XS S.A → Prop) → Prop
  | .sl d, k => bif Nat.blt d N then frz1 b s ((s.over b).get d) (fun s p => k (s.put d p)) else False
  | .ce d j, k => (match getN N (s.over b) d with
    | .loc x 0 => (match (s.over b).L x with
      | some bx => (match bx.cs[j]? with
        | some p => frz1 b s p (fun s p => k (s.setL x { bx with cs := bx.cs.set j p }))
        | none => False)
      | none => False)
    | _ => False)
  | _, _ => False
def frzV (N : Nat) (b : XS S.A) : List Pl → XS S.A → (XS S.A → Prop) → Prop
  | [], s, k => k s
  | p :: r, s, k => frzP N b s p (fun s => frzV N b r s k)
/-- The slots that a code writes. -/
def asg : Code → List Nat
  | .region _ ops _ => ops.toList.filterMap (·.dst)
  | .seq a b => asg a ++ asg b
  | .cond _ a b => asg a ++ asg b
  | .block _ c => asg c
  | .loop c => asg c
  | .scope c => asg c
  | _ => []
/-! #### What varies -/
def rawAt (N : Nat) (s : XS S.A) : Pl → Option (RPl × List (AV S.A))
  | .sl d => bif Nat.blt d N then some (.sl d, [s.get d]) else none
  | .ce d i => match s.get d with
    | .loc x 0 => (match s.L x with
      | some bx => (match bx.cs[i]? with | some p => some (.ce x i, [p]) | none => none)
      | none => none)
    | _ => none
  | .bx d => match s.get d with
    | .loc x 0 => (match s.L x with
      | some bx => some (.bx x, bx.cs)
      | none => none)
    | _ => none
  | .tl d => match s.get d with
    | .loc x 0 => (match s.L x with
      | some ⟨_, some ⟨t, l, pad⟩⟩ => some (.tl x, [.run t l pad])
      | _ => none)
    | _ => none
def rawR (s : XS S.A) : RPl → Option (List (AV S.A))
  | .sl d => some [s.get d]
  | .ce x i => match s.L x with
    | some bx => (match bx.cs[i]? with | some p => some [p] | none => none)
    | none => none
  | .bx x => match s.L x with
    | some bx => some bx.cs
    | none => none
  | .tl x => match s.L x with
    | some ⟨_, some ⟨t, l, pad⟩⟩ => some [.run t l pad]
    | _ => none
/-- A kind, out of what is there; a nil slice becomes a list of the call's own. -/
def initK (id : Nat) : LK → List (AV S.A) → Option RK
  | .int k, _ => some (.int k)
  | .bool, _ => some .bool
  | .str, _ => some .str
  | .sl t, _ => some (.sl t)
  | .own t, [.nil] => some (.own id t)
  | .own t, [.own k _ _] => some (.own k t)
  | .own _, _ => none
  | .prv t, [.nil] => some (.prv id t)
  | .prv t, [.prv k _ _] => some (.prv k t)
  | .prv _, _ => none
  | .ag t, _ => some (.ag t)
  | .bx t, _ => some (.bx t)
  | .run, [.run t _ pad] => some (.run t pad)
  | .run, _ => none
def initV (N : Nat) (s : XS S.A) : Nat → List (Pl × LK) → Option RV
  | _, [] => some []
  | id, (pl, lk) :: r => match rawAt N s pl with
    | some (rp, cs) => (match initK id lk cs, initV N s (id + 1) r with
      | some rk, some V => some ((rp, rk) :: V)
      | _, _ => none)
    | none => none
def cellsK : (rk : RK) → rk.ty S.A → List (AV S.A)
  | .int k, n => [.sc (.int k n)]
  | .bool, v => [.sc (.bool v)]
  | .str, v => [.sc (.string v)]
  | .sl t, l => [.sl t l]
  | .own k t, l => [.own k t l]
  | .prv k t, l => [.prv k t l.length]
  | .ag t, x => [.any]
  | .bx t, x => av S t x
  | .run _ _, _ => [.any]
def slotK : (rk : RK) → rk.ty S.A → AV S.A
  | .int k, n => .sc (.int k n)
  | .bool, v => .sc (.bool v)
  | .str, v => .sc (.string v)
  | .sl t, l => .sl t l
  | .own k t, l => .own k t l
  | .prv k t, l => .prv k t l.length
  | .ag t, x => .agg (av S t x)
  | .bx _, _ => .any
  | .run _ _, _ => .any
def tlK : (rk : RK) → rk.ty S.A → Option (Tl S.A)
  | .run t pad, l => some ⟨t, l, pad⟩
  | _, _ => none
/-- One thing laid into a state. -/
def layK (s : XS S.A) (rp : RPl) (rk : RK) (x : rk.ty S.A) : XS S.A :=
  let s := match rk, x with
    | .own q t, l => s.setT q (szOf S t) l.length
    | .prv q t, l => s.setP q (szOf S t) t l
    | _, _ => s
  match rp with
  | .sl d => s.put d (slotK rk x)
  | .ce i j => (match s.L i with
    | some bx => s.setL i { bx with cs := bx.cs.set j (slotK rk x) }
    | none => s)
  | .bx i => (match s.L i with
    | some bx => s.setL i { bx with cs := cellsK rk x }
    | none => s)
  | .tl i => (match s.L i with
    | some bx => s.setL i { bx with tl := tlK rk x }
    | none => s)
def layV (s : XS S.A) : (V : RV) → HV S.A V → XS S.A
  | [], _ => s
  | [(rp, rk)], x => layK s rp rk x
  | (rp, rk) :: y :: r, h => layV (layK s rp rk h.1) (y :: r) h.2
def slotsV : RV → List Nat
  | [] => []
  | (.sl d, _) :: r => d :: slotsV r
  | _ :: r => slotsV r
def boxV : RV → List Nat
  | [] => []
  | (.ce x _, _) :: r => x :: boxV r
  | (.bx x, _) :: r => x :: boxV r
  | (.tl x, _) :: r => x :: boxV r
  | _ :: r => boxV r
def tlV : RV → List Nat
  | [] => []
  | (.tl x, _) :: r => x :: tlV r
  | _ :: r => tlV r
def tipV : RV → List Nat
  | [] => []
  | (_, .own q _) :: r => q :: tipV r
  | (_, .prv q _) :: r => q :: tipV r
  | _ :: r => tipV r
/-- Those that are lists of the call's own. -/
def ownsV : RV → RV
  | [] => []
  | (rp, .own q t) :: r => (rp, .own q t) :: ownsV r
  | (rp, .prv q t) :: r => (rp, .prv q t) :: ownsV r
  | _ :: r => ownsV r
/-- The head of a loop, or what is behind ways that meet. -/
def headV (s : XS S.A) (V : RV) (cl : List Nat) (c : Nat) (h : HV S.A V) : XS S.A :=
  layV { env := fun k => bif memN k (slotsV V ++ cl) then some .any else none, L := fun i => bif memN i (boxV V) then (match s.L i with | some bx => some { bx with cs := bx.cs.map fun _ => .any } | none => none) else none, T := fun _ => none, c := c } V h
def andP : Option Prop → Option Prop → Option Prop
  | some p, some q => some (p ∧ q)
  | some p, none => some p
  | none, q => q
/-- What varies, at the beginning and behind. -/
def backK (ini : Option Nat) (s : XS S.A) (rk : RK) (cs : List (AV S.A)) : Option (Option Prop × rk.ty S.A) := match rk with
  | .int k => (match cs with
    | [.sc (.int k' n)] => bif kindB k k' then some (none, n) else none
    | _ => none)
  | .bool => (match cs with
    | [p] => (match boolA p with | some v => some (none, v) | none => none)
    | _ => none)
  | .str => (match cs with
    | [.sc (.string v)] => some (none, v)
    | _ => none)
  | .sl t => (match cs with
    | [p] => (match asSl t p with | some l => some (none, l) | none => none)
    | _ => none)
  | .own q t => (match cs with
    | [.own q' u l] => bif Nat.beq q q' then (if h : Nat.beq u t = true then (match s.T q with
      | some ⟨sz, m, none⟩ => bif Nat.beq sz (szOf S t) then some (some (l.length = m), castT h l) else none
      | _ => none) else none) else none
    | [.nil] => (match ini with | some c => bif Nat.ble c q then some (none, []) else none | none => none)
    | _ => none)
  | .prv q t => (match cs with
    | [.prv q' u' n] => bif Nat.beq q q' && Nat.beq u' t then (match s.T q with
      | some ⟨sz, m, some ⟨u, l, _⟩⟩ => if h : Nat.beq u t = true then (bif Nat.beq sz (szOf S t) then some (some (n = l.length ∧ m = l.length), castT h l) else none) else none
      | _ => none) else none
    | [.nil] => (match ini with | some c => bif Nat.ble c q then some (none, []) else none | none => none)
    | _ => none)
  | .ag t => (match cs with
    | [.agg cs] => (match dec S t cs with | some x => some (none, x) | none => none)
    | _ => none)
  | .bx t => (match dec S t cs with | some x => some (none, x) | none => none)
  | .run t pad => (match cs with
    | [.run u l pad'] => if h : Nat.beq u t = true then some (some (pad' = pad), castT h l) else none
    | _ => none)
def backV (ini : Option Nat) (s : XS S.A) : (V : RV) → Option (Option Prop × HV S.A V)
  | [] => some (none, ())
  | [(rp, rk)] => match rawR s rp with | some cs => backK ini s rk cs | none => none
  | (rp, rk) :: y :: r => match rawR s rp with
    | some cs => (match backK ini s rk cs, backV ini s (y :: r) with
      | some (p, x), some (q, h) => some (andP p q, (x, h))
      | _, _ => none)
    | none => none
/-- A list of the call's own that has become nil. -/
def isNilR : Option (List (AV S.A)) → Bool
  | some [.nil] => true
  | _ => false
def tipK : RK → Option Nat
  | .own q _ => some q
  | .prv q _ => some q
  | _ => none
def nilV (s : XS S.A) (V : RV) (n : Nat) : Bool := V.any fun e => match tipK e.2 with
  | some q => Nat.beq q n && isNilR (rawR s e.1)
  | none => false
def nilOk (s : XS S.A) (V : RV) : Bool := V.all fun e => match tipK e.2 with
  | some q => isNilR (rawR s e.1) || !nilV s V q
  | none => true
/-- Nothing else was written: slots below N, boxes and lists below m. -/
def onlyB {α : Type} (N : Nat) (ds : List Nat) (f : Nat → Option α) : Bool := (List.range N).all fun k => (match f k with | none => true | some _ => memN k ds)
def onlyV (N m : Nat) (cl : List Nat) (V : RV) (b s : XS S.A) : Bool := onlyB N (slotsV V ++ cl) s.env && (onlyB m (boxV V) s.L && (onlyB m (tipV V) s.T && (boxV V).all fun i => match (s.over b).L i, b.L i with
  | some x, some y => Nat.beq x.cs.length y.cs.length && (match x.tl, y.tl with
    | none, none => true
    | some _, some _ => memN i (tlV V)
    | _, _ => false)
  | _, _ => false))
def Xc (an : List (Nat × Ann)) (N : Nat) (call : XS S.A → CallT S) : Code → XS S.A → XS S.A → (XE S.A → XS S.A → Prop) → Prop
  | .skip, _, s, Φ => Φ .normal s
  | .ret, _, s, Φ => Φ .ret s
  | .exit id, _, s, Φ => Φ (.exit id) s
  | .seq x y, b, s, Φ => match annOf an y with
    | some (.join V) => (match initV N (s.over b) s.c V with
      | some V => (match backV (some s.c) (s.over b) (ownsV V) with
        | some (p0, x0) => withP p0 (JP (fun h => Xc an N call y b ((headV (s.over b) V (asg x) (s.c + V.length) h).over s) Φ)
          (fun J => Xc an N call x (s.over b) (headV (s.over b) (ownsV V) [] (s.c + V.length) x0) (fun e s' => match e with
            | .normal => (match onlyV N (s.c + V.length) (asg x) V (s.over b) s' && nilOk (s'.over (s.over b)) V, backV (some s.c) (s'.over (s.over b)) V with
              | true, some (p, h) => withP p (J h)
              | _, _ => False)
            | e => Φ e (s'.over s))))
        | none => False)
      | none => False)
    | _ => Xc an N call x b s (fun e s' => match e with
      | .normal => frzV N b (frzOf an y) s' (fun s' => Xc an N call y b s' Φ)
      | e => Φ e s')
  | .cond c x y, b, s, Φ => (match evA (getN N (s.over b)) c with
    | .sc (.bool v) => cond v (Xc an N call x b s Φ) (Xc an N call y b s Φ)
    | _ => False)
  | .block id c, b, s, Φ => Xc an N call c b s (fun e s' => match e with
    | .exit id' => bif Nat.beq id' id then Φ .normal s' else Φ (.exit id') s'
    | e => Φ e s')
  | .region rid ops draw, b, s, Φ => (match draw with
    | false => bif !regOk ops.toList [] (numd 0 ops.toList) then False else runM (C.rg an rid false) N (call b) b ops.toList (fun _ s => s.c) (fun s => { s with c := s.c + 1 }) (fun p s1 => Φ (.panic p) (s1.frg (dstsOf ops.toList) s.env)) (numd 0 ops.toList) s (fun _ => none) (fun s' => Φ .normal (clearG s'))
    | true => bif lookW an rid then (bif (numd 0 ops.toList).all (fun x => (depsN x.2).all fun j => Nat.blt j x.1) then
        runA (C.rg an rid false) N (call b) b ops.toList s.c (fun p s1 => Φ (.panic p) (s1.frg (dstsOf ops.toList) s.env)) (fun s' => Φ .normal s') ops.toList.length (numd 0 ops.toList) { s with c := s.c + ops.toList.length } else False) else (match lookH an rid with
      | some (E, t) => bif (numd 0 ops.toList).all (fun x => (depsN x.2).all fun j => Nat.blt j x.1) && (eagOk (C.rg an rid true) ops.toList E && schOk E false t (numd 0 ops.toList)) then
        runH (C.rg an rid true) N (call b) b ops.toList s.c (fun p s1 => Φ (.panic p) (s1.frg (dstsOf ops.toList) s.env)) (fun s' => Φ .normal s') false t { s with c := s.c + ops.toList.length } else False
      | none => (match canon ops.toList.length [] (numd 0 ops.toList) with
      | π => bif drawnOk (C.rg an rid true) ops.toList π && regOk ops.toList [] π then
          runM (C.rg an rid true) N (call b) b ops.toList (fun i _ => s.c + i) (fun s => s) (fun p s1 => Φ (.panic p) (s1.frg (dstsOf ops.toList) s.env)) π { s with c := s.c + ops.toList.length } (fun _ => none) (fun s' => Φ .normal (clearG s'))
        else False)))
  | .loop c, b, s, Φ => match annOf an c with
    | some (.loop V) => (match initV N (s.over b) s.c V with
      | some V => (match backV (some s.c) (s.over b) V with
        | some (p0, x0) => withP p0 (LOOP (fun h J => Xc an N call c (s.over b) (headV (s.over b) V (asg c) (s.c + V.length) h) (fun e s' => match e with
            | .normal => (match onlyV N (s.c + V.length) (asg c) V (s.over b) s' && nilOk (s'.over (s.over b)) V, backV (some s.c) (s'.over (s.over b)) V with
              | true, some (p, h) => withP p (J h)
              | _, _ => False)
            | e => Φ e (s'.over s))) x0)
        | none => False)
      | none => False)
    | _ => False
  | _, _, _, _ => False
/-- What a function hands back. -/
def resOf (N : Nat) (s : XS S.A) : ResultVar → Option (AV S.A)
  | .tmp t => bif flatA (getN N s t) then some (getN N s t) else none
  | .cell a t => match getN N s a, tyOf C.P t with
    | .loc x 0, some (ag, n) => (match s.L x with
      | some ⟨ps, none⟩ => bif (Nat.beq ps.length n && (ag || Nat.beq n 1)) && flatA (ofCells ag ps) then some (ofCells ag ps) else none
      | _ => none)
    | _, _ => none
def resAll (N : Nat) (s : XS S.A) : List ResultVar → Option (List (AV S.A))
  | [] => some []
  | r :: rs => match resOf C N s r, resAll N s rs with
    | some p, some ps => some (p :: ps)
    | _, _ => none
def tupA {A : Nat → Type} : List (AV A) → AV A
  | [p] => p
  | ps => .tup ps
def emp {A : Nat → Type} (c : Nat) : XS A := { env := fun _ => none, L := fun _ => none, T := fun _ => none, c := c }
/-- A function's body; b: what its caller has. -/
def Xf : Nat → XS S.A → CallT S
  | 0, _, _, _, _, _, _ => False
  | n + 1, b, f, args, s, k, kp => match C.P.funcs[f]? with
    | some fn => (match fn.body with
      | some c => (match Nat.ble args.length fn.ntmps && Nat.ble fn.results.toList.length 4 with
        | true => Xc C ((Ab.look C.ann f).getD []) fn.ntmps (Xf n) c { (s.over b) with env := fun i => args[i]? } (emp s.c) (fun e s' => match e with
          | .ret => (match resAll C fn.ntmps (s'.over { (s.over b) with env := fun i => args[i]? }) fn.results.toList with
            | some ps => k (tupA ps) { s with L := fun i => orE (s'.L i) (s.L i), T := fun i => orE (s'.T i) (s.T i), c := s'.c }
            | none => False)
          | .normal => (match resAll C fn.ntmps (s'.over { (s.over b) with env := fun i => args[i]? }) fn.results.toList with
            | some ps => k (tupA ps) { s with L := fun i => orE (s'.L i) (s.L i), T := fun i => orE (s'.T i) (s.T i), c := s'.c }
            | none => False)
          | .panic p => kp p { s with L := fun i => orE (s'.L i) (s.L i), T := fun i => orE (s'.T i) (s.T i), c := s'.c }
          | .exit _ => False)
        | false => False)
      | none => False)
    | none => False
/-- A value of plain data, as it is handed in. -/
def argA (P : Program) (t : Nat) (x : S.A t) : AV S.A := match tyOf P t with
  | some (true, _) => .agg (av S t x)
  | _ => ofCells false (av S t x)
def argsA : List (Sigma S.A) → List (AV S.A)
  | [] => []
  | ⟨t, x⟩ :: r => argA C.P t x :: argsA r
/-- A value of plain data, out of what is there. -/
def dArg (P : Program) (t : Nat) (p : AV S.A) : Option (S.A t) := match tyOf P t with
  | some (true, _) => (match p with | .agg cs => dec S t cs | _ => none)
  | _ => (match p with | .agg _ => none | .tup _ => none | .grd _ _ _ => none | p => dec S t [p])
abbrev HR (S : Sys) : List Nat → Type
  | [] => Unit
  | [t] => S.A t
  | t :: u :: r => S.A t × HR S (u :: r)
def encL (P : Program) : (rts : List Nat) → HR S rts → List (AV S.A)
  | [], _ => []
  | [t], x => [argA P t x]
  | t :: u :: r, h => argA P t h.1 :: encL P (u :: r) h.2
def decL (P : Program) : (rts : List Nat) → List (AV S.A) → Option (HR S rts)
  | [], [] => some ()
  | [t], [p] => dArg P t p
  | t :: u :: r, p :: ps => (match dArg P t p with
    | some x => (match decL P (u :: r) ps with | some h => some (x, h) | none => none)
    | none => none)
  | _, _ => none
def decR (P : Program) : (rts : List Nat) → AV S.A → Option (HR S rts)
  | [t], p => dArg P t p
  | rts, .tup ps => decL P rts ps
  | _, _ => none
/-- What is handed back is y. -/
def isR (P : Program) (rts : List Nat) (y : HR S rts) (r : AV S.A) : Prop := match decR P rts r with
  | some z => z = y
  | none => False
/-- A contract: what is asked of the arguments, and what comes back. -/
abbrev CT (S : Sys) (rts : List Nat) : List Nat → Type
  | [] => Option Prop × HR S rts
  | t :: ts => S.A t → CT S rts ts
def appC (P : Program) (rts : List Nat) : (ts : List Nat) → CT S rts ts → List (AV S.A) → (AV S.A → Prop) → Prop
  | [], W, [], k => withP W.1 (k (tupA (encL P rts W.2)))
  | t :: ts, W, p :: ps, k => (match dArg P t p with
    | some x => appC P rts ts (W x) ps k
    | none => False)
  | _, _, _, _ => False
def ctr (P : Program) (ts rts : List Nat) (W : CT S rts ts) : Con S.A := .tr (appC P rts ts W)
end run
end Go.Rx
