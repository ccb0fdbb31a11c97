import Derived.Test.YtnpipeihomebhaaRaFnCapq
namespace Go.Proofs.Ytnpipeihomebhaa
open Go.Ab
set_option linter.unusedSimpArgs false
set_option linter.unusedVariables false
theorem okI_u8 {n : Int} (h : okI .u8 n) : 0 ≤ n ∧ n < 256 := okI8.1 h
/-- Types, lengths and values, one behind the other. -/
def tlv : List Int → Option (List (Int × List Int))
  | [] => some []
  | [_] => none
  | t :: k :: r => if k ≤ (r.length : Int) then (tlv (r.drop k.toNat)).map (fun l => (t, r.take k.toNat) :: l) else none
termination_by l => l.length
decreasing_by simp only [List.length_drop, List.length_cons]; omega
def foldM' (g : Int → List Int → api_Caps → Option api_Caps) : api_Caps → List (Int × List Int) → Option api_Caps
  | c, [] => some c
  | c, (t, v) :: r => (g t v c).bind fun c' => foldM' g c' r
def OB (x : Bool × api_Caps) : Option api_Caps := bif x.1 then some x.2 else none
theorem foldM_congr {g g' : Int → List Int → api_Caps → Option api_Caps} : ∀ {l : List (Int × List Int)} {c : api_Caps}, (∀ x ∈ l, ∀ c, g x.1 x.2 c = g' x.1 x.2 c) → foldM' g c l = foldM' g' c l
  | [], _, _ => rfl
  | (t, v) :: r, c, h => by
    simp only [foldM']
    rw [h (t, v) (List.mem_cons_self ..) c]
    cases g' t v c with
    | none => rfl
    | some c' => exact foldM_congr fun x hx => h x (List.mem_cons_of_mem _ hx)
theorem foldM_app {g : Int → List Int → api_Caps → Option api_Caps} : ∀ {l l' : List (Int × List Int)} {c : api_Caps}, foldM' g c (l ++ l') = (foldM' g c l).bind fun c' => foldM' g c' l'
  | [], _, _ => rfl
  | (t, v) :: r, l', c => by
    simp only [foldM', List.cons_append]
    cases g t v c with
    | none => rfl
    | some c' => exact foldM_app
theorem foldM_inv {g : Int → List Int → api_Caps → Option api_Caps} {Q : api_Caps → Prop} : ∀ {l : List (Int × List Int)} {c c' : api_Caps}, (∀ x ∈ l, ∀ c c', Q c → g x.1 x.2 c = some c' → Q c') → Q c → foldM' g c l = some c' → Q c'
  | [], c, c', _, hc, h => by cases h; exact hc
  | (t, v) :: r, c, c', hg, hc, h => by
    simp only [foldM'] at h
    cases hq : g t v c with
    | none => rw [hq] at h; cases h
    | some c1 =>
      rw [hq] at h
      exact foldM_inv (fun x hx => hg x (List.mem_cons_of_mem _ hx)) (hg (t, v) (List.mem_cons_self ..) c c1 hc hq) h
theorem tlv_app : ∀ {x : List Int} {l : List (Int × List Int)} {y : List Int}, tlv x = some l → tlv (x ++ y) = (tlv y).map (l ++ ·)
  | [], l, y, h => by
    rw [tlv] at h; cases h
    simp
  | [_], l, y, h => by rw [tlv] at h; cases h
  | t :: k :: r, l, y, h => by
    rw [tlv] at h
    split at h
    · rename_i hk
      cases hq : tlv (r.drop k.toNat) with
      | none => rw [hq] at h; cases h
      | some l' =>
        rw [hq] at h
        simp only [Option.map_some, Option.some.injEq] at h
        subst h
        show tlv (t :: k :: (r ++ y)) = _
        have hle : k.toNat ≤ r.length := by omega
        rw [tlv, if_pos (by simp only [List.length_append]; omega), List.drop_append_of_le_length hle, List.take_append_of_le_length hle, tlv_app hq, Option.map_map]
        rfl
    · cases h
termination_by x => x.length
decreasing_by simp only [List.length_drop, List.length_cons]; omega
theorem tlv_ok : ∀ {b : List Int} {l : List (Int × List Int)}, gdL (okI .u8) b → tlv b = some l → ∀ x ∈ l, okI .u8 x.1 ∧ gdL (okI .u8) x.2 ∧ x.2.length ≤ b.length
  | [], l, _, h, x, hx => by rw [tlv] at h; cases h; cases hx
  | [_], l, _, h, x, hx => by rw [tlv] at h; cases h
  | t :: k :: r, l, hb, h, x, hx => by
    rw [tlv] at h
    split at h
    · cases hq : tlv (r.drop k.toNat) with
      | none => rw [hq] at h; cases h
      | some l' =>
        rw [hq] at h
        simp only [Option.map_some, Option.some.injEq] at h
        subst h
        have hr : gdL (okI .u8) r := fun y hy => hb y (by simp [hy])
        rcases List.mem_cons.1 hx with rfl | hx
        · exact ⟨hb t (by simp), fun y hy => hr y (List.mem_of_mem_take hy), by simp only [List.length_take, List.length_cons]; omega⟩
        · obtain ⟨h1, h2, h3⟩ := tlv_ok (b := r.drop k.toNat) (fun y hy => hr y (List.mem_of_mem_drop hy)) hq x hx
          exact ⟨h1, h2, by simp only [List.length_drop, List.length_cons] at h3 ⊢; omega⟩
    · cases h
termination_by b => b.length
decreasing_by simp only [List.length_drop, List.length_cons]; omega

theorem ix0 (t : Int) (r : List Int) : ix (t :: r) 0 = t := rfl
theorem ix1 (t k : Int) (r : List Int) : ix (t :: k :: r) 1 = k := rfl
theorem sub_a (t k : Int) (r : List Int) (h : 0 ≤ k) : sub (t :: k :: r) 2 (2 + k) = r.take k.toNat := by
  unfold sub
  rw [show (2 + k).toNat = k.toNat + 2 by omega]
  rfl
theorem sub_b (t k : Int) (r : List Int) (h : 0 ≤ k) : sub (t :: k :: r) (2 + k) ((t :: k :: r).length : Int) = r.drop k.toNat := by
  unfold sub
  rw [show (2 + k).toNat = k.toNat + 2 by omega, List.take_of_length_le (by omega)]
  rfl

def partsG (D : Int → List Int → api_Caps → Bool × api_Caps) : Nat → api_Caps → List Int → (Bool × api_Caps) ⊕ (api_Caps × (List Int))
  | 0, _, _ => Sum.inr default
  | n0 + 1, x, b =>
    (bif decide ((0 : Int) < (b.length : Int)) then
      (bif (decide (((b.length : Int) : Int) < 2)) || (decide (((IntKind.wrap .i64 ((b.length : Int) - 2)) : Int) < (IntKind.wrap .i64 (ix b 1)))) then
        Sum.inl (false, x)
      else
        (bif !((D (ix b 0) (sub b 2 (IntKind.wrap .i64 (2 + (IntKind.wrap .i64 (ix b 1))))) x).1) then
          Sum.inl (false, ((D (ix b 0) (sub b 2 (IntKind.wrap .i64 (2 + (IntKind.wrap .i64 (ix b 1))))) x).2))
        else
          partsG D n0 ((D (ix b 0) (sub b 2 (IntKind.wrap .i64 (2 + (IntKind.wrap .i64 (ix b 1))))) x).2) (sub b (IntKind.wrap .i64 (2 + (IntKind.wrap .i64 (ix b 1)))) (b.length : Int))))
    else
      Sum.inr (x, b))
theorem parts11_eq (b : List Int) (c : api_Caps) : ∀ (n : Nat) (x : api_Caps) (y : List Int), caps_parts11_l0 b c n x y = partsG caps_D11 n x y
  | 0, _, _ => rfl
  | n + 1, x, y => by simp only [caps_parts11_l0, partsG, parts11_eq b c n]
theorem parts1_eq (b : List Int) (c : api_Caps) : ∀ (n : Nat) (x : api_Caps) (y : List Int), caps_parts1_l0 b c n x y = partsG caps_D1 n x y
  | 0, _, _ => rfl
  | n + 1, x, y => by simp only [caps_parts1_l0, partsG, parts1_eq b c n]
def GoesTo (o : Option api_Caps) (r : (Bool × api_Caps) ⊕ (api_Caps × (List Int))) : Prop := match o with
  | some c' => ∃ l, r = .inr (c', l)
  | none => ∃ c', r = .inl (false, c')
theorem partsG_spec (D : Int → List Int → api_Caps → Bool × api_Caps) : ∀ (n : Nat) (c : api_Caps) (b : List Int), b.length < n → gdL (okI .u8) b → b.length ≤ 1000000000000 →
    GoesTo ((tlv b).bind (foldM' (fun t v c => OB (D t v c)) c)) (partsG D n c b)
  | 0, _, _, h, _, _ => absurd h (Nat.not_lt_zero _)
  | n + 1, c, [], _, _, _ => by rw [tlv]; exact ⟨[], rfl⟩
  | n + 1, c, [_], _, _, _ => by rw [tlv]; exact ⟨c, rfl⟩
  | n + 1, c, t :: k :: r, h, hb, hs => by
    have hk := okI_u8 (hb k (by simp))
    have e1 : IntKind.wrap .i64 k = k := wrap64_id (by omega)
    have e2 : IntKind.wrap .i64 (2 + k) = 2 + k := wrap64_id (by omega)
    have e3 : IntKind.wrap .i64 (((t :: k :: r).length : Int) - 2) = r.length := by
      rw [wrap64_id] <;> simp only [List.length_cons] at hs ⊢ <;> omega
    simp only [partsG, ix0, ix1, e1, e2, e3, sub_a t k r hk.1, sub_b t k r hk.1]
    rw [tlv, decide_eq_true (p := (0 : Int) < ((t :: k :: r).length : Int)) (by simp only [List.length_cons]; omega), decide_eq_false (p := ((t :: k :: r).length : Int) < 2) (by simp only [List.length_cons]; omega)]
    simp only [cond_true, Bool.false_or]
    by_cases hkr : k ≤ (r.length : Int)
    · rw [if_pos hkr, decide_eq_false (by omega)]
      simp only [cond_false]
      have hr : gdL (okI .u8) (r.drop k.toNat) := fun y hy => hb y (by simp [List.mem_of_mem_drop hy])
      cases hD : (D t (r.take k.toNat) c).1 with
      | false =>
        simp only [Bool.not_false, cond_true]
        cases tlv (r.drop k.toNat) with
        | none => exact ⟨_, rfl⟩
        | some l => simp only [Option.map_some, Option.bind_some, foldM', OB, hD, cond_false, Option.bind_none]; exact ⟨_, rfl⟩
      | true =>
        simp only [Bool.not_true, cond_false]
        have ih := partsG_spec D n (D t (r.take k.toNat) c).2 (r.drop k.toNat) (by simp only [List.length_drop, List.length_cons] at h ⊢; omega) hr (by simp only [List.length_drop, List.length_cons] at hs ⊢; omega)
        cases hq : tlv (r.drop k.toNat) with
        | none => rw [hq] at ih; exact ih
        | some l =>
          rw [hq] at ih
          simp only [Option.map_some, Option.bind_some, foldM', OB, hD, cond_true] at ih ⊢
          exact ih
    · rw [if_neg hkr, decide_eq_true (by omega)]
      exact ⟨_, rfl⟩
theorem OB_elim {o : Option api_Caps} {r : (Bool × api_Caps) ⊕ (api_Caps × (List Int))} (h : GoesTo o r) : OB (Sum.elim (fun z => z) (fun x => (true, x.1)) r) = o := by
  cases o with
  | some c' => obtain ⟨l, rfl⟩ := h; rfl
  | none => obtain ⟨l, rfl⟩ := h; rfl
def HC (t : Int) (v : List Int) (c : api_Caps) : Option api_Caps := OB (caps_one c t v)
def GC (t : Int) (v : List Int) (c : api_Caps) : Option api_Caps := if t = 2 then (tlv v).bind (foldM' HC c) else none
def zcaps : api_Caps := ⟨false, 0, false, false, 0, false, false, false, 0⟩
theorem D11_eq (t : Int) (v : List Int) (c : api_Caps) : OB (caps_D11 t v c) = HC t v c := rfl
theorem D1_eq (t : Int) (v : List Int) (c : api_Caps) (hv : gdL (okI .u8) v) (hs : v.length ≤ 1000000000000) : OB (caps_D1 t v c) = GC t v c := by
  simp only [caps_D1, GC]
  by_cases ht : t = 2
  · rw [decide_eq_true ht, if_pos ht, cond_true]
    show OB (caps_parts11 v c) = _
    unfold caps_parts11
    rw [parts11_eq]
    exact OB_elim (partsG_spec caps_D11 _ c v (Nat.lt_succ_self _) hv hs)
  · rw [decide_eq_false ht, if_neg ht]; rfl
def capRead (b : List Int) : Option api_Caps := (tlv b).bind (foldM' GC zcaps)
def pairO (o : Option api_Caps) : api_Caps × Bool := match o with
  | some c => (c, true)
  | none => (zcaps, false)
theorem Decode_eq (b : List Int) (hb : gdL (okI .u8) b) (hs : b.length ≤ 1000000000000) : caps_Decode b = pairO (capRead b) := by
  have h := OB_elim (partsG_spec caps_D1 _ zcaps b (Nat.lt_succ_self _) hb hs)
  rw [← parts1_eq b zcaps] at h
  have h : OB (caps_parts1 b zcaps) = (tlv b).bind (foldM' (fun t v c => OB (caps_D1 t v c)) zcaps) := h
  have h2 : (tlv b).bind (foldM' (fun t v c => OB (caps_D1 t v c)) zcaps) = capRead b := by
    unfold capRead
    cases hq : tlv b with
    | none => rfl
    | some l =>
      exact foldM_congr fun x hx c => by
        obtain ⟨_, h3, h4⟩ := tlv_ok hb hq x hx
        exact D1_eq x.1 x.2 c h3 (Nat.le_trans h4 hs)
  rw [h2] at h
  rw [← h]
  show (bif !((caps_parts1 b zcaps).1) then (zcaps, false) else ((caps_parts1 b zcaps).2, true)) = _
  unfold OB
  cases (caps_parts1 b zcaps).1 <;> rfl

/-! The other reading. -/
theorem cut_spec_l (b : List Int) : ∀ (n : Nat) (b0 t0 : List Int) (v0 : List (List Int)), b0.length < n → gdL (okI .u8) b0 → b0.length ≤ 1000000000000 →
    ref05_cut_l0 b n b0 t0 v0 = match tlv b0 with | some l => .inr ([], t0 ++ l.map (·.1), v0 ++ l.map (·.2)) | none => .inl ([], [], false)
  | 0, _, _, _, h, _, _ => absurd h (Nat.not_lt_zero _)
  | n + 1, [], t0, v0, _, _, _ => by rw [tlv]; simp [ref05_cut_l0]
  | n + 1, [_], t0, v0, _, _, _ => by rw [tlv]; rfl
  | n + 1, t :: k :: r, t0, v0, h, hb, hs => by
    have hk := okI_u8 (hb k (by simp))
    have ht := okI_u8 (hb t (by simp))
    have e1 : IntKind.wrap .i64 k = k := wrap64_id (by omega)
    have e2 : IntKind.wrap .i64 (2 + k) = 2 + k := wrap64_id (by omega)
    have e3 : IntKind.wrap .i64 t = t := wrap64_id (by omega)
    simp only [ref05_cut_l0, ix0, ix1, e1, e2, e3, sub_a t k r hk.1, sub_b t k r hk.1]
    rw [tlv, decide_eq_true (p := (0 : Int) < ((t :: k :: r).length : Int)) (by simp only [List.length_cons]; omega), decide_eq_false (p := ((t :: k :: r).length : Int) < 2) (by simp only [List.length_cons]; omega)]
    simp only [cond_true, Bool.false_or]
    by_cases hkr : k ≤ (r.length : Int)
    · rw [if_pos hkr, decide_eq_false (by simp only [List.length_cons]; omega)]
      simp only [cond_false]
      have hr : gdL (okI .u8) (r.drop k.toNat) := fun y hy => hb y (by simp [List.mem_of_mem_drop hy])
      rw [cut_spec_l b n (r.drop k.toNat) _ _ (by simp only [List.length_drop, List.length_cons] at h ⊢; omega) hr (by simp only [List.length_drop, List.length_cons] at hs ⊢; omega)]
      cases tlv (r.drop k.toNat) <;> simp
    · rw [if_neg hkr, decide_eq_true (by simp only [List.length_cons]; omega)]
      rfl
theorem cut_spec (b : List Int) (hb : gdL (okI .u8) b) (hs : b.length ≤ 1000000000000) : ref05_cut b = match tlv b with | some l => (l.map (·.1), l.map (·.2), true) | none => ([], [], false) := by
  unfold ref05_cut
  rw [cut_spec_l b _ b [] [] (Nat.lt_succ_self _) hb hs]
  cases tlv b <;> simp
theorem ix_map {α β : Type} [Inhabited β] (f : α → β) (l : List α) (i : Nat) (x : α) (h : l[i]? = some x) : ix (l.map f) (i : Int) = f x := by
  simp [ix, h]
theorem wrapS (i : Nat) (h : i ≤ 1000000000000) : IntKind.wrap .i64 ((i : Int) + 1) = ((i + 1 : Nat) : Int) := by rw [wrap64_id] <;> omega
theorem read_l1_spec (b : List Int) (x4 : api_Caps) (x8 : Int) (l : List (Int × List Int)) (h1 : (ref05_cut (ix ((ref05_cut b).2.1) x8)).1 = l.map (·.1)) (h2 : (ref05_cut (ix ((ref05_cut b).2.1) x8)).2.1 = l.map (·.2)) (hl : l.length ≤ 1000000000000) :
    ∀ (n : Nat) (c : api_Caps) (i : Nat), i ≤ l.length → l.length - i < n → ref05_ReadCaps_l1 b x4 x8 n c (i : Int) = match foldM' (fun t v c => OB (ref05_read c t v)) c (l.drop i) with | some c' => .inr (c', (l.length : Int)) | none => .inl (zcaps, false)
  | 0, _, _, _, h => absurd h (Nat.not_lt_zero _)
  | n + 1, c, i, hi, hn => by
    simp only [ref05_ReadCaps_l1, h1, h2, List.length_map]
    by_cases hlt : i < l.length
    · rw [decide_eq_true (by omega), cond_true]
      have hx := List.getElem?_eq_getElem hlt
      rw [ix_map (·.1) l i _ hx, ix_map (·.2) l i _ hx, wrapS i (by omega), List.drop_eq_getElem_cons hlt]
      simp only [foldM', OB]
      cases hq : (ref05_read c l[i].1 l[i].2).1 with
      | false => simp only [Bool.not_false, cond_true, cond_false, Option.bind_none]; rfl
      | true =>
        simp only [Bool.not_true, cond_true, cond_false, Option.bind_some]
        exact read_l1_spec b x4 x8 l h1 h2 hl n _ (i + 1) hlt (by omega)
    · obtain rfl : i = l.length := by omega
      rw [decide_eq_false (by omega), List.drop_length]
      rfl
def HR (t : Int) (v : List Int) (c : api_Caps) : Option api_Caps := OB (ref05_read c t v)
def GR (t : Int) (v : List Int) (c : api_Caps) : Option api_Caps := if t = 2 then (tlv v).bind (foldM' HR c) else none
theorem tlv_len : ∀ {b : List Int} {l : List (Int × List Int)}, tlv b = some l → l.length ≤ b.length
  | [], l, h => by rw [tlv] at h; cases h; simp
  | [_], l, h => by rw [tlv] at h; cases h
  | t :: k :: r, l, h => by
    rw [tlv] at h
    split at h
    · cases hq : tlv (r.drop k.toNat) with
      | none => rw [hq] at h; cases h
      | some l' =>
        rw [hq] at h
        simp only [Option.map_some, Option.some.injEq] at h
        subst h
        have := tlv_len hq
        simp only [List.length_drop, List.length_cons] at this ⊢
        omega
    · cases h
termination_by b => b.length
decreasing_by simp only [List.length_drop, List.length_cons]; omega
theorem read_l0_spec (b : List Int) (hb : gdL (okI .u8) b) (hs : b.length ≤ 1000000000000) (l : List (Int × List Int)) (hq : tlv b = some l) (h1 : (ref05_cut b).1 = l.map (·.1)) (h2 : (ref05_cut b).2.1 = l.map (·.2)) :
    ∀ (n : Nat) (c : api_Caps) (i : Nat), i ≤ l.length → l.length - i < n → ref05_ReadCaps_l0 b n c (i : Int) = match foldM' GR c (l.drop i) with | some c' => .inr (c', (l.length : Int)) | none => .inl (zcaps, false)
  | 0, _, _, _, h => absurd h (Nat.not_lt_zero _)
  | n + 1, c, i, hi, hn => by
    have hl := tlv_len hq
    simp only [ref05_ReadCaps_l0, h1, List.length_map]
    by_cases hlt : i < l.length
    · rw [decide_eq_true (by omega), cond_true]
      have hx := List.getElem?_eq_getElem hlt
      have hv : ix ((ref05_cut b).2.1) (i : Int) = l[i].2 := by rw [h2]; exact ix_map (·.2) l i _ hx
      obtain ⟨_, g1, g2⟩ := tlv_ok hb hq l[i] (List.getElem_mem hlt)
      have hc := cut_spec l[i].2 g1 (by omega)
      rw [ix_map (·.1) l i _ hx, wrapS i (by omega), List.drop_eq_getElem_cons hlt]
      simp only [foldM', GR]
      rw [hv]
      by_cases ht : l[i].1 = 2
      · rw [decide_eq_true ht, if_pos ht, Bool.not_true, Bool.false_or]
        cases hq2 : tlv l[i].2 with
        | none =>
          rw [hq2] at hc
          rw [hc]
          rfl
        | some l2 =>
          rw [hq2] at hc
          have r1 := read_l1_spec b c (i : Int) l2 (by rw [hv, hc]) (by rw [hv, hc]) (by have := tlv_len hq2; omega) ((((l2.length : Int)) - 0).toNat + 1) c 0 (Nat.zero_le _) (by omega)
          simp only [hc, Bool.not_true, cond_false, List.length_map, Option.bind_some]
          have r1' : ref05_ReadCaps_l1 b c (i : Int) ((((l2.length : Int)) - 0).toNat + 1) c 0 = _ := r1
          rw [r1', List.drop_zero]
          have hf : foldM' HR c l2 = foldM' (fun t v c => OB (ref05_read c t v)) c l2 := rfl
          rw [hf]
          cases foldM' (fun t v c => OB (ref05_read c t v)) c l2 with
          | none => rfl
          | some c' => exact read_l0_spec b hb hs l hq h1 h2 n _ (i + 1) hlt (by omega)
      · rw [decide_eq_false ht, if_neg ht]
        rfl
    · obtain rfl : i = l.length := by omega
      rw [decide_eq_false (by omega), List.drop_length]
      rfl
theorem ReadCaps_eq (b : List Int) (hb : gdL (okI .u8) b) (hs : b.length ≤ 1000000000000) : ref05_ReadCaps b = pairO ((tlv b).bind (foldM' GR zcaps)) := by
  have hc := cut_spec b hb hs
  unfold ref05_ReadCaps
  cases hq : tlv b with
  | none =>
    rw [hq] at hc
    rw [hc]
    rfl
  | some l =>
    rw [hq] at hc
    have r := read_l0_spec b hb hs l hq (by rw [hc]) (by rw [hc]) ((((l.length : Int)) - 0).toNat + 1) zcaps 0 (Nat.zero_le _) (by omega)
    simp only [hc, Bool.not_true, cond_false, List.length_map, Option.bind_some]
    have r' : ref05_ReadCaps_l0 b ((((l.length : Int)) - 0).toNat + 1) (⟨false, 0, false, false, 0, false, false, false, 0⟩ : api_Caps) 0 = _ := r
    rw [r', List.drop_zero]
    cases foldM' GR zcaps l <;> rfl
/-! One capability. -/
theorem ior64_i {a b : Nat} (ha : a < 9223372036854775808) (hb : b < 9223372036854775808) : ior .i64 (a : Int) (b : Int) = ((a ||| b : Nat) : Int) := by
  rw [ior64 (by omega) (by omega)]; rfl
theorem iand64_i {a b : Nat} (ha : a < 9223372036854775808) (hb : b < 9223372036854775808) : iand .i64 (a : Int) (b : Int) = ((a &&& b : Nat) : Int) := by
  rw [iand64 (by omega) (by omega)]; rfl
theorem bit7 {a : Int} (h : 0 ≤ a ∧ a < 256) : (!decide (iand .u8 a 128 = 0)) = decide (128 ≤ a) := by
  obtain ⟨n, rfl⟩ := Int.eq_ofNat_of_zero_le h.1
  rw [iand8 h (by decide)]
  have := and128 n (by omega)
  rw [show (n : Int).toNat = n from rfl, show (128 : Int).toNat = 128 from rfl, this]
  by_cases hn : 128 ≤ n
  · rw [if_pos hn, decide_eq_true (p := (128 : Int) ≤ n) (by omega)]; rfl
  · rw [if_neg hn, decide_eq_false (p := (128 : Int) ≤ n) (by omega)]; rfl
theorem get_step {x y : Int} (hx : 0 ≤ x ∧ x < 16777216) (hy : 0 ≤ y ∧ y < 256) : ior .u32 (IntKind.wrap .u32 (x * 2 ^ 8)) (IntKind.wrap .u32 y) = x * 256 + y := by
  obtain ⟨m, rfl⟩ := Int.eq_ofNat_of_zero_le hx.1
  obtain ⟨n, rfl⟩ := Int.eq_ofNat_of_zero_le hy.1
  rw [wrapu32, wrapu32, show ((m : Int) * 2 ^ 8) % 4294967296 = ((m * 2 ^ 8 : Nat) : Int) by omega, show (n : Int) % 4294967296 = n by omega, ior32 (by omega) (by omega)]
  rw [show ((m * 2 ^ 8 : Nat) : Int).toNat = m * 2 ^ 8 from rfl, show (n : Int).toNat = n from rfl, or_add 8 m n (by omega)]
  omega
theorem Get_four (a b c d : Int) (ha : 0 ≤ a ∧ a < 256) (hb : 0 ≤ b ∧ b < 256) (hc : 0 ≤ c ∧ c < 256) (hd : 0 ≤ d ∧ d < 256) : region_Get [a, b, c, d] = ((a * 256 + b) * 256 + c) * 256 + d := by
  have e1 : ior .u32 (IntKind.wrap .u32 (0 * 2 ^ 8)) (IntKind.wrap .u32 a) = a := by rw [get_step (by decide) ha]; omega
  have e2 := get_step (x := a) (by omega) hb
  have e3 := get_step (x := a * 256 + b) (by omega) hc
  have e4 := get_step (x := (a * 256 + b) * 256 + c) (by omega) hd
  show (region_Get_l0 [a, b, c, d] 5 0 0).1 = _
  have i0 : ix (sub [a, b, c, d] 0 (if (4 : Int) < (([a, b, c, d] : List Int).length : Int) then 4 else (([a, b, c, d] : List Int).length : Int))) 0 = a := rfl
  have i1 : ix (sub [a, b, c, d] 0 (if (4 : Int) < (([a, b, c, d] : List Int).length : Int) then 4 else (([a, b, c, d] : List Int).length : Int))) 1 = b := rfl
  have i2 : ix (sub [a, b, c, d] 0 (if (4 : Int) < (([a, b, c, d] : List Int).length : Int) then 4 else (([a, b, c, d] : List Int).length : Int))) 2 = c := rfl
  have i3 : ix (sub [a, b, c, d] 0 (if (4 : Int) < (([a, b, c, d] : List Int).length : Int) then 4 else (([a, b, c, d] : List Int).length : Int))) 3 = d := rfl
  have il : (sub [a, b, c, d] 0 (if (4 : Int) < (([a, b, c, d] : List Int).length : Int) then 4 else (([a, b, c, d] : List Int).length : Int))).length = 4 := rfl
  have w0 : IntKind.wrap .i64 (0 + 1) = 1 := rfl
  have w1 : IntKind.wrap .i64 (1 + 1) = 2 := rfl
  have w2 : IntKind.wrap .i64 (2 + 1) = 3 := rfl
  have w3 : IntKind.wrap .i64 (3 + 1) = 4 := rfl
  have d0 : decide ((0 : Int) < ((4 : Nat) : Int)) = true := rfl
  have d1 : decide ((1 : Int) < ((4 : Nat) : Int)) = true := rfl
  have d2 : decide ((2 : Int) < ((4 : Nat) : Int)) = true := rfl
  have d3 : decide ((3 : Int) < ((4 : Nat) : Int)) = true := rfl
  have d4 : decide ((4 : Int) < ((4 : Nat) : Int)) = false := rfl
  simp only [region_Get_l0, il, i0, i1, i2, i3, w0, w1, w2, w3, d0, d1, d2, d3, d4, cond_true, cond_false, e1, e2, e3, e4]
theorem Num_four (a b c d : Int) (ha : 0 ≤ a ∧ a < 256) (hb : 0 ≤ b ∧ b < 256) (hc : 0 ≤ c ∧ c < 256) (hd : 0 ≤ d ∧ d < 256) : ref01_Num [a, b, c, d] = ((a * 256 + b) * 256 + c) * 256 + d := by
  show IntKind.wrap .i64 (IntKind.wrap .i64 (IntKind.wrap .i64 (IntKind.wrap .i64 (IntKind.wrap .i64 a * 2 ^ 24) + IntKind.wrap .i64 (IntKind.wrap .i64 b * 2 ^ 16)) + IntKind.wrap .i64 (IntKind.wrap .i64 c * 2 ^ 8)) + IntKind.wrap .i64 d) = _
  simp only [wrap64]
  omega
theorem ix_drop (b : List Int) (i j : Nat) : ix (b.drop i) (j : Int) = ix b (((i + j : Nat)) : Int) := by
  simp only [ix, List.getD_eq_getElem?_getD, List.getElem?_drop]
  rfl
theorem sub_drop (b : List Int) (i k : Nat) : sub (b.drop i) (k : Int) ((b.drop i).length : Int) = b.drop (i + k) := by
  unfold sub
  rw [List.take_of_length_le (by omega), List.drop_drop]
  rfl
theorem wrapN (i k : Nat) (h : i + k ≤ 2000000000000) : IntKind.wrap .i64 ((i : Int) + (k : Int)) = ((i + k : Nat) : Int) := by rw [wrap64_id] <;> omega
theorem restart_loop (c : api_Caps) (c' : api_Caps) (code : Int) (b : List Int) (hb : gdL (okI .u8) b) (hs : b.length ≤ 1000000000000) : ∀ (n m : Nat) (C : api_Caps) (i : Nat), b.length - i < n → b.length - i < m → (i ≤ b.length ∧ (b.length - i) % 4 = 0) →
    (caps_restart_l0 c b n C (b.drop i)).1 = (ref05_read_l0 c' code b m C (i : Int)).1
  | 0, _, _, _, h, _, _ => absurd h (Nat.not_lt_zero _)
  | _ + 1, 0, _, _, _, h, _ => absurd h (Nat.not_lt_zero _)
  | n + 1, m + 1, C, i, h1, h2, h3 => by
    simp only [caps_restart_l0, ref05_read_l0]
    by_cases hi : i < b.length
    · rw [decide_eq_true (p := (0 : Int) < ((b.drop i).length : Int)) (by rw [List.length_drop]; omega), decide_eq_true (p := (i : Int) < (b.length : Int)) (by omega)]
      simp only [cond_true, thn, caps_ipv4]
      rw [show ix (b.drop i) 0 = ix b (i : Int) from ix_drop b i 0, show ix (b.drop i) 1 = ix b ((i + 1 : Nat) : Int) from ix_drop b i 1, show ix (b.drop i) 2 = ix b ((i + 2 : Nat) : Int) from ix_drop b i 2, show ix (b.drop i) 3 = ix b ((i + 3 : Nat) : Int) from ix_drop b i 3]
      rw [show IntKind.wrap .i64 ((i : Int) + 1) = ((i + 1 : Nat) : Int) from wrapN i 1 (by omega), show IntKind.wrap .i64 ((i : Int) + 2) = ((i + 2 : Nat) : Int) from wrapN i 2 (by omega), show IntKind.wrap .i64 ((i : Int) + 3) = ((i + 3 : Nat) : Int) from wrapN i 3 (by omega), show IntKind.wrap .i64 ((i : Int) + 4) = ((i + 4 : Nat) : Int) from wrapN i 4 (by omega)]
      rw [show sub (b.drop i) 4 ((b.drop i).length : Int) = b.drop (i + 4) from sub_drop b i 4, bit7 (ix_u8 hb _)]
      exact restart_loop c c' code b hb hs n m _ (i + 4) (by omega) (by omega) (by omega)
    · rw [decide_eq_false (p := (0 : Int) < ((b.drop i).length : Int)) (by rw [List.length_drop]; omega), decide_eq_false (p := (i : Int) < (b.length : Int)) (by omega)]
      rfl
theorem or16 (a b : Nat) (h : b < 65536) : (a * 65536 ||| b) = a * 65536 + b := or_add 16 a b h
theorem or8 (a b : Nat) (h : b < 256) : (a * 256 ||| b) = a * 256 + b := or_add 8 a b h
theorem lltime {x y z : Int} (hx : 0 ≤ x ∧ x < 256) (hy : 0 ≤ y ∧ y < 256) (hz : 0 ≤ z ∧ z < 256) :
    ior .i64 (ior .i64 (IntKind.wrap .i64 ((IntKind.wrap .i64 x) * 2 ^ 16)) (IntKind.wrap .i64 ((IntKind.wrap .i64 y) * 2 ^ 8))) (IntKind.wrap .i64 z) = IntKind.wrap .i64 ((IntKind.wrap .i64 ((IntKind.wrap .i64 (65536 * (IntKind.wrap .i64 x))) + (IntKind.wrap .i64 (256 * (IntKind.wrap .i64 y))))) + (IntKind.wrap .i64 z)) := by
  obtain ⟨a, rfl⟩ := Int.eq_ofNat_of_zero_le hx.1
  obtain ⟨b, rfl⟩ := Int.eq_ofNat_of_zero_le hy.1
  obtain ⟨c, rfl⟩ := Int.eq_ofNat_of_zero_le hz.1
  have w1 : IntKind.wrap .i64 (a : Int) = a := wrap64_id (by omega)
  have w2 : IntKind.wrap .i64 (b : Int) = b := wrap64_id (by omega)
  have w3 : IntKind.wrap .i64 (c : Int) = c := wrap64_id (by omega)
  have e1 : IntKind.wrap .i64 ((a : Int) * 2 ^ 16) = ((a * 65536 : Nat) : Int) := by rw [wrap64_id (by omega)]; omega
  have e2 : IntKind.wrap .i64 ((b : Int) * 2 ^ 8) = ((b * 256 : Nat) : Int) := by rw [wrap64_id (by omega)]; omega
  have e4 : IntKind.wrap .i64 (65536 * (a : Int)) = 65536 * (a : Int) := wrap64_id (by omega)
  have e5 : IntKind.wrap .i64 (256 * (b : Int)) = 256 * (b : Int) := wrap64_id (by omega)
  have e6 : IntKind.wrap .i64 (65536 * (a : Int) + 256 * (b : Int)) = 65536 * (a : Int) + 256 * (b : Int) := wrap64_id (by omega)
  have e7 : IntKind.wrap .i64 (65536 * (a : Int) + 256 * (b : Int) + (c : Int)) = 65536 * (a : Int) + 256 * (b : Int) + (c : Int) := wrap64_id (by omega)
  rw [w1, w2, w3, e1, e2, e4, e5, e6, e7, ior64_i (by omega) (by omega), or16 a (b * 256) (by omega)]
  have e8 : a * 65536 + b * 256 = (a * 256 + b) * 256 := by omega
  rw [e8, ior64_i (by omega) (by omega), or8 _ c (by omega)]
  omega
theorem lived_loop (c : api_Caps) (c' : api_Caps) (code : Int) (b : List Int) (hb : gdL (okI .u8) b) (hs : b.length ≤ 1000000000000) : ∀ (n m : Nat) (C : api_Caps) (i : Nat), b.length - i < n → b.length - i < m → (i ≤ b.length ∧ (b.length - i) % 7 = 0) →
    (caps_lived_l0 c b n C (b.drop i)).1 = (ref05_read_l1 c' code b m C (i : Int)).1
  | 0, _, _, _, h, _, _ => absurd h (Nat.not_lt_zero _)
  | _ + 1, 0, _, _, _, h, _ => absurd h (Nat.not_lt_zero _)
  | n + 1, m + 1, C, i, h1, h2, h3 => by
    simp only [caps_lived_l0, ref05_read_l1]
    by_cases hi : i < b.length
    · rw [decide_eq_true (p := (0 : Int) < ((b.drop i).length : Int)) (by rw [List.length_drop]; omega), decide_eq_true (p := (i : Int) < (b.length : Int)) (by omega)]
      simp only [cond_true, thn, caps_ipv4]
      rw [show ix (b.drop i) 0 = ix b (i : Int) from ix_drop b i 0, show ix (b.drop i) 1 = ix b ((i + 1 : Nat) : Int) from ix_drop b i 1, show ix (b.drop i) 2 = ix b ((i + 2 : Nat) : Int) from ix_drop b i 2, show ix (b.drop i) 4 = ix b ((i + 4 : Nat) : Int) from ix_drop b i 4, show ix (b.drop i) 5 = ix b ((i + 5 : Nat) : Int) from ix_drop b i 5, show ix (b.drop i) 6 = ix b ((i + 6 : Nat) : Int) from ix_drop b i 6]
      rw [show IntKind.wrap .i64 ((i : Int) + 1) = ((i + 1 : Nat) : Int) from wrapN i 1 (by omega), show IntKind.wrap .i64 ((i : Int) + 2) = ((i + 2 : Nat) : Int) from wrapN i 2 (by omega), show IntKind.wrap .i64 ((i : Int) + 4) = ((i + 4 : Nat) : Int) from wrapN i 4 (by omega), show IntKind.wrap .i64 ((i : Int) + 5) = ((i + 5 : Nat) : Int) from wrapN i 5 (by omega), show IntKind.wrap .i64 ((i : Int) + 6) = ((i + 6 : Nat) : Int) from wrapN i 6 (by omega), show IntKind.wrap .i64 ((i : Int) + 7) = ((i + 7 : Nat) : Int) from wrapN i 7 (by omega)]
      rw [show sub (b.drop i) 7 ((b.drop i).length : Int) = b.drop (i + 7) from sub_drop b i 7, lltime (ix_u8 hb _) (ix_u8 hb _) (ix_u8 hb _)]
      exact lived_loop c c' code b hb hs n m _ (i + 7) (by omega) (by omega) (by omega)
    · rw [decide_eq_false (p := (0 : Int) < ((b.drop i).length : Int)) (by rw [List.length_drop]; omega), decide_eq_false (p := (i : Int) < (b.length : Int)) (by omega)]
      rfl
theorem time_eq {x y : Int} (hx : 0 ≤ x ∧ x < 256) (hy : 0 ≤ y ∧ y < 256) :
    iand .i64 (ior .i64 (IntKind.wrap .i64 ((IntKind.wrap .i64 x) * 2 ^ 8)) (IntKind.wrap .i64 y)) 4095 = IntKind.wrap .i64 ((IntKind.wrap .i64 (256 * (IntKind.wrap .i64 (Int.tmod x 16)))) + (IntKind.wrap .i64 y)) := by
  obtain ⟨a, rfl⟩ := Int.eq_ofNat_of_zero_le hx.1
  obtain ⟨b, rfl⟩ := Int.eq_ofNat_of_zero_le hy.1
  have e1 : IntKind.wrap .i64 ((IntKind.wrap .i64 (a : Int)) * 2 ^ 8) = ((a * 2 ^ 8 : Nat) : Int) := by simp only [wrap64]; omega
  have e3 : IntKind.wrap .i64 (b : Int) = b := by simp only [wrap64]; omega
  rw [e1, e3, ior64_i (by omega) (by omega), or_add 8 a b (by omega), show (4095 : Int) = ((2 ^ 12 - 1 : Nat) : Int) from rfl, iand64_i (by omega) (by omega), and_mask, tmod_ite, if_pos (by omega)]
  simp only [wrap64]
  omega
theorem one_eq (c : api_Caps) (code : Int) (b : List Int) (hb : gdL (okI .u8) b) (hs : b.length ≤ 1000000000000) : caps_one c code b = ref05_read c code b := by
  simp only [caps_one, ref05_read]
  by_cases h65 : code = 65
  · rw [decide_eq_true h65, cond_true, cond_true]
    by_cases hl : b.length = 4
    · rw [decide_eq_true (by omega)]
      simp only [Bool.not_true, cond_false]
      match b, hl, hb with
      | [x, y, z, w], _, hb =>
        have hx := okI_u8 (hb x (by simp))
        have hy := okI_u8 (hb y (by simp))
        have hz := okI_u8 (hb z (by simp))
        have hw := okI_u8 (hb w (by simp))
        rw [Get_four x y z w hx hy hz hw, Num_four x y z w hx hy hz hw, wrap64_id (by omega)]
        congr 1
        by_cases h0 : ((x * 256 + y) * 256 + z) * 256 + w = 0
        · rw [h0]; rfl
        · rw [decide_eq_false h0, decide_eq_true (by omega)]; rfl
    · rw [decide_eq_false (by omega)]
      rfl
  · rw [decide_eq_false h65, cond_false, cond_false]
    by_cases h64 : code = 64
    · rw [decide_eq_true h64, cond_true, cond_true]
      simp only [caps_restart, thn]
      by_cases hl : b.length % 4 = 2
      · have e1 : (decide ((b.length : Int) < 2) || !decide (Int.tmod (IntKind.wrap .i64 ((b.length : Int) - 2)) 4 = 0)) = false := by
          rw [decide_eq_false (by omega), wrap64_id (by omega), tmod_ite, if_pos (by omega), decide_eq_true (by omega)]; rfl
        have e2 : decide (Int.tmod (b.length : Int) 4 = 2) = true := by
          rw [tmod_ite, if_pos (by omega), decide_eq_true (by omega)]
        rw [e1, e2]
        simp only [cond_false, Bool.not_true]
        rw [bit7 (ix_u8 hb 0), time_eq (ix_u8 hb 0) (ix_u8 hb 1)]
        have hd : sub b 2 (b.length : Int) = b.drop 2 := by
          unfold sub; rw [List.take_of_length_le (by omega)]; rfl
        rw [hd]
        congr 1
        exact restart_loop c c code b hb hs _ _ _ 2 (by rw [List.length_drop]; omega) (by omega) (by omega)
      · have e1 : (decide ((b.length : Int) < 2) || !decide (Int.tmod (IntKind.wrap .i64 ((b.length : Int) - 2)) 4 = 0)) = true := by
          by_cases h2 : (b.length : Int) < 2
          · rw [decide_eq_true h2]; rfl
          · rw [wrap64_id (by omega), tmod_ite, if_pos (by omega), decide_eq_false (p := ((b.length : Int) - 2) % 4 = 0) (by omega)]; simp
        have e2 : decide (Int.tmod (b.length : Int) 4 = 2) = false := by
          rw [tmod_ite, if_pos (by omega), decide_eq_false (by omega)]
        rw [e1, e2]
        rfl
    · rw [decide_eq_false h64, cond_false, cond_false]
      by_cases h71 : code = 71
      · rw [decide_eq_true h71, cond_true, cond_true]
        simp only [caps_lived, thn]
        by_cases hl : b.length % 7 = 0
        · have e2 : decide (Int.tmod (b.length : Int) 7 = 0) = true := by
            rw [tmod_ite, if_pos (by omega), decide_eq_true (by omega)]
          rw [e2]
          simp only [cond_false, Bool.not_true]
          congr 1
          exact lived_loop c c code b hb hs _ _ _ 0 (by omega) (by omega) (by omega)
        · have e2 : decide (Int.tmod (b.length : Int) 7 = 0) = false := by
            rw [tmod_ite, if_pos (by omega), decide_eq_false (by omega)]
          rw [e2]
          rfl
      · rw [decide_eq_false h71]; rfl
theorem ReadCaps_Decode (b : List Int) (hb : gdL (okI .u8) b) (hs : b.length ≤ 1000000000000) : ref05_ReadCaps b = caps_Decode b := by
  rw [ReadCaps_eq b hb hs, Decode_eq b hb hs]
  unfold capRead
  cases hq : tlv b with
  | none => rfl
  | some l =>
    congr 1
    refine foldM_congr fun x hx c => ?_
    obtain ⟨_, h3, h4⟩ := tlv_ok hb hq x hx
    simp only [GR, GC]
    cases hq2 : tlv x.2 with
    | none => rfl
    | some l2 =>
      split
      · refine foldM_congr fun y hy c => ?_
        obtain ⟨_, h5, h6⟩ := tlv_ok h3 hq2 y hy
        simp only [HR, HC]
        rw [one_eq c y.1 y.2 h5 (by omega)]
      · rfl
/-! What is good. -/
def GoodP (c : api_Caps) : Prop := (c.fFour = false ∧ c.fAS4 = 0 ∨ c.fFour = true ∧ 1 ≤ c.fAS4 ∧ c.fAS4 ≤ 4294967295) ∧ (0 ≤ c.fTime ∧ c.fTime ≤ 4095) ∧ (c.fGR = true ∨ c.fRestarting = false ∧ c.fTime = 0 ∧ c.fFamily = false) ∧ (c.fFamily = true ∨ c.fForward = false) ∧ (0 ≤ c.fLLTime ∧ c.fLLTime ≤ 16777215) ∧ (c.fLL = true ∨ c.fLLTime = 0)
theorem Good_iff (c : api_Caps) : caps_Good c = true ↔ GoodP c := by
  obtain ⟨f, a, g, r, t, fa, fo, l, lt⟩ := c
  simp only [caps_Good, GoodP, Bool.and_eq_true, Bool.or_eq_true, decide_eq_true_eq, Bool.not_eq_true', and_assoc]
theorem GoodCaps_eq (c : api_Caps) : ref05_GoodCaps c = caps_Good c := by
  rw [Bool.eq_iff_iff, Good_iff]
  obtain ⟨f, a, g, r, t, fa, fo, l, lt⟩ := c
  simp only [ref05_GoodCaps, GoodP]
  cases f <;> cases g <;> cases r <;> cases fa <;> cases fo <;> cases l <;> simp [cond_eq_ite] <;> omega
theorem GoodP_zero : GoodP zcaps := by simp [GoodP, zcaps]
theorem GoodP_def : GoodP default := (rfl : (default : api_Caps) = zcaps) ▸ GoodP_zero
theorem restart_good (c : api_Caps) (b : List Int) : ∀ (n : Nat) (C : api_Caps) (x : List Int), GoodP C → C.fGR = true → GoodP (caps_restart_l0 c b n C x).1
  | 0, _, _, _, _ => GoodP_def
  | n + 1, C, x, h, hg => by
    simp only [caps_restart_l0, thn]
    cases decide ((0 : Int) < (x.length : Int)) with
    | false => exact h
    | true =>
      simp only [cond_true]
      cases (caps_ipv4 x && !C.fFamily) with
      | false => exact restart_good c b n _ _ h hg
      | true =>
        simp only [cond_true]
        refine restart_good c b n _ _ ?_ hg
        obtain ⟨h1, h2, h3, h4, h5, h6⟩ := h
        exact ⟨h1, h2, .inl hg, .inl rfl, h5, h6⟩
theorem lived_good (c : api_Caps) (b : List Int) : ∀ (n : Nat) (C : api_Caps) (x : List Int), gdL (okI .u8) x → GoodP C → GoodP (caps_lived_l0 c b n C x).1
  | 0, _, _, _, _ => GoodP_def
  | n + 1, C, x, hx, h => by
    simp only [caps_lived_l0, thn]
    cases decide ((0 : Int) < (x.length : Int)) with
    | false => exact h
    | true =>
      simp only [cond_true]
      cases (caps_ipv4 x && !C.fLL) with
      | false => exact lived_good c b n _ _ (gdL_sub hx) h
      | true =>
        simp only [cond_true]
        refine lived_good c b n _ _ (gdL_sub hx) ?_
        obtain ⟨h1, h2, h3, h4, h5, h6⟩ := h
        refine ⟨h1, h2, h3, h4, ?_, .inl rfl⟩
        rw [lltime (ix_u8 hx 4) (ix_u8 hx 5) (ix_u8 hx 6)]
        have := ix_u8 hx 4
        have := ix_u8 hx 5
        have := ix_u8 hx 6
        generalize ix x 4 = p at *
        generalize ix x 5 = q at *
        generalize ix x 6 = r at *
        rw [wrap64_id (n := p) (by omega), wrap64_id (n := q) (by omega), wrap64_id (n := r) (by omega), wrap64_id (n := 65536 * p) (by omega), wrap64_id (n := 256 * q) (by omega), wrap64_id (n := 65536 * p + 256 * q) (by omega), wrap64_id (by omega)]
        dsimp only
        omega
theorem getm (b : List Int) (hb : gdL (okI .u8) b) (hl : b.length = 4) : 0 ≤ region_Get b ∧ region_Get b < 4294967296 := by
  match b, hl, hb with
  | [x, y, z, w], _, hb =>
    have hx := okI_u8 (hb x (by simp))
    have hy := okI_u8 (hb y (by simp))
    have hz := okI_u8 (hb z (by simp))
    have hw := okI_u8 (hb w (by simp))
    rw [Get_four x y z w hx hy hz hw]
    omega
theorem one_good (c : api_Caps) (code : Int) (b : List Int) (hb : gdL (okI .u8) b) (h : GoodP c) (h1 : (caps_one c code b).1 = true) : GoodP (caps_one c code b).2 := by
  revert h1
  simp only [caps_one]
  cases decide (code = 65) with
  | true =>
    simp only [cond_true]
    by_cases hl : b.length = 4
    · rw [decide_eq_true (by omega)]
      simp only [Bool.not_true, cond_false, decide_eq_true_eq]
      have := getm b hb hl
      rw [wrap64_id (by omega)]
      intro h0
      obtain ⟨h1, h2, h3, h4, h5, h6⟩ := h
      exact ⟨.inr ⟨rfl, by show 1 ≤ region_Get b; omega, by show region_Get b ≤ 4294967295; omega⟩, h2, h3, h4, h5, h6⟩
    · rw [decide_eq_false (by omega)]
      intro h0; cases h0
  | false =>
    simp only [cond_false]
    cases decide (code = 64) with
    | true =>
      simp only [cond_true, caps_restart, thn]
      cases (decide ((b.length : Int) < 2) || !decide (Int.tmod (IntKind.wrap .i64 ((b.length : Int) - 2)) 4 = 0)) with
      | true => intro h0; cases h0
      | false =>
        intro _
        simp only [cond_false]
        refine restart_good _ _ _ _ _ ?_ rfl
        obtain ⟨h1, h2, h3, h4, h5, h6⟩ := h
        refine ⟨h1, ?_, .inl rfl, .inr rfl, h5, h6⟩
        rw [time_eq (ix_u8 hb 0) (ix_u8 hb 1)]
        have := ix_u8 hb 0
        have := ix_u8 hb 1
        generalize ix b 0 = p at *
        generalize ix b 1 = q at *
        have e0 : Int.tmod p 16 = p % 16 := by rw [tmod_ite, if_pos (by omega)]
        rw [e0, wrap64_id (n := p % 16) (by omega), wrap64_id (n := q) (by omega), wrap64_id (n := 256 * (p % 16)) (by omega), wrap64_id (by omega)]
        dsimp only
        omega
    | false =>
      simp only [cond_false]
      cases decide (code = 71) with
      | true =>
        simp only [cond_true, caps_lived, thn]
        cases (!decide (Int.tmod (b.length : Int) 7 = 0)) with
        | true => intro h0; cases h0
        | false =>
          intro _
          simp only [cond_false]
          refine lived_good _ _ _ _ _ hb ?_
          obtain ⟨h1, h2, h3, h4, h5, h6⟩ := h
          exact ⟨h1, h2, h3, h4, by simp, .inr rfl⟩
      | false => intro _; exact h
theorem capRead_good (b : List Int) (hb : gdL (okI .u8) b) (c : api_Caps) (h : capRead b = some c) : GoodP c := by
  unfold capRead at h
  cases hq : tlv b with
  | none => rw [hq] at h; cases h
  | some l =>
    rw [hq] at h
    refine foldM_inv (fun x hx c c' hc hg => ?_) GoodP_zero h
    obtain ⟨_, h3, h4⟩ := tlv_ok hb hq x hx
    simp only [GC] at hg
    split at hg
    · cases hq2 : tlv x.2 with
      | none => rw [hq2] at hg; cases hg
      | some l2 =>
        rw [hq2] at hg
        refine foldM_inv (fun y hy c c' hc hg => ?_) hc hg
        obtain ⟨_, h5, h6⟩ := tlv_ok h3 hq2 y hy
        simp only [HC, OB] at hg
        cases h1 : (caps_one c y.1 y.2).1 with
        | false => rw [h1] at hg; cases hg
        | true =>
          rw [h1] at hg
          simp only [cond_true, Option.some.injEq] at hg
          rw [← hg]
          exact one_good c y.1 y.2 h5 hc h1
    · cases hg

/-! The bytes. -/
def fourB (n : Int) : List Int := [n / 16777216 % 256, n / 65536 % 256, n / 256 % 256, n % 256]
def hiB (r : Bool) (t : Int) : Int := (bif r then 128 else 0) + t / 256
def fwB (f : Bool) : Int := bif f then 128 else 0
def B1 (c : api_Caps) : List Int := bif c.fFour then [65, 4] ++ fourB c.fAS4 else []
def B2 (c : api_Caps) : List Int := bif c.fGR then (bif c.fFamily then [64, 6, hiB c.fRestarting c.fTime, c.fTime % 256, 0, 1, 1, fwB c.fForward] else [64, 2, hiB c.fRestarting c.fTime, c.fTime % 256]) else []
def B3 (c : api_Caps) : List Int := bif c.fLL then [71, 7, 0, 1, 1, 0, c.fLLTime / 65536 % 256, c.fLLTime / 256 % 256, c.fLLTime % 256] else []
def LB (c : api_Caps) : List Int := (B1 c ++ B2 c) ++ B3 c
theorem Four_eq (n : Int) (h : 0 ≤ n ∧ n ≤ 4294967295) : ref01_Four n = fourB n := by
  simp only [ref01_Four, fourB, wrapu8, wrapu32, fd8, fd16, fd24, List.cons.injEq, and_true]
  try (refine ⟨?_, ?_, ?_, ?_⟩ <;> omega)
theorem Put_eq (b : List Int) (n : Int) (h : 0 ≤ n ∧ n ≤ 4294967295) : region_Put b (IntKind.wrap .u32 n) = b ++ fourB n := by
  simp only [region_Put, fourB, wrapu8, wrapu32, fd8, fd16, fd24, List.append_cancel_left_eq, List.cons.injEq, and_true]
  try (refine ⟨?_, ?_, ?_, ?_⟩ <;> omega)
theorem or7 (n : Nat) (h : n < 128) : (128 ||| n) = 128 + n := or_add 7 1 n h
theorem hi_eq (r : Bool) (t : Int) (h : 0 ≤ t ∧ t ≤ 4095) : ior .u8 (caps_flag r) (IntKind.wrap .u8 (Int.fdiv t (2 ^ 8))) = hiB r t := by
  obtain ⟨n, rfl⟩ := Int.eq_ofNat_of_zero_le h.1
  have e1 : IntKind.wrap .u8 (Int.fdiv (n : Int) (2 ^ 8)) = ((n / 256 : Nat) : Int) := by rw [fd8, wrapu8]; omega
  rw [e1]
  cases r with
  | true =>
    show ior .u8 128 ((n / 256 : Nat) : Int) = 128 + (n : Int) / 256
    rw [ior8 (by decide) (by omega), show (128 : Int).toNat = 128 from rfl, show ((n / 256 : Nat) : Int).toNat = n / 256 from rfl, or7 _ (by omega)]
    omega
  | false =>
    show ior .u8 0 ((n / 256 : Nat) : Int) = 0 + (n : Int) / 256
    rw [ior8 (by decide) (by omega), show (0 : Int).toNat = 0 from rfl, show ((n / 256 : Nat) : Int).toNat = n / 256 from rfl, Nat.zero_or]
    omega
theorem lo_eq (t : Int) : IntKind.wrap .u8 t = t % 256 := wrapu8 t
theorem list_eq (c : api_Caps) (h : GoodP c) : caps_list c = LB c := by
  obtain ⟨h1, h2, h3, h4, h5, h6⟩ := h
  simp only [caps_list, thn, LB, B1, B2, B3, hi_eq c.fRestarting c.fTime h2]
  simp only [lo_eq]
  have e1 : ∀ b, c.fFour = true → region_Put b (IntKind.wrap .u32 c.fAS4) = b ++ fourB c.fAS4 := fun b hf => Put_eq b _ (by rcases h1 with h | h; exact absurd h.1 (by rw [hf]; decide); omega)
  have f1 : Int.fdiv c.fLLTime (2 ^ 16) = c.fLLTime / 65536 := fd16 _
  have f2 : Int.fdiv c.fLLTime (2 ^ 8) = c.fLLTime / 256 := fd8 _
  have f3 : ∀ y, caps_flag y = fwB y := fun _ => rfl
  rw [f1, f2]
  cases hf : c.fFour with
  | false => cases c.fGR <;> cases c.fFamily <;> cases c.fLL <;> simp [f3]
  | true => rw [e1 _ hf]; cases c.fGR <;> cases c.fFamily <;> cases c.fLL <;> simp [f3]
theorem LB_len (c : api_Caps) : (LB c).length ≤ 40 := by
  simp only [LB, B1, B2, B3, fourB]
  cases c.fFour <;> cases c.fGR <;> cases c.fFamily <;> cases c.fLL <;> simp
theorem Encode_good (c : api_Caps) (h : GoodP c) : caps_Encode c = if LB c = [] then [] else 2 :: ((LB c).length : Int) :: LB c := by
  have hl := LB_len c
  unfold caps_Encode
  rw [list_eq c h, (Good_iff c).2 h]
  by_cases h0 : LB c = []
  · rw [if_pos h0, h0]; rfl
  · rw [if_neg h0]
    have : (LB c).length ≠ 0 := fun e => h0 (List.length_eq_zero_iff.1 e)
    rw [decide_eq_false (by omega)]
    have hw : IntKind.wrap .u8 ((LB c).length : Int) = (LB c).length := by rw [wrapu8]; omega
    rw [hw]
    rfl
theorem Encode_bad (c : api_Caps) (h : ¬ GoodP c) : caps_Encode c = [] := by
  unfold caps_Encode
  have : caps_Good c = false := by
    cases hq : caps_Good c with
    | false => rfl
    | true => exact absurd ((Good_iff c).1 hq) h
  rw [this]; rfl
theorem t_eq (r : Bool) (t : Int) (h : 0 ≤ t ∧ t ≤ 4095) : IntKind.wrap .u8 (IntKind.wrap .i64 (Int.tdiv (bif r then IntKind.wrap .i64 (t + 32768) else t) 256)) = hiB r t ∧ IntKind.wrap .u8 (Int.tmod (bif r then IntKind.wrap .i64 (t + 32768) else t) 256) = t % 256 := by
  cases r with
  | true =>
    simp only [cond_true, hiB]
    rw [wrap64_id (n := t + 32768) (by omega), tdiv_ite, if_pos (by omega), tmod_ite, if_pos (by omega), wrap64_id (by omega), wrapu8, wrapu8]
    omega
  | false =>
    simp only [cond_false, hiB]
    rw [tdiv_ite, if_pos (by omega), tmod_ite, if_pos (by omega), wrap64_id (by omega), wrapu8, wrapu8]
    omega
theorem Caps_eq (c : api_Caps) : ref05_Caps c = caps_Encode c := by
  by_cases h : GoodP c
  · have hg := (Good_iff c).2 h
    have key : ∀ X : List Int, X = LB c → (bif decide (((X.length : Int) : Int) = 0) then [] else ([2, (IntKind.wrap .u8 (X.length : Int))] ++ X)) = caps_Encode c := by
      rintro X rfl
      have hl := LB_len c
      rw [Encode_good c h]
      by_cases h0 : LB c = []
      · rw [if_pos h0, h0]; rfl
      · rw [if_neg h0]
        have : (LB c).length ≠ 0 := fun e => h0 (List.length_eq_zero_iff.1 e)
        rw [decide_eq_false (by omega)]
        have hw : IntKind.wrap .u8 ((LB c).length : Int) = (LB c).length := by rw [wrapu8]; omega
        rw [hw]
        rfl
    obtain ⟨h1, h2, h3, h4, h5, h6⟩ := h
    unfold ref05_Caps
    rw [GoodCaps_eq, hg]
    simp only [Bool.not_true, cond_false, thn]
    refine key _ ?_
    have e1 : c.fFour = true → ref01_Four c.fAS4 = fourB c.fAS4 := fun hf => Four_eq _ (by rcases h1 with h | h; exact absurd h.1 (by rw [hf]; decide); omega)
    have e3 : sub (ref01_Four c.fLLTime) 1 ((ref01_Four c.fLLTime).length : Int) = [c.fLLTime / 65536 % 256, c.fLLTime / 256 % 256, c.fLLTime % 256] := by rw [Four_eq _ (by omega)]; rfl
    have e4 : IntKind.wrap .u8 (bif c.fForward then 128 else 0) = fwB c.fForward := by cases c.fForward <;> rfl
    simp only [e3, e4, (t_eq c.fRestarting c.fTime h2).1, (t_eq c.fRestarting c.fTime h2).2, LB, B1, B2, B3]
    cases hf : c.fFour with
    | false => cases c.fGR <;> cases c.fFamily <;> cases c.fLL <;> simp
    | true => rw [e1 hf]; cases c.fGR <;> cases c.fFamily <;> cases c.fLL <;> simp
  · rw [Encode_bad c h]
    unfold ref05_Caps
    have : ref05_GoodCaps c = false := by
      rw [GoodCaps_eq]
      cases hq : caps_Good c with
      | false => rfl
      | true => exact absurd ((Good_iff c).1 hq) h
    rw [this]; rfl
/-! There and back. -/
def P1 (c : api_Caps) : List (Int × List Int) := bif c.fFour then [(65, fourB c.fAS4)] else []
def P2 (c : api_Caps) : List (Int × List Int) := bif c.fGR then [(64, bif c.fFamily then [hiB c.fRestarting c.fTime, c.fTime % 256, 0, 1, 1, fwB c.fForward] else [hiB c.fRestarting c.fTime, c.fTime % 256])] else []
def P3 (c : api_Caps) : List (Int × List Int) := bif c.fLL then [(71, [0, 1, 1, 0, c.fLLTime / 65536 % 256, c.fLLTime / 256 % 256, c.fLLTime % 256])] else []
theorem tlv_nil : tlv [] = some [] := by rw [tlv]
theorem tlv_cons (t k : Int) (v r : List Int) (h : k = (v.length : Int)) : tlv (t :: k :: (v ++ r)) = (tlv r).map fun l => (t, v) :: l := by
  subst h
  rw [tlv, if_pos (by simp only [List.length_append]; omega), show (v.length : Int).toNat = v.length from rfl, List.drop_left, List.take_left]
theorem tlv_cons1 (t k : Int) (v : List Int) (h : k = (v.length : Int)) : tlv (t :: k :: v) = some [(t, v)] := by
  have := tlv_cons t k v [] h
  rw [List.append_nil, tlv_nil] at this
  exact this
theorem tlv1 (c : api_Caps) : tlv (B1 c) = some (P1 c) := by
  unfold B1 P1
  cases c.fFour with
  | false => exact tlv_nil
  | true => exact tlv_cons1 65 4 (fourB c.fAS4) rfl
theorem tlv2 (c : api_Caps) : tlv (B2 c) = some (P2 c) := by
  unfold B2 P2
  cases c.fGR with
  | false => exact tlv_nil
  | true =>
    cases c.fFamily with
    | false => exact tlv_cons1 64 2 [hiB c.fRestarting c.fTime, c.fTime % 256] rfl
    | true => exact tlv_cons1 64 6 [hiB c.fRestarting c.fTime, c.fTime % 256, 0, 1, 1, fwB c.fForward] rfl
theorem tlv3 (c : api_Caps) : tlv (B3 c) = some (P3 c) := by
  unfold B3 P3
  cases c.fLL with
  | false => exact tlv_nil
  | true => exact tlv_cons1 71 7 [0, 1, 1, 0, c.fLLTime / 65536 % 256, c.fLLTime / 256 % 256, c.fLLTime % 256] rfl
theorem tlvL (c : api_Caps) : tlv (LB c) = some ((P1 c ++ P2 c) ++ P3 c) := by
  have h12 : tlv (B1 c ++ B2 c) = some (P1 c ++ P2 c) := by rw [tlv_app (tlv1 c), tlv2]; rfl
  unfold LB
  rw [tlv_app h12, tlv3]; rfl
def up1 (c x : api_Caps) : api_Caps := bif c.fFour then ⟨true, c.fAS4, x.fGR, x.fRestarting, x.fTime, x.fFamily, x.fForward, x.fLL, x.fLLTime⟩ else x
def up2 (c x : api_Caps) : api_Caps := bif c.fGR then ⟨x.fFour, x.fAS4, true, c.fRestarting, c.fTime, c.fFamily, c.fForward, x.fLL, x.fLLTime⟩ else x
def up3 (c x : api_Caps) : api_Caps := bif c.fLL then ⟨x.fFour, x.fAS4, x.fGR, x.fRestarting, x.fTime, x.fFamily, x.fForward, true, c.fLLTime⟩ else x
theorem step1 (c x : api_Caps) (h : GoodP c) : foldM' HC x (P1 c) = some (up1 c x) := by
  obtain ⟨h1, h2, h3, h4, h5, h6⟩ := h
  unfold P1 up1
  cases hf : c.fFour with
  | false => rfl
  | true =>
    have hn : 1 ≤ c.fAS4 ∧ c.fAS4 ≤ 4294967295 := by rcases h1 with h | h; exact absurd h.1 (by rw [hf]; decide); exact h.2
    show (OB (caps_one x 65 (fourB c.fAS4))).bind _ = _
    have hg : region_Get (fourB c.fAS4) = c.fAS4 := by
      unfold fourB
      rw [Get_four _ _ _ _ (by omega) (by omega) (by omega) (by omega)]
      omega
    simp only [caps_one, hg, decide_true, cond_true]
    have e1 : decide (((fourB c.fAS4).length : Int) = 4) = true := rfl
    rw [e1, wrap64_id (by omega), decide_eq_true (p := (0 : Int) < c.fAS4) (by omega)]
    rfl
theorem hi_bit (r : Bool) (t : Int) (h : 0 ≤ t ∧ t ≤ 4095) : (!decide (iand .u8 (hiB r t) 128 = 0)) = r := by
  rw [bit7 (by unfold hiB; cases r <;> simp only [cond_true, cond_false] <;> omega)]
  unfold hiB
  cases r with
  | true => rw [cond_true, decide_eq_true (by omega)]
  | false => rw [cond_false, decide_eq_false (by omega)]
theorem hi_time (r : Bool) (t : Int) (h : 0 ≤ t ∧ t ≤ 4095) : iand .i64 (ior .i64 (IntKind.wrap .i64 ((IntKind.wrap .i64 (hiB r t)) * 2 ^ 8)) (IntKind.wrap .i64 (t % 256))) 4095 = t := by
  have hh : 0 ≤ hiB r t ∧ hiB r t < 256 := by unfold hiB; cases r <;> simp only [cond_true, cond_false] <;> omega
  have hm : hiB r t % 16 = t / 256 := by unfold hiB; cases r <;> simp only [cond_true, cond_false] <;> omega
  rw [time_eq hh (by omega), tmod_ite, if_pos hh.1, hm, wrap64_id (n := t / 256) (by omega), wrap64_id (n := t % 256) (by omega), wrap64_id (n := 256 * (t / 256)) (by omega), wrap64_id (by omega)]
  omega
theorem fw_bit (f : Bool) : (!decide (iand .u8 (fwB f) 128 = 0)) = f := by cases f <;> decide
theorem step2 (c x : api_Caps) (h : GoodP c) : foldM' HC x (P2 c) = some (up2 c x) := by
  obtain ⟨h1, h2, h3, h4, h5, h6⟩ := h
  unfold P2 up2
  cases hf : c.fGR with
  | false => rfl
  | true =>
    cases hfa : c.fFamily with
    | false =>
      have hfo : c.fForward = false := by rcases h4 with h | h; exact absurd h (by rw [hfa]; decide); exact h
      show (OB (caps_one x 64 [hiB c.fRestarting c.fTime, c.fTime % 256])).bind _ = _
      have e0 : decide ((64 : Int) = 65) = false := rfl
      have e1 : (decide ((([hiB c.fRestarting c.fTime, c.fTime % 256] : List Int).length : Int) < 2) || !decide (Int.tmod (IntKind.wrap .i64 ((([hiB c.fRestarting c.fTime, c.fTime % 256] : List Int).length : Int) - 2)) 4 = 0)) = false := rfl
      have e2 : sub [hiB c.fRestarting c.fTime, c.fTime % 256] 2 (([hiB c.fRestarting c.fTime, c.fTime % 256] : List Int).length : Int) = [] := rfl
      have e3 : ix [hiB c.fRestarting c.fTime, c.fTime % 256] 0 = hiB c.fRestarting c.fTime := rfl
      have e4 : ix [hiB c.fRestarting c.fTime, c.fTime % 256] 1 = c.fTime % 256 := rfl
      simp only [caps_one, decide_true, e0, cond_true, cond_false, caps_restart, e1, e2, e3, e4, thn, hi_bit c.fRestarting c.fTime h2, hi_time c.fRestarting c.fTime h2, hfo]
      rfl
    | true =>
      show (OB (caps_one x 64 [hiB c.fRestarting c.fTime, c.fTime % 256, 0, 1, 1, fwB c.fForward])).bind _ = _
      have e0 : decide ((64 : Int) = 65) = false := rfl
      have e1 : (decide ((([hiB c.fRestarting c.fTime, c.fTime % 256, 0, 1, 1, fwB c.fForward] : List Int).length : Int) < 2) || !decide (Int.tmod (IntKind.wrap .i64 ((([hiB c.fRestarting c.fTime, c.fTime % 256, 0, 1, 1, fwB c.fForward] : List Int).length : Int) - 2)) 4 = 0)) = false := by show (decide (((6 : Nat) : Int) < 2) || !decide (Int.tmod (IntKind.wrap .i64 (((6 : Nat) : Int) - 2)) 4 = 0)) = false; decide
      have e2 : sub [hiB c.fRestarting c.fTime, c.fTime % 256, 0, 1, 1, fwB c.fForward] 2 (([hiB c.fRestarting c.fTime, c.fTime % 256, 0, 1, 1, fwB c.fForward] : List Int).length : Int) = [0, 1, 1, fwB c.fForward] := rfl
      have e3 : ix [hiB c.fRestarting c.fTime, c.fTime % 256, 0, 1, 1, fwB c.fForward] 0 = hiB c.fRestarting c.fTime := rfl
      have e4 : ix [hiB c.fRestarting c.fTime, c.fTime % 256, 0, 1, 1, fwB c.fForward] 1 = c.fTime % 256 := rfl
      have e5 : caps_ipv4 [0, 1, 1, fwB c.fForward] = true := rfl
      have e6 : ix [0, 1, 1, fwB c.fForward] 3 = fwB c.fForward := rfl
      have e7 : ([0, 1, 1, fwB c.fForward] : List Int).length = 4 := rfl
      have e8 : sub [0, 1, 1, fwB c.fForward] 4 ((4 : Nat) : Int) = [] := rfl
      have e9 : decide ((0 : Int) < ((4 : Nat) : Int)) = true := rfl
      simp only [caps_one, decide_true, e0, cond_true, cond_false, caps_restart, e1, e2, e3, e4, thn, hi_bit c.fRestarting c.fTime h2, hi_time c.fRestarting c.fTime h2, caps_restart_l0, e5, e6, e7, e8, e9, fw_bit, Bool.not_false, Bool.and_true]
      rfl
theorem step3 (c x : api_Caps) (h : GoodP c) : foldM' HC x (P3 c) = some (up3 c x) := by
  obtain ⟨h1, h2, h3, h4, h5, h6⟩ := h
  unfold P3 up3
  cases hf : c.fLL with
  | false => rfl
  | true =>
    show (OB (caps_one x 71 [0, 1, 1, 0, c.fLLTime / 65536 % 256, c.fLLTime / 256 % 256, c.fLLTime % 256])).bind _ = _
    generalize hp : c.fLLTime / 65536 % 256 = p
    generalize hq : c.fLLTime / 256 % 256 = q
    generalize hr : c.fLLTime % 256 = r
    have e0 : decide ((71 : Int) = 65) = false := rfl
    have e01 : decide ((71 : Int) = 64) = false := rfl
    have e1 : (!decide (Int.tmod (([0, 1, 1, 0, p, q, r] : List Int).length : Int) 7 = 0)) = false := by show (!decide (Int.tmod ((7 : Nat) : Int) 7 = 0)) = false; decide
    have e5 : caps_ipv4 [0, 1, 1, 0, p, q, r] = true := rfl
    have i4 : ix [0, 1, 1, 0, p, q, r] 4 = p := rfl
    have i5 : ix [0, 1, 1, 0, p, q, r] 5 = q := rfl
    have i6 : ix [0, 1, 1, 0, p, q, r] 6 = r := rfl
    have e7 : ([0, 1, 1, 0, p, q, r] : List Int).length = 7 := rfl
    have e8 : sub [0, 1, 1, 0, p, q, r] 7 ((7 : Nat) : Int) = [] := rfl
    have e9 : decide ((0 : Int) < ((7 : Nat) : Int)) = true := rfl
    have hv : ior .i64 (ior .i64 (IntKind.wrap .i64 ((IntKind.wrap .i64 p) * 2 ^ 16)) (IntKind.wrap .i64 ((IntKind.wrap .i64 q) * 2 ^ 8))) (IntKind.wrap .i64 r) = c.fLLTime := by
      rw [lltime (by omega) (by omega) (by omega), wrap64_id (n := p) (by omega), wrap64_id (n := q) (by omega), wrap64_id (n := r) (by omega), wrap64_id (n := 65536 * p) (by omega), wrap64_id (n := 256 * q) (by omega), wrap64_id (n := 65536 * p + 256 * q) (by omega), wrap64_id (by omega)]
      omega
    simp only [caps_one, decide_true, e0, e01, cond_true, cond_false, caps_lived, e1, thn]
    simp only [e7, caps_lived_l0, e5, i4, i5, i6, e8, e9, hv, cond_true, cond_false, Bool.not_false, Bool.and_true, thn]
    rfl
theorem stepL (c x : api_Caps) (h : GoodP c) : foldM' HC x ((P1 c ++ P2 c) ++ P3 c) = some (up3 c (up2 c (up1 c x))) := by
  rw [foldM_app, foldM_app, step1 c x h]
  show ((foldM' HC (up1 c x) (P2 c)).bind _) = _
  rw [step2 c _ h]
  exact step3 c _ h
/-- What the bytes of good capabilities are one behind the other. -/
theorem tlvE (c : api_Caps) (h : GoodP c) : ∃ l, tlv (caps_Encode c) = some l ∧ ∀ x, foldM' GC x l = some (up3 c (up2 c (up1 c x))) := by
  rw [Encode_good c h]
  by_cases h0 : LB c = []
  · rw [if_pos h0]
    refine ⟨[], tlv_nil, fun x => ?_⟩
    have h2 := tlvL c
    rw [h0, tlv_nil] at h2
    have h2 := Option.some.inj h2
    have h3 := stepL c x h
    rw [← h2] at h3
    exact h3
  · rw [if_neg h0]
    refine ⟨[(2, LB c)], tlv_cons1 2 _ (LB c) rfl, fun x => ?_⟩
    show (GC 2 (LB c) x).bind _ = _
    unfold GC
    rw [if_pos rfl, tlvL]
    show (foldM' HC x ((P1 c ++ P2 c) ++ P3 c)).bind _ = _
    rw [stepL c x h]
    rfl
theorem up_zero (c : api_Caps) (h : GoodP c) : up3 c (up2 c (up1 c zcaps)) = c := by
  obtain ⟨f, a, g, r, t, fa, fo, l, lt⟩ := c
  obtain ⟨h1, h2, h3, h4, h5, h6⟩ := h
  cases f <;> cases g <;> cases l <;> simp_all [up1, up2, up3, zcaps]
theorem back (c : api_Caps) (h : GoodP c) : caps_Decode (caps_Encode c) = (c, true) := by
  obtain ⟨l, h1, h2⟩ := tlvE c h
  have hl : (caps_Encode c).length ≤ 1000000000000 := by
    have := LB_len c
    rw [Encode_good c h]
    split <;> simp <;> omega
  rw [Decode_eq _ (caps_Encode_ok c) hl, capRead, h1, Option.bind_some, h2, up_zero c h]
  rfl
theorem answers08 : law08_answers = true := by
  have h : GoodP (⟨true, 70000, false, false, 0, false, false, false, 0⟩ : api_Caps) := by simp [GoodP]
  unfold law08_answers
  rw [back _ h, (Good_iff _).2 h]
  simp
theorem Decode_pair (b : List Int) (hb : gdL (okI .u8) b) (hs : b.length ≤ 1000000000000) : (!((caps_Decode b).2) || caps_Good ((caps_Decode b).1)) = true := by
  rw [Decode_eq b hb hs]
  cases hq : capRead b with
  | none => rfl
  | some c => show (!true || caps_Good c) = true; rw [(Good_iff c).2 (capRead_good b hb c hq)]; rfl
theorem Enc_len (c : api_Caps) : (caps_Encode c).length ≤ 42 := by
  by_cases h : GoodP c
  · have := LB_len c
    rw [Encode_good c h]
    split <;> simp <;> omega
  · rw [Encode_bad c h]; simp
theorem Caps_len42 (c : api_Caps) : (ref05_Caps c).length ≤ 42 := by rw [Caps_eq]; exact Enc_len c
theorem tmod_rng (x y : Int) (h : 0 ≤ x) (h' : 0 < y) : 0 ≤ Int.tmod x y ∧ Int.tmod x y < y := by
  rw [tmod_ite, if_pos h]
  exact ⟨Int.emod_nonneg x (by omega), Int.emod_lt_of_pos x h'⟩
end Go.Proofs.Ytnpipeihomebhaa
