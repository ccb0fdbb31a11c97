import Derived.Test.YtadjcpiiagkdeaaDoorV5
import Derived.Lib.Strings
import Derived.Lib.Walk
import Derived.Lib.ConvBytes
import Derived.Lib.ParseIntBMem
import Derived.Lib.Hide
import Derived.Laws.Strings3
import Derived.Laws.Closers25
import Derived.Laws.Closers25b
import Derived.WalkKit
import Derived.BigCall
import Derived.BigGuard
import Derived.Shelf.Pu.ToError
import Derived.Shelf.Pu.ParseUintPublic10
import Derived.Shelf.Strings.OnBuilder
import Derived.Shelf.Strings.SplitCore
import Derived.Shelf.Strings.Count
import Derived.Shelf.Strings.Search3
import Derived.Lib.SplitLaws
set_option linter.unusedVariables false
set_option linter.unusedSimpArgs false
/-! row.Split. -/
namespace Go.Rx
open Go.Ab Go.L21
set_option linter.unusedVariables false
set_option maxRecDepth 100000
theorem wrap64 {n : Int} (h : -9223372036854775808 ≤ n ∧ n ≤ 9223372036854775807) : IntKind.i64.wrap n = n := wrap64_id h
/-- What is handed back, with out's parts ahead. -/
def finS (out : List ByteArray) : Option (List (List UInt8)) → List ByteArray × Bool
  | none => ([], false)
  | some t => (out ++ t.map bs, true)
theorem finS_nil (l : List UInt8) (x : ByteArray) (h : l = x.data.toList) : finS [] (splitL l) = S315 x := by
  subst h; unfold S315
  cases splitL x.data.toList <;> rfl
theorem finS_some {l x r : List UInt8} {out : List ByteArray} (h : split1 l = some (x, r)) : finS out (splitL l) = finS (out ++ [bs x]) (splitL r) := by
  rw [splitL_some h]
  cases splitL r with
  | none => rfl
  | some t => show (out ++ (x :: t).map bs, true) = _; simp [finS]
/-- The text up to the colon. -/
abbrev tw (l : List UInt8) : List UInt8 := l.takeWhile (· != 58)
theorem tw_le (l : List UInt8) : (tw l).length ≤ l.length := by
  induction l with
  | nil => exact Nat.le_refl _
  | cons c r ih => unfold tw at *; rw [List.takeWhile_cons]; split <;> simp; omega
theorem tw_take (l : List UInt8) : tw l = l.take (tw l).length := by
  induction l with
  | nil => rfl
  | cons c r ih =>
    unfold tw at *; rw [List.takeWhile_cons]; split
    · rw [List.length_cons, List.take_succ_cons, ← ih]
    · rfl
theorem idx58 (l : List UInt8) : Lib.indexByte l 58 = if (tw l).length < l.length then ((tw l).length : Int) else -1 := by
  induction l with
  | nil => rfl
  | cons c r ih =>
    unfold tw at *
    rw [Lib.indexByte, List.takeWhile_cons]
    by_cases hc : c = 58
    · subst hc; rfl
    · have h1 : (c == 58) = false := by simpa using hc
      have h2 : (c != 58) = true := by simpa using hc
      rw [h1, h2]
      simp only [if_true, Bool.false_eq_true, if_false, List.length_cons]
      rw [ih]
      by_cases hl : (r.takeWhile (· != 58)).length < r.length
      · rw [if_pos hl, if_pos (Nat.succ_lt_succ hl), if_neg (by simp only [beq_iff_eq]; omega)]
        omega
      · rw [if_neg hl, if_neg (fun h => hl (Nat.lt_of_succ_lt_succ h))]; rfl
theorem split1_is (l : List UInt8) : split1 l = if (tw l).length < l.length ∧ tw l = Lib.decDigits (valL (tw l)) ∧ valL (tw l) ≤ (l.drop ((tw l).length + 1)).length then some ((l.drop ((tw l).length + 1)).take (valL (tw l)), (l.drop ((tw l).length + 1)).drop (valL (tw l))) else none := by
  unfold split1
  simp only []
  split
  · rename_i h
    obtain ⟨h1, h2, h3⟩ := h
    have e2 : (tw l == Lib.decDigits (valL (tw l))) = true := beq_iff_eq.2 h2
    rw [show decide ((l.takeWhile (· != 58)).length < l.length) = true from decide_eq_true h1, show (l.takeWhile (· != 58) == Lib.decDigits (valL (l.takeWhile (· != 58)))) = true from e2, show decide (valL (l.takeWhile (· != 58)) ≤ (l.drop ((l.takeWhile (· != 58)).length + 1)).length) = true from decide_eq_true h3]
    rfl
  · rename_i h
    cases hb : (decide ((l.takeWhile (· != 58)).length < l.length) && (l.takeWhile (· != 58) == Lib.decDigits (valL (l.takeWhile (· != 58)))) && decide (valL (l.takeWhile (· != 58)) ≤ (l.drop ((l.takeWhile (· != 58)).length + 1)).length)) with
    | false => rfl
    | true =>
      rw [Bool.and_eq_true, Bool.and_eq_true, decide_eq_true_eq, decide_eq_true_eq, beq_iff_eq] at hb
      exact absurd ⟨hb.1.1, hb.1.2, hb.2⟩ h
theorem ext0 (s : ByteArray) (k : Nat) : (s.extract 0 k).data.toList = s.data.toList.take k := by
  rw [Lib.extract_data]; rfl
theorem extE (s : ByteArray) (k : Nat) : (s.extract k s.size).data.toList = s.data.toList.drop k := by
  rw [Lib.extract_data, List.take_of_length_le]
  rw [List.length_drop, ← Lib.size_eq]; omega
theorem s337_dec {s : ByteArray} {v : Nat} (h : s.data.toList = Lib.decDigits v) (hv : v < 9223372036854775808) : S337 s = ((v : Int), false) := by
  unfold S337
  rw [h, atoi_dec v hv]; rfl
/-- The four ways of a round. -/
theorem round15 {l : List UInt8} {k : Nat} {sz bh : ByteArray} (hl : l.length ≤ 1099511627776) (hk : (tw l).length = k) (hkl : k < l.length) (hs : sz.data.toList = tw l) (hb : bh.data.toList = l.drop (k + 1)) :
    (((S337 sz).2 || decide ((S337 sz).1 < 0) || decide ((bh.size : Int) < (S337 sz).1)) = true → split1 l = none) ∧
    (((S337 sz).2 || decide ((S337 sz).1 < 0) || decide ((bh.size : Int) < (S337 sz).1)) = false → (0 ≤ (S337 sz).1 ∧ (S337 sz).1 ≤ bh.size) ∧
      ((!((S333 (S337 sz).1).toList == sz.toList)) = true → split1 l = none) ∧
      ((!((S333 (S337 sz).1).toList == sz.toList)) = false → split1 l = some ((bh.extract 0 (S337 sz).1.toNat).data.toList, (bh.extract (S337 sz).1.toNat bh.size).data.toList))) := by
  have hbl : bh.size = (l.drop (k + 1)).length := by rw [Lib.size_eq, hb]
  have hbl2 : (l.drop (k + 1)).length ≤ l.length := by rw [List.length_drop]; omega
  have yes : ∀ {p}, split1 l = some p → ∃ v : Nat, tw l = Lib.decDigits v ∧ v ≤ bh.size ∧ S337 sz = ((v : Int), false) := by
    intro p hp
    rw [split1_is] at hp
    split at hp
    · rename_i h
      obtain ⟨_, h2, h3⟩ := h
      rw [hk] at h3
      refine ⟨_, h2, by rw [hbl]; exact h3, s337_dec (by rw [hs]; exact h2) (by omega)⟩
    · cases hp
  refine ⟨fun hc => ?_, fun hc => ?_⟩
  · cases hp : split1 l with
    | none => rfl
    | some p =>
      obtain ⟨v, h1, h2, h3⟩ := yes hp
      rw [h3] at hc
      simp at hc
      omega
  · have hc' : (S337 sz).2 = false ∧ 0 ≤ (S337 sz).1 ∧ (S337 sz).1 ≤ bh.size := by
      revert hc
      cases (S337 sz).2 <;> simp
    obtain ⟨_, h0, h1⟩ := hc'
    refine ⟨⟨h0, h1⟩, fun hd => ?_, fun hd => ?_⟩
    · cases hp : split1 l with
      | none => rfl
      | some p =>
        obtain ⟨v, e1, _, e3⟩ := yes hp
        rw [e3] at hd
        have : (S333 (v : Int)).toList = sz.toList := by
          rw [Lib.toList_data, Lib.toList_data, hs, e1, S333, data_bs, Lib.itoa_nonneg]
        rw [this] at hd
        simp at hd
    · generalize (S337 sz).1 = n at *
      obtain ⟨u, rfl⟩ : ∃ u : Nat, n = (u : Int) := ⟨n.toNat, by omega⟩
      have hd : (S333 (u : Int)).toList = sz.toList := by simpa using hd
      rw [Lib.toList_data, Lib.toList_data, hs, S333, data_bs, Lib.itoa_nonneg] at hd
      have hv : valL (tw l) = u := by rw [← hd]; exact val_dec u
      rw [split1_is, if_pos ⟨by omega, by rw [hv]; exact hd.symm, by rw [hv, hk]; omega⟩, hv, hk, Int.toNat_natCast, ext0, extE, hb]
theorem run315 : RunC C315 6 15 [22, 4] [9] W315 [] := by
  intro (x : ByteArray) hx hp
  have hp : x.size ≤ 1099511627776 := hp _ rfl
  refine of_eq (q315 x _) ?_
  refine LOOP.of (fun y => finS y.1 (splitL y.2.data.toList) = S315 x ∧ y.1.length + y.2.size ≤ x.size) (fun y => y.2.size) ⟨finS_nil _ x rfl, by simp⟩ ?_
  rintro ⟨out, rest⟩ ⟨h1, h2⟩ J hJ
  have h1 : finS out (splitL rest.data.toList) = S315 x := h1
  have h2 : out.length + rest.size ≤ x.size := h2
  have hrl : rest.data.toList.length = rest.size := (Lib.size_eq rest).symm
  dsimp only
  refine bif_of (fun hne => ⟨rfl, ?_⟩) (fun he => ?_)
  · have hne : rest.data.toList ≠ [] := by
      intro e
      rw [Lib.toList_data, Lib.toList_data, e] at hne
      exact absurd hne (by decide)
    have hi : S365 rest (ByteArray.mk #[58]) = if (tw rest.data.toList).length < rest.data.toList.length then ((tw rest.data.toList).length : Int) else -1 := idx58 _
    have nn : split1 rest.data.toList = none → (([], false) : List ByteArray × Bool) = S315 x := fun h => by
      rw [← h1, splitL_none hne h]; rfl
    by_cases hk : (tw rest.data.toList).length < rest.data.toList.length
    · rw [if_pos hk] at hi
      generalize hkk : (tw rest.data.toList).length = k at hi hk
      have hw : IntKind.i64.wrap ((k : Int) + ((nat_lit 1 : Nat) : Int)) = ((k + 1 : Nat) : Int) := by
        rw [show ((nat_lit 1 : Nat) : Int) = 1 from rfl, wrap64 (by omega)]; omega
      simp only [hi, hw, Int.toNat_natCast]
      obtain ⟨r1, r2⟩ := round15 (l := rest.data.toList) (k := k) (sz := rest.extract 0 k) (bh := rest.extract (k + 1) rest.size) (by omega) hkk hk (by rw [ext0, ← hkk]; exact (tw_take _).symm) (extE _ _)
      have hbs : (rest.extract (k + 1) rest.size).size + (k + 1) = rest.size := by
        rw [Lib.size_eq, extE, List.length_drop]; omega
      refine bif_of (fun _ => ⟨⟨Int.le_refl _, by omega, by omega⟩, ⟨by omega, by omega, Int.le_refl _⟩, ?_, bif_of (fun hc => nn (r1 hc)) (fun hc => ?_)⟩) (fun hn => absurd (decide_eq_false_iff_not.1 hn) (by omega))
      · show (rest.extract 0 k).size ≤ 281474976710656
        rw [Lib.size_eq, ext0, List.length_take]; omega
      · obtain ⟨⟨b0, b1⟩, c1, c2⟩ := r2 hc
        refine ⟨⟨by omega, by omega⟩, bif_of (fun hd => nn (c1 hd)) (fun hd => ?_)⟩
        have hs := c2 hd
        refine ⟨⟨Int.le_refl _, b0, b1⟩, ⟨trivial, ?_⟩, ?_⟩
        · show (out.length + 1) * 16 ≤ 140737488355328
          omega
        · intro y hy
          have hy : y = out ++ [(rest.extract (k + 1) rest.size).extract 0 (S337 (rest.extract 0 k)).1.toNat] := hy
          have hf := finS_some (out := out) hs
          rw [bs_data, h1, ← hy] at hf
          refine ⟨⟨b0, b1, Int.le_refl _⟩, trivial, hJ _ ⟨hf.symm, ?_⟩ ?_⟩
          · show y.length + (ByteArray.extract _ _ _).size ≤ x.size
            have e1 : y.length = out.length + 1 := by rw [hy]; simp
            have e2 : ((rest.extract (k + 1) rest.size).extract (S337 (rest.extract 0 k)).1.toNat (rest.extract (k + 1) rest.size).size).size ≤ (rest.extract (k + 1) rest.size).size := by
              rw [Lib.size_eq, extE, List.length_drop, ← Lib.size_eq]; omega
            exact Nat.le_trans (Nat.add_le_add (Nat.le_of_eq e1) e2) (by omega)
          · show (ByteArray.extract _ _ _).size < rest.size
            have e2 : ((rest.extract (k + 1) rest.size).extract (S337 (rest.extract 0 k)).1.toNat (rest.extract (k + 1) rest.size).size).size ≤ (rest.extract (k + 1) rest.size).size := by
              rw [Lib.size_eq, extE, List.length_drop, ← Lib.size_eq]; omega
            exact Nat.lt_of_le_of_lt e2 (by omega)
    · rw [if_neg hk] at hi
      simp only [hi]
      refine bif_of (fun hn => absurd (of_decide_eq_true hn) (by omega)) (fun _ => ⟨by show rest.size ≤ 281474976710656; omega, nn ?_⟩)
      rw [split1_is, if_neg (fun h => hk h.1)]
  · have he : rest.data.toList = [] := by
      rw [Lib.toList_data, Lib.toList_data] at he
      simpa using he
    rw [he, splitL_nil] at h1
    show (out, true) = _
    rw [← h1]; simp [finS]
theorem ok315 : Ok315 := con_ok (C := C315) (kok_cons ok333 (kok_cons ok337 (kok_cons ok365 kok_nil))) mx7 (by kernel_rfl) run315
end Go.Rx
namespace Go.Rx
open Go.Ab Go.L21
set_option maxRecDepth 100000
set_option maxHeartbeats 20000000
set_option linter.unusedVariables false
/-- interregnum/interregnumref11.Split -/
noncomputable def C316 : Cfg S := { P := P7, inl := [], K := [], ann := [(16, [(5, .loop [(.sl 6, .int .i64), (.sl 7, .int .i64)]), (3, .loop [(.sl 4, .own 9), (.sl 5, .int .i64)])])] }
abbrev W316 : CT S [22, 4] [9] := (fun x0 => (some (P316 x0), S316 x0))
abbrev Ok316 : Prop := ConOk P7 16 (ctr P7 [9] [22, 4] W316) ∧ ConMon (ctr P7 [9] [22, 4] W316)
theorem q316 (x0 : ByteArray) (v : HR S [22, 4]) : (Xf C316 6 (emp 0) 16 (argsA C316 [⟨9, x0⟩]) (emp 0) (fun r _ => isR C316.P [22, 4] v r) (fun _ _ => False))
 = (LOOP (fun (h : List ByteArray × Int) (J : List ByteArray × Int → Prop) => bif decide (h.snd < (↑x0.size : Int)) then LOOP (fun (h_1 : Int × Int) (J_1 : Int
 × Int → Prop) => (decide (h_1.snd < (↑x0.size : Int)) = true → (0 : Int) ≤ h_1.snd ∧ h_1.snd < (↑x0.size : Int)) ∧ ((decide (h_1.snd < (↑x0.size : Int)) &&
 decide ((48 : Int) ≤ (↑(x0.data.toList.getD h_1.snd.toNat (0 : UInt8)).toNat : Int))) = true → (0 : Int) ≤ h_1.snd ∧ h_1.snd < (↑x0.size : Int)) ∧ bif decide
 (h_1.snd < (↑x0.size : Int)) && decide ((48 : Int) ≤ (↑(x0.data.toList.getD h_1.snd.toNat (0 : UInt8)).toNat : Int)) && decide ((↑(x0.data.toList.getD
 h_1.snd.toNat (0 : UInt8)).toNat : Int) ≤ (57 : Int)) && decide (h_1.fst < (1099511627776 : Int)) then ((0 : Int) ≤ h_1.snd ∧ h_1.snd < (↑x0.size : Int)) ∧
 J_1 (IntKind.i64.wrap (IntKind.i64.wrap (h_1.fst * (10 : Int)) + IntKind.i64.wrap (IntKind.u8.wrap ((↑(x0.data.toList.getD h_1.snd.toNat (0 : UInt8)).toNat :
 Int) - (48 : Int)))), IntKind.i64.wrap (h_1.snd + (1 : Int))) else ((decide (h_1.snd = h.snd) || decide ((↑x0.size : Int) ≤ h_1.snd)) = false → (0 : Int) ≤
 h_1.snd ∧ h_1.snd < (↑x0.size : Int)) ∧ ((decide (h_1.snd = h.snd) || decide ((↑x0.size : Int) ≤ h_1.snd) || !decide ((↑(x0.data.toList.getD h_1.snd.toNat (0
 : UInt8)).toNat : Int) = (58 : Int))) = false → decide ((1 : Int) < IntKind.i64.wrap (h_1.snd - h.snd)) = true → (0 : Int) ≤ h.snd ∧ h.snd < (↑x0.size : Int))
 ∧ bif decide (h_1.snd = h.snd) || decide ((↑x0.size : Int) ≤ h_1.snd) || !decide ((↑(x0.data.toList.getD h_1.snd.toNat (0 : UInt8)).toNat : Int) = (58 : Int))
 || decide ((1 : Int) < IntKind.i64.wrap (h_1.snd - h.snd)) && decide ((↑(x0.data.toList.getD h.snd.toNat (0 : UInt8)).toNat : Int) = (48 : Int)) || decide
 (IntKind.i64.wrap (IntKind.i64.wrap ((↑x0.size : Int) - h_1.snd) - (1 : Int)) < h_1.fst) then ([], false) = v else ((0 : Int) ≤ IntKind.i64.wrap (h_1.snd + (1
 : Int)) ∧ IntKind.i64.wrap (h_1.snd + (1 : Int)) ≤ IntKind.i64.wrap (IntKind.i64.wrap (h_1.snd + (1 : Int)) + h_1.fst) ∧ IntKind.i64.wrap (IntKind.i64.wrap
 (h_1.snd + (1 : Int)) + h_1.fst) ≤ (↑x0.size : Int)) ∧ (h.fst.length = h.fst.length ∧ (h.fst.length + [x0.extract (IntKind.i64.wrap (h_1.snd + (1 :
 Int))).toNat (IntKind.i64.wrap (IntKind.i64.wrap (h_1.snd + (1 : Int)) + h_1.fst)).toNat].length) * nat_lit 16 ≤ nat_lit 140737488355328) ∧ ∀ (y : List
 (ByteArray)), y = h.fst ++ [x0.extract (IntKind.i64.wrap (h_1.snd + (1 : Int))).toNat (IntKind.i64.wrap (IntKind.i64.wrap (h_1.snd + (1 : Int)) +
 h_1.fst)).toNat] → y.length = y.length ∧ J (y, IntKind.i64.wrap (IntKind.i64.wrap (h_1.snd + (1 : Int)) + h_1.fst))) ((0 : Int), h.snd) else (h.fst, true) =
 v) ([], (0 : Int))) := by kernel_rfl
end Go.Rx
/-! ref11.Split. -/
namespace Go.Rx
open Go.Ab Go.L21
set_option linter.unusedVariables false
set_option maxRecDepth 100000
theorem valF_snoc (l : List UInt8) (c : UInt8) (a : Nat) : valF a (l ++ [c]) = valF a l * 10 + (c.toNat - 48) := by
  unfold valF; rw [List.foldl_append]; rfl
theorem valF_mono (l r : List UInt8) (a : Nat) : valF a l ≤ valF a (l ++ r) := by
  unfold valF; rw [List.foldl_append]; exact valF_ge r _
theorem head_dec (u : Nat) (h : 1 ≤ u) : ((Lib.decDigits u).getD 0 0).toNat ≠ 48 := by
  induction u using Nat.strongRecOn with
  | _ u ih =>
    rw [Lib.decDigits]
    split
    · show (UInt8.ofNat (48 + u)).toNat ≠ 48
      rw [toNat_dig (by omega)]; omega
    · have := ih (u / 10) (by omega) (by omega)
      have hn := dec_ne (u / 10)
      revert this hn
      generalize Lib.decDigits (u / 10) = l
      intro h1 h2
      cases l with
      | nil => exact absurd rfl h2
      | cons c r => exact h1
theorem len_dec {u : Nat} (h : 1 < (Lib.decDigits u).length) : 1 ≤ u := by
  rcases Nat.eq_zero_or_pos u with rfl | h1
  · rw [Lib.decDigits] at h; simp at h
  · exact h1
theorem snoc_ind {p : List UInt8 → Prop} (h0 : p []) (h1 : ∀ l c, p l → p (l ++ [c])) (l : List UInt8) : p l := by
  have : ∀ n (l : List UInt8), l.length = n → p l := by
    intro n
    induction n with
    | zero => intro l hl; rw [List.length_eq_zero_iff.1 hl]; exact h0
    | succ n ih =>
      intro l hl
      have hne : l ≠ [] := fun e => by rw [e] at hl; cases hl
      rw [← List.dropLast_concat_getLast hne]
      exact h1 _ _ (ih _ (by rw [List.length_dropLast]; omega))
  exact this _ l rfl
theorem valF_pos {c : UInt8} {r : List UInt8} (h : 48 < c.toNat) : 1 ≤ valF 0 (c :: r) :=
  Nat.le_trans (by show 1 ≤ 0 * 10 + (c.toNat - 48); omega) (valF_ge r (0 * 10 + (c.toNat - 48)))
theorem canon16 : ∀ l : List UInt8, Digs l → l ≠ [] → (1 < l.length → (l.getD 0 0).toNat ≠ 48) → Lib.decDigits (valF 0 l) = l := by
  refine snoc_ind (fun _ h _ => absurd rfl h) ?_
  intro l c ih hd _ hz
  have hc := hd c (by simp)
  have hl : Digs l := fun x hx => hd x (List.mem_append_left _ hx)
  have ec : UInt8.ofNat (48 + (c.toNat - 48)) = c := by
    rw [show 48 + (c.toNat - 48) = c.toNat by omega]; simp
  rw [valF_snoc]
  match l, ih, hl, hz with
  | [], _, _, _ =>
    show Lib.decDigits (0 * 10 + (c.toNat - 48)) = [c]
    rw [Lib.decDigits, dif_pos (by omega), show 0 * 10 + (c.toNat - 48) = c.toNat - 48 by omega, ec]
  | b :: r, ih, hl, hz =>
    have hb := hl b List.mem_cons_self
    have hb48 : b.toNat ≠ 48 := hz (by simp)
    have hp : 1 ≤ valF 0 (b :: r) := valF_pos (by omega)
    have hi := ih hl (by simp) (fun _ => hb48)
    rw [Lib.decDigits, dif_neg (by omega), show (valF 0 (b :: r) * 10 + (c.toNat - 48)) / 10 = valF 0 (b :: r) by omega, show (valF 0 (b :: r) * 10 + (c.toNat - 48)) % 10 = c.toNat - 48 by omega, hi, ec]
/-- How many digits are read, and what ends them. -/
theorem stop16 {l : List UInt8} {j a : Nat} (hl : l.length ≤ 1099511627776) (hj : j ≤ l.length) (hd : Digs (l.take j)) (ha : valF 0 (l.take j) = a)
    (hx : ¬ (j < l.length ∧ 48 ≤ (l.getD j 0).toNat ∧ (l.getD j 0).toNat ≤ 57 ∧ a < 1099511627776)) {p : List UInt8 × List UInt8} (hp : split1 l = some p) :
    j ≠ 0 ∧ j < l.length ∧ (l.getD j 0).toNat = 58 ∧ (1 < j → (l.getD 0 0).toNat ≠ 48) ∧ a ≤ l.length - j - 1 := by
  rw [split1_is] at hp
  split at hp
  · rename_i h
    obtain ⟨h1, h2, h3⟩ := h
    clear hp
    generalize hv : valL (tw l) = v at *
    have hvl : v < 1099511627776 := by rw [List.length_drop] at h3; omega
    have htd : Digs (tw l) := by rw [h2]; exact digs_dec v
    have ht := tw_take l
    have h58 : l.getD (tw l).length 0 = 58 := by
      have : ∀ l : List UInt8, (tw l).length < l.length → l.getD (tw l).length 0 = 58 := by
        intro l
        induction l with
        | nil => intro h; cases h
        | cons c r ih =>
          unfold tw at *
          rw [List.takeWhile_cons]
          split
          · intro h
            exact ih (by simpa using h)
          · rename_i hc
            intro _
            simpa using hc
      exact this l h1
    have hjt : j ≤ (tw l).length := by
      apply Classical.byContradiction
      intro hn
      have hm : l.getD (tw l).length 0 ∈ l.take j := by
        rw [List.getD_eq_getElem?_getD, List.getElem?_eq_getElem h1, Option.getD_some]
        exact List.mem_take_iff_getElem.2 ⟨(tw l).length, by omega, rfl⟩
      have := hd _ hm
      rw [h58] at this
      exact absurd this (by decide)
    have hpre : l.take (tw l).length = l.take j ++ (l.drop j).take ((tw l).length - j) := by
      rw [← List.take_add, show j + ((tw l).length - j) = (tw l).length by omega]
    have hval : valF 0 (tw l) = v := by rw [h2]; exact val_dec v
    have hav : a ≤ v := by
      rw [← ha, ← hval]
      conv => rhs; rw [ht, hpre]
      exact valF_mono _ _ _
    have hje : j = (tw l).length := by
      apply Classical.byContradiction
      intro hn
      have hm : l.getD j 0 ∈ tw l := by
        rw [ht, List.getD_eq_getElem?_getD, List.getElem?_eq_getElem (by omega), Option.getD_some]
        exact List.mem_take_iff_getElem.2 ⟨j, by omega, rfl⟩
      have := htd _ hm
      exact hx ⟨by omega, this.1, this.2, by omega⟩
    have hne : (tw l).length ≠ 0 := by
      rw [h2]; exact fun e => dec_ne v (List.length_eq_zero_iff.1 e)
    refine ⟨by omega, by omega, by rw [hje, h58]; rfl, fun h1j => ?_, ?_⟩
    · have hh : (tw l).getD 0 0 = l.getD 0 0 := by
        rw [ht, List.getD_eq_getElem?_getD, List.getD_eq_getElem?_getD, List.getElem?_take, if_pos (by omega)]
      rw [← hh, h2]
      exact head_dec v (len_dec (by rw [← h2]; omega))
    · rw [List.length_drop] at h3; omega
  · cases hp
theorem go16 {l : List UInt8} {j a : Nat} (hj : j ≠ 0) (hjl : j < l.length) (hd : Digs (l.take j)) (ha : valF 0 (l.take j) = a) (h58 : (l.getD j 0).toNat = 58) (hz : 1 < j → (l.getD 0 0).toNat ≠ 48) (hn : a ≤ l.length - j - 1) :
    split1 l = some ((l.drop (j + 1)).take a, (l.drop (j + 1)).drop a) := by
  have hlj : (l.take j).length = j := by rw [List.length_take]; omega
  have ec : l.getD j 0 = 58 := by
    apply UInt8.toNat_inj.1; rw [h58]; rfl
  have hsp : l = l.take j ++ 58 :: l.drop (j + 1) := by
    conv => lhs; rw [← List.take_append_drop j l, List.drop_eq_getElem_cons hjl]
    rw [List.getD_eq_getElem?_getD, List.getElem?_eq_getElem hjl, Option.getD_some] at ec
    rw [ec]
  have htw : tw l = l.take j := by
    conv => lhs; rw [hsp]
    exact take58 (digs58 hd)
  have hcan : Lib.decDigits a = l.take j := by
    rw [← ha]
    refine canon16 _ hd (fun e => by rw [e] at hlj; exact hj hlj.symm) fun h => ?_
    rw [hlj] at h
    have := hz h
    rwa [List.getD_eq_getElem?_getD, List.getElem?_take, if_pos (by omega), ← List.getD_eq_getElem?_getD]
  have hva : valL (tw l) = a := by rw [htw]; exact ha
  rw [split1_is, if_pos ⟨by rw [htw, hlj]; exact hjl, by rw [hva, hcan, htw], by rw [hva, htw, hlj, List.length_drop]; omega⟩, hva, htw, hlj]
theorem drop_getD (l : List UInt8) (i j : Nat) : (l.drop i).getD j 0 = l.getD (i + j) 0 := by
  rw [List.getD_eq_getElem?_getD, List.getD_eq_getElem?_getD, List.getElem?_drop]
theorem wrap8 (n : Int) : IntKind.u8.wrap n = n % 256 := rfl
theorem run316 : RunC C316 6 16 [22, 4] [9] W316 [] := by
  intro (x : ByteArray) hx hp
  have hp : x.size ≤ 1099511627776 := hp _ rfl
  have hL : x.data.toList.length = x.size := (Lib.size_eq x).symm
  refine of_eq (q316 x _) ?_
  refine LOOP.of (fun y => ∃ i : Nat, y.2 = (i : Int) ∧ i ≤ x.size ∧ finS y.1 (splitL (x.data.toList.drop i)) = S316 x ∧ y.1.length ≤ i) (fun y => x.size - y.2.toNat) ⟨0, rfl, by omega, finS_nil _ x rfl, Nat.le_refl _⟩ ?_
  rintro ⟨out, ii⟩ ⟨i, e, hi, h1, h2⟩ J hJ
  have e : ii = (i : Int) := e
  subst e
  have h1 : finS out (splitL (x.data.toList.drop i)) = S316 x := h1
  have h2 : out.length ≤ i := h2
  dsimp only
  refine bif_of (fun hlt => ?_) (fun he => ?_)
  · have hlt : i < x.size := by have := of_decide_eq_true hlt; omega
    have hll : (x.data.toList.drop i).length = x.size - i := by rw [List.length_drop, hL]
    have hne : x.data.toList.drop i ≠ [] := fun e => by rw [e] at hll; simp at hll; omega
    have nn : split1 (x.data.toList.drop i) = none → (([], false) : List ByteArray × Bool) = S316 x := fun h => by
      rw [← h1, splitL_none hne h]; rfl
    refine LOOP.of (fun y => ∃ a j : Nat, y = ((a : Int), ((i + j : Nat) : Int)) ∧ i + j ≤ x.size ∧ Digs ((x.data.toList.drop i).take j) ∧ valF 0 ((x.data.toList.drop i).take j) = a ∧ a < 17592186044416) (fun y => x.size - y.2.toNat) ⟨0, 0, rfl, by omega, (fun c hc => by cases hc), rfl, by omega⟩ ?_
    rintro _ ⟨a, j, rfl, hj, hd, ha, hal⟩ J1 hJ1
    dsimp only
    simp only [Int.toNat_natCast]
    have ej : x.data.toList.getD (i + j) 0 = (x.data.toList.drop i).getD j 0 := (drop_getD _ _ _).symm
    have e0 : x.data.toList.getD i 0 = (x.data.toList.drop i).getD 0 0 := by rw [drop_getD, Nat.add_zero]
    have ws : IntKind.i64.wrap (((i + j : Nat) : Int) - (i : Int)) = (j : Int) := by rw [wrap64 (by omega)]; omega
    have wl : IntKind.i64.wrap (IntKind.i64.wrap ((x.size : Int) - ((i + j : Nat) : Int)) - 1) = (x.size : Int) - (i + j : Nat) - 1 := by
      rw [wrap64 (n := (x.size : Int) - ((i + j : Nat) : Int)) (by omega), wrap64 (by omega)]
    have wk : IntKind.i64.wrap (((i + j : Nat) : Int) + 1) = ((i + j + 1 : Nat) : Int) := by rw [wrap64 (by omega)]; omega
    have wa : IntKind.i64.wrap (((i + j + 1 : Nat) : Int) + (a : Int)) = ((i + j + 1 + a : Nat) : Int) := by rw [wrap64 (by omega)]; omega
    simp only [ej, e0, ws, wl, wk, wa]
    generalize hl : x.data.toList.drop i = l at *
    have g1 : ∀ {p : Prop}, decide (((i + j : Nat) : Int) < (x.size : Int)) = true → 0 ≤ ((i + j : Nat) : Int) ∧ ((i + j : Nat) : Int) < (x.size : Int) := fun h => ⟨by omega, of_decide_eq_true h⟩
    refine ⟨fun h => ⟨by omega, of_decide_eq_true h⟩, fun h => ⟨by omega, of_decide_eq_true (Bool.and_eq_true _ _ ▸ h).1⟩, bif_of (fun hc => ?_) (fun hc => ?_)⟩
    · simp only [Bool.and_eq_true, decide_eq_true_eq] at hc
      obtain ⟨⟨⟨c1, c2⟩, c3⟩, c4⟩ := hc
      have hjl : j < l.length := by omega
      refine ⟨⟨by omega, c1⟩, hJ1 _ ⟨a * 10 + ((l.getD j 0).toNat - 48), j + 1, ?_, by omega, ?_, ?_, by omega⟩ ?_⟩
      · refine Prod.ext ?_ rfl
        show IntKind.i64.wrap (IntKind.i64.wrap ((a : Int) * 10) + IntKind.i64.wrap (IntKind.u8.wrap (((l.getD j 0).toNat : Int) - 48))) = _
        rw [wrap8, wrap64 (n := (a : Int) * 10) (by omega), wrap64 (n := (((l.getD j 0).toNat : Int) - 48) % 256) (by omega), wrap64 (by omega)]
        omega
      · intro c hc
        rw [List.take_add_one, List.mem_append] at hc
        rcases hc with hc | hc
        · exact hd c hc
        · rw [List.getElem?_eq_getElem hjl] at hc
          have hc := List.mem_singleton.1 hc
          rw [List.getD_eq_getElem?_getD, List.getElem?_eq_getElem hjl, Option.getD_some] at c2 c3
          rw [hc]; omega
      · rw [List.take_add_one, List.getElem?_eq_getElem hjl]
        show valF 0 (l.take j ++ [l[j]]) = _
        rw [valF_snoc, ha, List.getD_eq_getElem?_getD, List.getElem?_eq_getElem hjl, Option.getD_some]
      · show x.size - ((i + j + 1 : Nat) : Int).toNat < x.size - ((i + j : Nat) : Int).toNat
        omega
    · have hx : ¬ (j < l.length ∧ 48 ≤ (l.getD j 0).toNat ∧ (l.getD j 0).toNat ≤ 57 ∧ a < 1099511627776) := by
        rintro ⟨d1, d2, d3, d4⟩
        have hc2 : (decide (((i + j : Nat) : Int) < (x.size : Int)) && decide ((48 : Int) ≤ ((l.getD j 0).toNat : Int)) && decide (((l.getD j 0).toNat : Int) ≤ 57) && decide ((a : Int) < 1099511627776)) = true := by
          simp only [Bool.and_eq_true, decide_eq_true_eq]; omega
        rw [hc2] at hc; cases hc
      refine ⟨fun h => ?_, fun h h' => ⟨by omega, by omega⟩, bif_of (fun hb => ?_) (fun hb => ?_)⟩
      · simp only [Bool.or_eq_false_iff, decide_eq_false_iff_not] at h
        omega
      · refine nn ?_
        cases hp1 : split1 l with
        | none => rfl
        | some p =>
          obtain ⟨s1, s2, s3, s4, s5⟩ := stop16 (by omega) (by omega) hd ha hx hp1
          simp only [Bool.or_eq_true, Bool.and_eq_true, Bool.not_eq_true', decide_eq_true_eq, decide_eq_false_iff_not] at hb
          omega
      · simp only [Bool.or_eq_false_iff, Bool.and_eq_false_iff, Bool.not_eq_false', decide_eq_true_eq, decide_eq_false_iff_not] at hb
        obtain ⟨⟨⟨⟨b1, b2⟩, b3⟩, b4⟩, b5⟩ := hb
        have hs := go16 (l := l) (j := j) (a := a) (by omega) (by omega) hd ha (by omega) (by omega) (by omega)
        have hex : (x.extract (i + j + 1) (i + j + 1 + a)).data.toList = (l.drop (j + 1)).take a := by
          rw [Lib.extract_data, ← hl, List.drop_drop]
          congr 1; omega
        refine ⟨⟨by omega, by omega, by omega⟩, ⟨trivial, ?_⟩, ?_⟩
        · show (out.length + 1) * 16 ≤ 140737488355328
          omega
        · intro y hy
          have hy : y = out ++ [x.extract (i + j + 1) (i + j + 1 + a)] := hy
          have hf := finS_some (out := out) hs
          rw [← hex, bs_data, h1, ← hy] at hf
          refine ⟨trivial, hJ _ ⟨i + j + 1 + a, rfl, by omega, ?_, ?_⟩ ?_⟩
          · rw [hf, ← hl, List.drop_drop, List.drop_drop]
            show finS y _ = finS y _
            congr 3; omega
          · show y.length ≤ _
            rw [hy]; simp; omega
          · show x.size - ((i + j + 1 + a : Nat) : Int).toNat < x.size - ((i : Nat) : Int).toNat
            omega
  · have he : ¬ (i : Int) < (x.size : Int) := of_decide_eq_false he
    have : x.data.toList.drop i = [] := List.drop_eq_nil_of_le (by omega)
    rw [this, splitL_nil] at h1
    show (out, true) = _
    rw [← h1]; simp [finS]
theorem ok316 : Ok316 := con_ok (C := C316) kok_nil mx7 (by kernel_rfl) run316
end Go.Rx
namespace Go.Rx
open Go.Ab Go.L21
set_option maxRecDepth 100000
set_option maxHeartbeats 20000000
set_option linter.unusedVariables false
noncomputable def C355 (k : Nat) : Cfg S := { P := P7, inl := [], K := [(55, ctr P7 [59] [9] (fun x0 => (some (DB k x0), S355 x0)))], ann := [] }
abbrev WD (k : Nat) : CT S [9] [59] := (fun x0 => (some (DB k x0), S355 x0))
abbrev OkD (k : Nat) : Prop := ConOk P7 55 (ctr P7 [59] [9] (WD k)) ∧ ConMon (ctr P7 [59] [9] (WD k))
theorem q355 (k : Nat) (x0 : Int) (v : HR S [9]) : (Xf (C355 k) 6 (emp 0) 55 (argsA (C355 k) [⟨59, x0⟩]) (emp 0) (fun r _ => isR (C355 k).P [9] v r) (fun _ _
 => False)) = (bif decide (x0 < (10 : Int)) then bsOf (List.map (fun (x : Int) => x) [IntKind.u8.wrap ((48 : Int) + IntKind.u8.wrap x0)]) = v else DB k
 (IntKind.u64.wrap (x0.tdiv (10 : Int))) ∧ (S355 (IntKind.u64.wrap (x0.tdiv (10 : Int)))).size + (bsOf (List.map (fun (x : Int) => x) [IntKind.u8.wrap ((48 :
 Int) + IntKind.u8.wrap (x0.tmod (10 : Int)))])).size ≤ nat_lit 9223372036854775807 ∧ S355 (IntKind.u64.wrap (x0.tdiv (10 : Int))) ++ bsOf (List.map (fun (x :
 Int) => x) [IntKind.u8.wrap ((48 : Int) + IntKind.u8.wrap (x0.tmod (10 : Int)))]) = v) := by kernel_rfl
end Go.Rx
namespace Go.Rx
open Go.Ab Go.L21
set_option maxRecDepth 100000
set_option maxHeartbeats 20000000
set_option linter.unusedVariables false
/-- interregnum/interregnumref11.Dec -/
noncomputable def C338 : Cfg S := { P := P7, inl := [], K := [(55, ctr P7 [59] [9] (fun x0 => (some (P355 x0), S355 x0)))], ann := [] }
abbrev W338 : CT S [9] [3] := (fun x0 => (some (P338 x0), S338 x0))
abbrev Ok338 : Prop := ConOk P7 38 (ctr P7 [3] [9] W338) ∧ ConMon (ctr P7 [3] [9] W338)
theorem q338 (x0 : Int) (v : HR S [9]) : (Xf C338 6 (emp 0) 38 (argsA C338 [⟨3, x0⟩]) (emp 0) (fun r _ => isR C338.P [9] v r) (fun _ _ => False)) = (bif decide
 (x0 < (0 : Int)) then DB (nat_lit 20) (IntKind.u64.wrap (IntKind.u64.wrap (IntKind.i64.wrap ((0 : Int) - IntKind.i64.wrap (x0 + (1 : Int)))) + (1 : Int))) ∧
 nat_lit 1 + (S355 (IntKind.u64.wrap (IntKind.u64.wrap (IntKind.i64.wrap ((0 : Int) - IntKind.i64.wrap (x0 + (1 : Int)))) + (1 : Int)))).size ≤ nat_lit
 9223372036854775807 ∧ ByteArray.mk #[(45 : UInt8)] ++ S355 (IntKind.u64.wrap (IntKind.u64.wrap (IntKind.i64.wrap ((0 : Int) - IntKind.i64.wrap (x0 + (1 :
 Int)))) + (1 : Int))) = v else DB (nat_lit 20) (IntKind.u64.wrap x0) ∧ S355 (IntKind.u64.wrap x0) = v) := by kernel_rfl
end Go.Rx
namespace Go.Rx
open Go.Ab Go.L21
set_option maxRecDepth 100000
set_option maxHeartbeats 20000000
set_option linter.unusedVariables false
/-- interregnum/interregnumref11.Texts -/
noncomputable def C317 : Cfg S := { P := P7, inl := [], K := [(38, ctr P7 [3] [9] (fun x0 => (some (P338 x0), S338 x0)))], ann := [(17, [(3, .loop [(.sl 3, .str), (.sl 4, .int .i64)])])] }
abbrev W317 : CT S [9] [22] := (fun x0 => (some (P317 x0), S317 x0))
abbrev Ok317 : Prop := ConOk P7 17 (ctr P7 [22] [9] W317) ∧ ConMon (ctr P7 [22] [9] W317)
theorem q317 (x0 : List ByteArray) (v : HR S [9]) : (Xf C317 6 (emp 0) 17 (argsA C317 [⟨22, x0⟩]) (emp 0) (fun r _ => isR C317.P [9] v r) (fun _ _ => False)) =
 (LOOP (fun (h : ByteArray × Int) (J : ByteArray × Int → Prop) => bif decide (h.snd < (↑x0.length : Int)) then ((0 : Int) ≤ h.snd ∧ h.snd < (↑x0.length : Int))
 ∧ ((0 : Int) ≤ h.snd ∧ h.snd < (↑x0.length : Int)) ∧ ((-9223372036854775808 : Int) ≤ (↑(ix x0 h.snd).size : Int) ∧ (↑(ix x0 h.snd).size : Int) ≤
 (9223372036854775807 : Int)) ∧ h.fst.size + (S338 (↑(ix x0 h.snd).size : Int)).size ≤ nat_lit 9223372036854775807 ∧ (h.fst ++ S338 (↑(ix x0 h.snd).size :
 Int)).size + nat_lit 1 ≤ nat_lit 9223372036854775807 ∧ (h.fst ++ S338 (↑(ix x0 h.snd).size : Int) ++ ByteArray.mk #[(58 : UInt8)]).size + (ix x0 h.snd).size ≤
 nat_lit 9223372036854775807 ∧ J (h.fst ++ S338 (↑(ix x0 h.snd).size : Int) ++ ByteArray.mk #[(58 : UInt8)] ++ ix x0 h.snd, IntKind.i64.wrap (h.snd + (1 :
 Int))) else h.fst = v) (ByteArray.mk #[], (0 : Int))) := by kernel_rfl
end Go.Rx
namespace Go.Rx
open Go.Ab Go.L21
set_option maxRecDepth 100000
set_option maxHeartbeats 20000000
set_option linter.unusedVariables false
/-- interregnum/interregnumlaw21.few -/
noncomputable def C312 : Cfg S := { P := P7, inl := [], K := [], ann := [(12, [(3, .loop [(.sl 3, .int .i64), (.sl 4, .int .i64)])])] }
abbrev W312 : CT S [4] [22] := (fun x0 => (some (P312 x0), S312 x0))
abbrev Ok312 : Prop := ConOk P7 12 (ctr P7 [22] [4] W312) ∧ ConMon (ctr P7 [22] [4] W312)
theorem q312 (x0 : List ByteArray) (v : HR S [4]) : (Xf C312 6 (emp 0) 12 (argsA C312 [⟨22, x0⟩]) (emp 0) (fun r _ => isR C312.P [4] v r) (fun _ _ => False)) =
 (LOOP (fun (h : Int × Int) (J : Int × Int → Prop) => bif decide (h.snd < (↑x0.length : Int)) && decide (h.fst < (10000 : Int)) then ((0 : Int) ≤ h.snd ∧ h.snd
 < (↑x0.length : Int)) ∧ J (IntKind.i64.wrap (h.fst + (↑(ix x0 h.snd).size : Int)), IntKind.i64.wrap (h.snd + (1 : Int))) else decide (h.fst < (10000 : Int)) =
 v) ((↑x0.length : Int), (0 : Int))) := by kernel_rfl
end Go.Rx
namespace Go.Rx
open Go.Ab Go.L21
set_option maxRecDepth 100000
set_option maxHeartbeats 20000000
set_option linter.unusedVariables false
/-- interregnum/interregnumlaw21.same -/
noncomputable def C318 : Cfg S := { P := P7, inl := [], K := [], ann := [(18, [(4, .loop [(.sl 5, .int .i64)])])] }
abbrev W318 : CT S [4] [22, 22] := (fun x0 x1 => (some (P318 x0 x1), S318 x0 x1))
abbrev Ok318 : Prop := ConOk P7 18 (ctr P7 [22, 22] [4] W318) ∧ ConMon (ctr P7 [22, 22] [4] W318)
theorem q318 (x0 : List ByteArray) (x1 : List ByteArray) (v : HR S [4]) : (Xf C318 6 (emp 0) 18 (argsA C318 [⟨22, x0⟩, ⟨22, x1⟩]) (emp 0) (fun r _ => isR
 C318.P [4] v r) (fun _ _ => False)) = (bif !decide ((↑x0.length : Int) = (↑x1.length : Int)) then false = v else LOOP (fun (h : Int) (J : Int → Prop) => bif
 decide (h < (↑x0.length : Int)) then ((0 : Int) ≤ h ∧ h < (↑x0.length : Int)) ∧ ((0 : Int) ≤ h ∧ h < (↑x1.length : Int)) ∧ bif !(ix x0 h).toList == (ix x1
 h).toList then false = v else J (IntKind.i64.wrap (h + (1 : Int))) else true = v) (0 : Int)) := by kernel_rfl
end Go.Rx
namespace Go.Rx
open Go.Ab Go.L21
set_option maxRecDepth 100000
set_option maxHeartbeats 20000000
set_option linter.unusedVariables false
/-- interregnum/row.addr -/
noncomputable def C339 : Cfg S := { P := P7, inl := [], K := [(56, ctr P7 [59, 3] [9] (fun x0 x1 => (some (P356 x0 x1), S356 x0 x1)))], ann := [] }
abbrev W339 : CT S [9] [31] := (fun x0 => (some (P339 x0), S339 x0))
abbrev Ok339 : Prop := ConOk P7 39 (ctr P7 [31] [9] W339) ∧ ConMon (ctr P7 [31] [9] W339)
theorem q339 (x0 : Int) (v : HR S [9]) : (Xf C339 6 (emp 0) 39 (argsA C339 [⟨31, x0⟩]) (emp 0) (fun r _ => isR C339.P [9] v r) (fun _ _ => False)) = (((10 :
 Int) = (10 : Int) ∧ (0 : Int) ≤ IntKind.u64.wrap x0 ∧ IntKind.u64.wrap x0 < (18446744073709551616 : Int)) ∧ S356 (IntKind.u64.wrap x0) (10 : Int) = v) := by
 kernel_rfl
end Go.Rx
namespace Go.Rx
open Go.Ab Go.L21
set_option maxRecDepth 100000
set_option maxHeartbeats 20000000
set_option linter.unusedVariables false
/-- interregnum/row.num -/
noncomputable def C340 : Cfg S := { P := P7, inl := [], K := [(33, ctr P7 [3] [9] (fun x0 => (some (P333 x0), S333 x0)))], ann := [] }
abbrev W340 : CT S [9] [3] := (fun x0 => (some (P340 x0), S340 x0))
abbrev Ok340 : Prop := ConOk P7 40 (ctr P7 [3] [9] W340) ∧ ConMon (ctr P7 [3] [9] W340)
theorem q340 (x0 : Int) (v : HR S [9]) : (Xf C340 6 (emp 0) 40 (argsA C340 [⟨3, x0⟩]) (emp 0) (fun r _ => isR C340.P [9] v r) (fun _ _ => False)) =
 (((-9223372036854775808 : Int) ≤ x0 ∧ x0 ≤ (9223372036854775807 : Int)) ∧ S333 x0 = v) := by kernel_rfl
end Go.Rx
namespace Go.Rx
open Go.Ab Go.L21
set_option maxRecDepth 100000
set_option maxHeartbeats 20000000
set_option linter.unusedVariables false
/-- interregnum/row.Hop -/
noncomputable def C319 : Cfg S := { P := P7, inl := [], K := [(14, ctr P7 [22] [9] (fun x0 => (some (P314 x0), S314 x0))), (39, ctr P7 [31] [9] (fun x0 => (some (P339 x0), S339 x0))), (40, ctr P7 [3] [9] (fun x0 => (some (P340 x0), S340 x0)))], ann := [] }
abbrev W319 : CT S [9] [35] := (fun x0 => (some (P319 x0), S319 x0))
abbrev Ok319 : Prop := ConOk P7 19 (ctr P7 [35] [9] W319) ∧ ConMon (ctr P7 [35] [9] W319)
theorem q319 (x0 : api_Hop) (v : HR S [9]) : (Xf C319 6 (emp 0) 19 (argsA C319 [⟨35, x0⟩]) (emp 0) (fun r _ => isR C319.P [9] v r) (fun _ _ => False)) = (((0 :
 Int) ≤ x0.fPrefix.fAddr ∧ x0.fPrefix.fAddr ≤ (4294967295 : Int)) ∧ ((-9223372036854775808 : Int) ≤ x0.fPrefix.fLen ∧ x0.fPrefix.fLen ≤ (9223372036854775807 :
 Int)) ∧ ((0 : Int) ≤ x0.fNext ∧ x0.fNext ≤ (4294967295 : Int)) ∧ ((-9223372036854775808 : Int) ≤ x0.fPeer ∧ x0.fPeer ≤ (9223372036854775807 : Int)) ∧
 ((-9223372036854775808 : Int) ≤ x0.fStale ∧ x0.fStale ≤ (9223372036854775807 : Int)) ∧ (textsL [S339 x0.fPrefix.fAddr, S340 x0.fPrefix.fLen, S339 x0.fNext,
 S340 x0.fPeer, S340 x0.fStale]).length.le (nat_lit 70368744177664) ∧ S314 [S339 x0.fPrefix.fAddr, S340 x0.fPrefix.fLen, S339 x0.fNext, S340 x0.fPeer, S340
 x0.fStale] = v) := by kernel_rfl
end Go.Rx
namespace Go.Rx
open Go.Ab Go.L21
set_option maxRecDepth 100000
set_option maxHeartbeats 20000000
set_option linter.unusedVariables false
/-- interregnum/interregnumref11.Hop -/
noncomputable def C321 : Cfg S := { P := P7, inl := [], K := [(38, ctr P7 [3] [9] (fun x0 => (some (P338 x0), S338 x0))), (17, ctr P7 [22] [9] (fun x0 => (some (P317 x0), S317 x0)))], ann := [] }
abbrev W321 : CT S [9] [35] := (fun x0 => (some (P321 x0), S321 x0))
abbrev Ok321 : Prop := ConOk P7 21 (ctr P7 [35] [9] W321) ∧ ConMon (ctr P7 [35] [9] W321)
theorem q321 (x0 : api_Hop) (v : HR S [9]) : (Xf C321 6 (emp 0) 21 (argsA C321 [⟨35, x0⟩]) (emp 0) (fun r _ => isR C321.P [9] v r) (fun _ _ => False)) =
 (((-9223372036854775808 : Int) ≤ IntKind.i64.wrap x0.fPrefix.fAddr ∧ IntKind.i64.wrap x0.fPrefix.fAddr ≤ (9223372036854775807 : Int)) ∧ ((-9223372036854775808
 : Int) ≤ x0.fPrefix.fLen ∧ x0.fPrefix.fLen ≤ (9223372036854775807 : Int)) ∧ ((-9223372036854775808 : Int) ≤ IntKind.i64.wrap x0.fNext ∧ IntKind.i64.wrap
 x0.fNext ≤ (9223372036854775807 : Int)) ∧ ((-9223372036854775808 : Int) ≤ x0.fPeer ∧ x0.fPeer ≤ (9223372036854775807 : Int)) ∧ ((-9223372036854775808 : Int) ≤
 x0.fStale ∧ x0.fStale ≤ (9223372036854775807 : Int)) ∧ (textsL [S338 (IntKind.i64.wrap x0.fPrefix.fAddr), S338 x0.fPrefix.fLen, S338 (IntKind.i64.wrap
 x0.fNext), S338 x0.fPeer, S338 x0.fStale]).length.le (nat_lit 70368744177664) ∧ S317 [S338 (IntKind.i64.wrap x0.fPrefix.fAddr), S338 x0.fPrefix.fLen, S338
 (IntKind.i64.wrap x0.fNext), S338 x0.fPeer, S338 x0.fStale] = v) := by kernel_rfl
end Go.Rx
/-! Numbers of the reference; small functions. -/
namespace Go.Rx
open Go.Ab Go.L21
set_option linter.unusedVariables false
set_option maxRecDepth 100000
theorem wrapU {n : Int} (h : 0 ≤ n ∧ n < 18446744073709551616) : IntKind.u64.wrap n = n := by
  rw [IntKind.wrap_u64]; omega
theorem kk1 {P : Program} {f : Nat} {W : Con S.A} (h : ConOk P f W ∧ ConMon W) : KOk P [(f, W)] := kok_cons h kok_nil
theorem bsOf_one {d : Nat} (h : d < 10) : bsOf (List.map (fun (x : Int) => x) [IntKind.u8.wrap ((48 : Int) + IntKind.u8.wrap (d : Int))]) = bs [UInt8.ofNat (48 + d)] := by
  have e : IntKind.u8.wrap ((48 : Int) + IntKind.u8.wrap (d : Int)) = ((48 + d : Nat) : Int) := by
    rw [wrap8, wrap8]; omega
  rw [e]
  rfl
theorem dec_len {u : Nat} (h : ¬ u < 10) : (Lib.decDigits u).length = (Lib.decDigits (u / 10)).length + 1 := by
  rw [Lib.decDigits, dif_neg h]; simp
theorem bs_app (a b : List UInt8) : bs a ++ bs b = bs (a ++ b) := by
  apply ByteArray.ext
  simp [bs]
theorem okD (k : Nat) : OkD k := by
  induction k with
  | zero => exact con_okP (C := C0) (fun x hx hp => by
      obtain ⟨_, _, h⟩ : DB 0 x := hp _ rfl
      exact absurd (List.length_eq_zero_iff.1 (Nat.le_zero.1 h)) (dec_ne _))
  | succ k ih =>
    refine con_ok (C := C355 k) (n := 6) (kk1 ih) mx7 (by kernel_rfl) ?_
    intro (x : Int) hx hp
    obtain ⟨h0, h1, h2⟩ : DB (k + 1) x := hp _ rfl
    refine of_eq (q355 k x _) ?_
    obtain ⟨u, rfl⟩ : ∃ u : Nat, x = (u : Int) := ⟨x.toNat, by omega⟩
    rw [Int.toNat_natCast] at h2
    have hS : S355 (u : Int) = bs (Lib.decDigits u) := by unfold S355; rw [Int.toNat_natCast]
    refine bif_of (fun hc => ?_) (fun hc => ?_)
    · have hc : u < 10 := by have := of_decide_eq_true hc; omega
      rw [bsOf_one hc]
      show _ = S355 (u : Int)
      rw [hS, Lib.decDigits, dif_pos hc]
    · have hc : ¬ u < 10 := by have := of_decide_eq_false hc; omega
      have e1 : IntKind.u64.wrap ((u : Int).tdiv 10) = ((u / 10 : Nat) : Int) := by
        rw [show ((u : Int).tdiv 10) = ((u / 10 : Nat) : Int) from rfl, wrapU (by omega)]
      have e2 : ((u : Int).tmod 10) = ((u % 10 : Nat) : Int) := rfl
      have e3 : S355 ((u / 10 : Nat) : Int) = bs (Lib.decDigits (u / 10)) := by unfold S355; rw [Int.toNat_natCast]
      have hl := dec_len hc
      rw [e1, e2, bsOf_one (show u % 10 < 10 by omega), e3]
      refine ⟨⟨by omega, by omega, by rw [Int.toNat_natCast]; omega⟩, ?_, ?_⟩
      · rw [size_bs, size_bs]
        have : (Lib.decDigits u).length ≤ 20 := by
          have h := Lib.numDigits_eq u (by omega) (by omega)
          rw [Lib.decDigits_length]; split at h <;> omega
        show _ + 1 ≤ 9223372036854775807
        omega
      · rw [bs_app]
        show _ = S355 (u : Int)
        rw [hS]
        conv => rhs; rw [Lib.decDigits, dif_neg hc]
abbrev W355 : CT S [9] [59] := WD 20
abbrev Ok355 : Prop := OkD 20
theorem ok355 : Ok355 := okD 20
theorem db20 (u : Nat) (h : u < 18446744073709551616) : DB 20 (u : Int) := by
  refine ⟨by omega, by omega, ?_⟩
  rw [Int.toNat_natCast]
  rcases Nat.eq_zero_or_pos u with rfl | h1
  · rw [Lib.decDigits]; decide
  · have h := Lib.numDigits_eq u h1 h
    rw [Lib.decDigits_length]; split at h <;> omega
theorem len20 (u : Nat) (h : u < 18446744073709551616) : (Lib.decDigits u).length ≤ 20 := by
  obtain ⟨_, _, h⟩ := db20 u h
  rwa [Int.toNat_natCast] at h
theorem s355 (u : Nat) : S355 (u : Int) = bs (Lib.decDigits u) := by unfold S355; rw [Int.toNat_natCast]
theorem run338 : RunC C338 6 38 [9] [3] W338 [] := by
  intro (n : Int) hn hp
  obtain ⟨h0, h1⟩ : P333 n := hp _ rfl
  refine of_eq (q338 n _) (bif_of (fun hc => ?_) (fun hc => ?_))
  · have hc := of_decide_eq_true hc
    obtain ⟨u, rfl⟩ : ∃ u : Nat, n = -(u : Int) := ⟨n.natAbs, by omega⟩
    have e : IntKind.u64.wrap (IntKind.u64.wrap (IntKind.i64.wrap ((0 : Int) - IntKind.i64.wrap (-(u : Int) + 1))) + 1) = (u : Int) := by
      rw [wrap64 (n := -(u : Int) + 1) (by omega), wrap64 (by omega), wrapU (n := 0 - (-(u : Int) + 1)) (by omega), wrapU (by omega)]; omega
    rw [e, s355]
    refine ⟨db20 u (by omega), ?_, ?_⟩
    · have := len20 u (by omega)
      rw [size_bs]
      show 1 + _ ≤ 9223372036854775807
      omega
    · show bs [45] ++ _ = bs (Lib.itoa _)
      rw [bs_app, Lib.itoa_neg u (by omega)]; rfl
  · have hc := of_decide_eq_false hc
    obtain ⟨u, rfl⟩ : ∃ u : Nat, n = (u : Int) := ⟨n.toNat, by omega⟩
    rw [wrapU (by omega), s355]
    refine ⟨db20 u (by omega), ?_⟩
    show _ = bs (Lib.itoa _)
    rw [Lib.itoa_nonneg]
theorem ok338 : Ok338 := con_ok (C := C338) (kk1 ok355) mx7 (by kernel_rfl) run338
theorem ix_get {l : List ByteArray} {k : Nat} {y : ByteArray} (h : l[k]? = some y) : ix l (k : Int) = y := by
  unfold ix
  rw [Int.toNat_natCast, List.getD_eq_getElem?_getD, h]; rfl
theorem run317 : RunC C317 6 17 [9] [22] W317 [] := by
  intro (x : List ByteArray) hx hp
  have hp : (textsL x).length ≤ 70368744177664 := hp _ rfl
  have hn := Proofs.texts_num x
  refine of_eq (q317 x _) ?_
  refine LOOP.of (fun y => ∃ k : Nat, y = (bs (textsL (x.take k)), (k : Int)) ∧ k ≤ x.length) (fun y => x.length - y.2.toNat) ⟨0, rfl, by omega⟩ ?_
  rintro _ ⟨k, rfl, hk⟩ J hJ
  dsimp only
  refine bif_of (fun hc => ?_) (fun hc => ?_)
  · have hc := of_decide_eq_true hc
    have hkl : k < x.length := by omega
    have hy : x[k]? = some x[k] := List.getElem?_eq_getElem hkl
    generalize x[k] = y at hy
    have hl := Proofs.texts_le x (k + 1)
    rw [Proofs.texts_take hy, textL] at hl
    simp only [List.length_append, List.length_cons, ← Lib.size_eq] at hl
    rw [ix_get hy]
    have hS : S338 (y.size : Int) = bs (Lib.itoa y.size) := rfl
    have h1 : bs (textsL (x.take k)) ++ bs (Lib.itoa y.size) = bs (textsL (x.take k) ++ Lib.itoa y.size) := bs_app _ _
    have h2 : bs (textsL (x.take k) ++ Lib.itoa y.size) ++ ByteArray.mk #[58] = bs (textsL (x.take k) ++ Lib.itoa y.size ++ [58]) := bs_app _ [58]
    rw [hS, h1, h2]
    simp only [size_bs]
    refine ⟨⟨by omega, hc⟩, ⟨by omega, hc⟩, ⟨by omega, by omega⟩, ?_, ?_, ?_, hJ _ ⟨k + 1, Prod.ext ?_ ?_, by omega⟩ ?_⟩
    · show _ ≤ 9223372036854775807; omega
    · show _ + 1 ≤ 9223372036854775807; rw [List.length_append]; omega
    · show _ ≤ 9223372036854775807; simp only [List.length_append, List.length_singleton]; omega
    · show bs _ ++ bs y.data.toList = bs _
      rw [bs_app, Proofs.texts_take hy, textL]; simp
    · exact (wrap64 (by omega)).trans (by show (k : Int) + 1 = ((k + 1 : Nat) : Int); omega)
    · show x.length - (IntKind.i64.wrap ((k : Int) + 1)).toNat < x.length - ((k : Nat) : Int).toNat
      rw [wrap64 (by omega)]; omega
  · have hc := of_decide_eq_false hc
    have : k = x.length := by omega
    rw [this, List.take_length]
    rfl
theorem ok317 : Ok317 := con_ok (C := C317) (kk1 ok338) mx7 (by kernel_rfl) run317
theorem run339 : RunC C339 6 39 [9] [31] W339 [] := by
  intro (n : Int) hn hp
  obtain ⟨h0, h1⟩ : P339 n := hp _ rfl
  refine of_eq (q339 n _) ?_
  rw [wrapU (by omega)]
  exact ⟨⟨rfl, h0, by omega⟩, rfl⟩
theorem ok339 : Ok339 := con_ok (C := C339) (kk1 ok356) mx7 (by kernel_rfl) run339
theorem run340 : RunC C340 6 40 [9] [3] W340 [] := by
  intro (n : Int) hn hp
  have hp : P333 n := hp _ rfl
  exact of_eq (q340 n _) ⟨hp, rfl⟩
theorem ok340 : Ok340 := con_ok (C := C340) (kk1 ok333) mx7 (by kernel_rfl) run340
theorem itoa_len {n : Int} (h : P333 n) : (Lib.itoa n).length ≤ 21 := by
  by_cases hn : n < 0
  · obtain ⟨u, rfl⟩ : ∃ u : Nat, n = -(u : Int) := ⟨n.natAbs, by omega⟩
    have := h.1
    have := len20 u (by omega)
    rw [Lib.itoa_neg u (by omega), List.length_cons]; omega
  · obtain ⟨u, rfl⟩ : ∃ u : Nat, n = (u : Int) := ⟨n.toNat, by omega⟩
    have := h.2
    have := len20 u (by omega)
    rw [Lib.itoa_nonneg]; omega
theorem p333 {n : Int} (h : 0 ≤ n ∧ n ≤ 4294967295) : P333 n := ⟨by omega, by omega⟩
theorem text_len {n : Int} (h : P333 n) : (textL (S333 n)).length ≤ 43 := by
  have h1 := itoa_len h
  rw [textL, List.length_append, List.length_cons, S333, data_bs, size_bs]
  have := itoa_len (n := ((Lib.itoa n).length : Int)) ⟨by omega, by omega⟩
  omega
theorem hop_len {h : api_Hop} (hh : okHop h) : (textsL (hopL h)).length ≤ 215 := by
  obtain ⟨h1, h2, h3, h4, h5⟩ := hh
  have h1 := text_len (p333 h1)
  have h2 := text_len h2
  have h3 := text_len (p333 h3)
  have h4 := text_len h4
  have h5 := text_len h5
  simp only [textsL, hopL, List.flatMap_cons, List.flatMap_nil, List.length_append, List.length_nil]
  omega
theorem run319 : RunC C319 6 19 [9] [35] W319 [] := by
  intro (h : api_Hop) hx hp
  have hp : okHop h := hp _ rfl
  have hl := hop_len hp
  obtain ⟨h1, h2, h3, h4, h5⟩ := hp
  refine of_eq (q319 h _) ⟨h1, h2, h3, h4, h5, ?_, rfl⟩
  show (textsL (hopL h)).length ≤ 70368744177664
  omega
theorem ok319 : Ok319 := by
  refine con_ok (C := C319) ?_ mx7 (by kernel_rfl) run319
  exact kok_cons ok314 (kok_cons ok339 (kok_cons ok340 kok_nil))
theorem run321 : RunC C321 6 21 [9] [35] W321 [] := by
  intro (h : api_Hop) hx hp
  have hp : okHop h := hp _ rfl
  have hl := hop_len hp
  obtain ⟨h1, h2, h3, h4, h5⟩ := hp
  refine of_eq (q321 h _) ?_
  rw [wrap64 (n := h.fPrefix.fAddr) (by omega), wrap64 (n := h.fNext) (by omega)]
  refine ⟨p333 h1, h2, p333 h3, h4, h5, ?_, rfl⟩
  show (textsL (hopL h)).length ≤ 70368744177664
  omega
theorem ok321 : Ok321 := by
  refine con_ok (C := C321) ?_ mx7 (by kernel_rfl) run321
  exact kok_cons ok338 (kok_cons ok317 kok_nil)
end Go.Rx
namespace Go.Rx
open Go.Ab Go.L21
set_option maxRecDepth 100000
set_option maxHeartbeats 20000000
set_option linter.unusedVariables false
/-- interregnum/interregnumlaw24.hex -/
noncomputable def C331 : Cfg S := { P := P7, inl := [], K := [], ann := [(31, [(4, .loop [(.sl 4, .own 5), (.sl 5, .int .i64)])])] }
abbrev W331 : CT S [9] [9] := (fun x0 => (some (P331 x0), S331 x0))
abbrev Ok331 : Prop := ConOk P7 31 (ctr P7 [9] [9] W331) ∧ ConMon (ctr P7 [9] [9] W331)
theorem q331 (x0 : ByteArray) (v : HR S [9]) : (Xf C331 6 (emp 0) 31 (argsA C331 [⟨9, x0⟩]) (emp 0) (fun r _ => isR C331.P [9] v r) (fun _ _ => False)) = (LOOP
 (fun (h : List Int × Int) (J : List Int × Int → Prop) => bif decide (h.snd < (↑x0.size : Int)) then ((0 : Int) ≤ h.snd ∧ h.snd < (↑x0.size : Int)) ∧ ((0 :
 Int) ≤ IntKind.u8.wrap ((↑(x0.data.toList.getD h.snd.toNat (0 : UInt8)).toNat : Int).tdiv (16 : Int)) ∧ IntKind.u8.wrap ((↑(x0.data.toList.getD h.snd.toNat (0
 : UInt8)).toNat : Int).tdiv (16 : Int)) < (↑(nat_lit 16) : Int)) ∧ ((0 : Int) ≤ h.snd ∧ h.snd < (↑x0.size : Int)) ∧ ((0 : Int) ≤ (↑(x0.data.toList.getD
 h.snd.toNat (0 : UInt8)).toNat : Int).tmod (16 : Int) ∧ (↑(x0.data.toList.getD h.snd.toNat (0 : UInt8)).toNat : Int).tmod (16 : Int) < (↑(nat_lit 16) : Int))
 ∧ (h.fst.length = h.fst.length ∧ (h.fst.length + [(↑([(48 : UInt8), (49 : UInt8), (50 : UInt8), (51 : UInt8), (52 : UInt8), (53 : UInt8), (54 : UInt8), (55 :
 UInt8), (56 : UInt8), (57 : UInt8), (97 : UInt8), (98 : UInt8), (99 : UInt8), (100 : UInt8), (101 : UInt8), (102 : UInt8)].getD (IntKind.u8.wrap
 ((↑(x0.data.toList.getD h.snd.toNat (0 : UInt8)).toNat : Int).tdiv (16 : Int))).toNat (0 : UInt8)).toNat : Int), (↑([(48 : UInt8), (49 : UInt8), (50 : UInt8),
 (51 : UInt8), (52 : UInt8), (53 : UInt8), (54 : UInt8), (55 : UInt8), (56 : UInt8), (57 : UInt8), (97 : UInt8), (98 : UInt8), (99 : UInt8), (100 : UInt8),
 (101 : UInt8), (102 : UInt8)].getD ((↑(x0.data.toList.getD h.snd.toNat (0 : UInt8)).toNat : Int).tmod (16 : Int)).toNat (0 : UInt8)).toNat : Int)].length) *
 nat_lit 1 ≤ nat_lit 140737488355328) ∧ ∀ (y : List (Int)), y = h.fst ++ [(↑([(48 : UInt8), (49 : UInt8), (50 : UInt8), (51 : UInt8), (52 : UInt8), (53 :
 UInt8), (54 : UInt8), (55 : UInt8), (56 : UInt8), (57 : UInt8), (97 : UInt8), (98 : UInt8), (99 : UInt8), (100 : UInt8), (101 : UInt8), (102 : UInt8)].getD
 (IntKind.u8.wrap ((↑(x0.data.toList.getD h.snd.toNat (0 : UInt8)).toNat : Int).tdiv (16 : Int))).toNat (0 : UInt8)).toNat : Int), (↑([(48 : UInt8), (49 :
 UInt8), (50 : UInt8), (51 : UInt8), (52 : UInt8), (53 : UInt8), (54 : UInt8), (55 : UInt8), (56 : UInt8), (57 : UInt8), (97 : UInt8), (98 : UInt8), (99 :
 UInt8), (100 : UInt8), (101 : UInt8), (102 : UInt8)].getD ((↑(x0.data.toList.getD h.snd.toNat (0 : UInt8)).toNat : Int).tmod (16 : Int)).toNat (0 :
 UInt8)).toNat : Int)] → y.length = y.length ∧ J (y, IntKind.i64.wrap (h.snd + (1 : Int))) else bsOf (List.map (fun (x : Int) => x) h.fst) = v) ([], (0 :
 Int))) := by kernel_rfl
end Go.Rx
namespace Go.Rx
open Go.Ab Go.L21
set_option maxRecDepth 100000
set_option maxHeartbeats 20000000
set_option linter.unusedVariables false
/-- interregnum/script.Hex -/
noncomputable def C359 : Cfg S := { P := P7, inl := [], K := [], ann := [(59, [(3, .loop [(.sl 3, .own 5), (.sl 8, .int .i64)])])] }
abbrev W359 : CT S [9] [9] := (fun x0 => (some (P359 x0), S359 x0))
abbrev Ok359 : Prop := ConOk P7 59 (ctr P7 [9] [9] W359) ∧ ConMon (ctr P7 [9] [9] W359)
theorem q359 (x0 : ByteArray) (v : HR S [9]) : (Xf C359 6 (emp 0) 59 (argsA C359 [⟨9, x0⟩]) (emp 0) (fun r _ => isR C359.P [9] v r) (fun _ _ => False)) =
 (nat_lit 1 = nat_lit 1 ∧ LOOP (fun (h : List Int × Int) (J : List Int × Int → Prop) => bif decide (h.snd < (↑x0.size : Int)) then ((0 : Int) ≤ h.snd ∧ h.snd <
 (↑x0.size : Int)) ∧ ((0 : Int) ≤ (↑(x0.data.toList.getD h.snd.toNat (0 : UInt8)).toNat : Int).fdiv ((2 : Int) ^ nat_lit 4) ∧ (↑(x0.data.toList.getD
 h.snd.toNat (0 : UInt8)).toNat : Int).fdiv ((2 : Int) ^ nat_lit 4) < (↑(nat_lit 16) : Int)) ∧ ((0 : Int) ≤ h.snd ∧ h.snd < (↑x0.size : Int)) ∧ ((0 : Int) ≤
 iand IntKind.u8 (↑(x0.data.toList.getD h.snd.toNat (0 : UInt8)).toNat : Int) (15 : Int) ∧ iand IntKind.u8 (↑(x0.data.toList.getD h.snd.toNat (0 :
 UInt8)).toNat : Int) (15 : Int) < (↑(nat_lit 16) : Int)) ∧ (h.fst.length = h.fst.length ∧ (h.fst.length + [(↑([(48 : UInt8), (49 : UInt8), (50 : UInt8), (51 :
 UInt8), (52 : UInt8), (53 : UInt8), (54 : UInt8), (55 : UInt8), (56 : UInt8), (57 : UInt8), (97 : UInt8), (98 : UInt8), (99 : UInt8), (100 : UInt8), (101 :
 UInt8), (102 : UInt8)].getD ((↑(x0.data.toList.getD h.snd.toNat (0 : UInt8)).toNat : Int).fdiv ((2 : Int) ^ nat_lit 4)).toNat (0 : UInt8)).toNat : Int),
 (↑([(48 : UInt8), (49 : UInt8), (50 : UInt8), (51 : UInt8), (52 : UInt8), (53 : UInt8), (54 : UInt8), (55 : UInt8), (56 : UInt8), (57 : UInt8), (97 : UInt8),
 (98 : UInt8), (99 : UInt8), (100 : UInt8), (101 : UInt8), (102 : UInt8)].getD (iand IntKind.u8 (↑(x0.data.toList.getD h.snd.toNat (0 : UInt8)).toNat : Int)
 (15 : Int)).toNat (0 : UInt8)).toNat : Int)].length) * nat_lit 1 ≤ nat_lit 140737488355328) ∧ ∀ (y : List (Int)), y = h.fst ++ [(↑([(48 : UInt8), (49 :
 UInt8), (50 : UInt8), (51 : UInt8), (52 : UInt8), (53 : UInt8), (54 : UInt8), (55 : UInt8), (56 : UInt8), (57 : UInt8), (97 : UInt8), (98 : UInt8), (99 :
 UInt8), (100 : UInt8), (101 : UInt8), (102 : UInt8)].getD ((↑(x0.data.toList.getD h.snd.toNat (0 : UInt8)).toNat : Int).fdiv ((2 : Int) ^ nat_lit 4)).toNat (0
 : UInt8)).toNat : Int), (↑([(48 : UInt8), (49 : UInt8), (50 : UInt8), (51 : UInt8), (52 : UInt8), (53 : UInt8), (54 : UInt8), (55 : UInt8), (56 : UInt8), (57
 : UInt8), (97 : UInt8), (98 : UInt8), (99 : UInt8), (100 : UInt8), (101 : UInt8), (102 : UInt8)].getD (iand IntKind.u8 (↑(x0.data.toList.getD h.snd.toNat (0 :
 UInt8)).toNat : Int) (15 : Int)).toNat (0 : UInt8)).toNat : Int)] → y.length = y.length ∧ J (y, IntKind.i64.wrap (h.snd + (1 : Int))) else bsOf (List.map (fun
 (x : Int) => x) h.fst) = v) ([(120 : Int)], (0 : Int))) := by kernel_rfl
end Go.Rx
/-! Bytes as digits. -/
namespace Go.Rx
open Go.Ab Go.L21
set_option linter.unusedVariables false
set_option maxRecDepth 100000
def toI (l : List UInt8) : List Int := l.map fun c => (c.toNat : Int)
theorem bsOf_push : ∀ (l : List UInt8) (r : ByteArray), (toI l).foldl (fun r n => r.push (UInt8.ofNat n.toNat)) r = ⟨r.data ++ l.toArray⟩
  | [], r => by simp [toI]
  | c :: l, r => by
    show (toI l).foldl _ (r.push (UInt8.ofNat ((c.toNat : Int)).toNat)) = _
    rw [bsOf_push l, Int.toNat_natCast, show UInt8.ofNat c.toNat = c from UInt8.ofNat_toNat]
    apply ByteArray.ext
    show (r.data.push c) ++ l.toArray = r.data ++ (c :: l).toArray
    simp
theorem bsOf_toI (l : List UInt8) : bsOf (toI l) = bs l := by
  unfold bsOf
  rw [bsOf_push]
  apply ByteArray.ext
  show ByteArray.empty.data ++ l.toArray = l.toArray
  simp
theorem bsOf_map (l : List UInt8) : bsOf (List.map (fun (x : Int) => x) (toI l)) = bs l := by
  rw [List.map_id' (toI l)]; exact bsOf_toI l
theorem hexT1 : ∀ c : Fin 256, IntKind.u8.wrap (((c.val : Nat) : Int).tdiv 16) = ((c.val / 16 : Nat) : Int) ∧ ((c.val : Nat) : Int).tmod 16 = ((c.val % 16 : Nat) : Int) ∧ ((c.val : Nat) : Int).fdiv (2 ^ 4) = ((c.val / 16 : Nat) : Int) ∧ iand .u8 ((c.val : Nat) : Int) 15 = ((c.val % 16 : Nat) : Int) := by decide +kernel
theorem hexT2 : ∀ d : Fin 16, ([(48 : UInt8), (49 : UInt8), (50 : UInt8), (51 : UInt8), (52 : UInt8), (53 : UInt8), (54 : UInt8), (55 : UInt8), (56 : UInt8), (57 : UInt8), (97 : UInt8), (98 : UInt8), (99 : UInt8), (100 : UInt8), (101 : UInt8), (102 : UInt8)].getD d.val 0) = hexDg d.val := by decide +kernel
theorem dig_at {d : Nat} (h : d < 16) : ([(48 : UInt8), (49 : UInt8), (50 : UInt8), (51 : UInt8), (52 : UInt8), (53 : UInt8), (54 : UInt8), (55 : UInt8), (56 : UInt8), (57 : UInt8), (97 : UInt8), (98 : UInt8), (99 : UInt8), (100 : UInt8), (101 : UInt8), (102 : UInt8)].getD ((d : Nat) : Int).toNat 0) = hexDg d := by
  rw [Int.toNat_natCast]; exact hexT2 ⟨d, h⟩
theorem hex_b (c : UInt8) : IntKind.u8.wrap ((c.toNat : Int).tdiv 16) = ((c.toNat / 16 : Nat) : Int) ∧ (c.toNat : Int).tmod 16 = ((c.toNat % 16 : Nat) : Int) ∧ (c.toNat : Int).fdiv (2 ^ 4) = ((c.toNat / 16 : Nat) : Int) ∧ iand .u8 (c.toNat : Int) 15 = ((c.toNat % 16 : Nat) : Int) := hexT1 ⟨c.toNat, c.toNat_lt⟩
theorem hexL_app (a b : List UInt8) : hexL (a ++ b) = hexL a ++ hexL b := List.flatMap_append
theorem hexL_len (l : List UInt8) : (hexL l).length = 2 * l.length := by
  induction l with
  | nil => rfl
  | cons c r ih =>
    have e : hexL (c :: r) = [hexDg (c.toNat / 16), hexDg (c.toNat % 16)] ++ hexL r := rfl
    rw [e, List.length_append, ih]
    simp only [List.length_cons, List.length_nil]
    omega
theorem hexL_take {l : List UInt8} {k : Nat} {c : UInt8} (h : l[k]? = some c) : hexL (l.take (k + 1)) = hexL (l.take k) ++ [hexDg (c.toNat / 16), hexDg (c.toNat % 16)] := by
  rw [List.take_add_one, h, Option.toList_some, hexL_app]; rfl
theorem getD_get {l : List UInt8} {k : Nat} {c : UInt8} (h : l[k]? = some c) : l.getD k 0 = c := by rw [List.getD_eq_getElem?_getD, h]; rfl
theorem toI_app (a b : List UInt8) : toI (a ++ b) = toI a ++ toI b := List.map_append
theorem toI_len (l : List UInt8) : (toI l).length = l.length := List.length_map ..
theorem run331 : RunC C331 6 31 [9] [9] W331 [] := by
  intro (x : ByteArray) hx hp
  have hs : x.size ≤ 1099511627776 := hp _ rfl
  have hsz : x.size = x.data.toList.length := Lib.size_eq x
  refine of_eq (q331 x _) ?_
  refine LOOP.of (fun y => ∃ k : Nat, y = (toI (hexL (x.data.toList.take k)), (k : Int)) ∧ k ≤ x.size) (fun y => x.size - y.2.toNat) ⟨0, rfl, by omega⟩ ?_
  rintro _ ⟨k, rfl, hk⟩ J hJ
  dsimp only
  refine bif_of (fun hc => ?_) (fun hc => ?_)
  · have hc := of_decide_eq_true hc
    have hkl : k < x.size := by omega
    obtain ⟨c, hy⟩ : ∃ c, x.data.toList[k]? = some c := ⟨_, List.getElem?_eq_getElem (by omega)⟩
    obtain ⟨b1, b2, _, _⟩ := hex_b c
    have hc256 := c.toNat_lt
    rw [Int.toNat_natCast, getD_get hy, b1, b2, dig_at (by omega), dig_at (by omega)]
    refine ⟨⟨by omega, hc⟩, ⟨by omega, by omega⟩, ⟨by omega, hc⟩, ⟨by omega, by omega⟩, ⟨rfl, ?_⟩, fun y hyy => ⟨rfl, hJ _ ⟨k + 1, ?_, hkl⟩ ?_⟩⟩
    · rw [toI_len, hexL_len, List.length_take]
      show (_ + 2) * 1 ≤ _
      omega
    · rw [hyy, wrap64 (by omega), hexL_take hy, toI_app]; rfl
    · show x.size - (IntKind.i64.wrap ((k : Int) + 1)).toNat < x.size - ((k : Nat) : Int).toNat
      rw [wrap64 (by omega)]; omega
  · have hc := of_decide_eq_false hc
    obtain rfl : k = x.size := by omega
    rw [bsOf_map, hsz, List.take_length]
    rfl
theorem ok331 : Ok331 := con_ok (C := C331) kok_nil mx7 (by kernel_rfl) run331
theorem run359 : RunC C359 6 59 [9] [9] W359 [] := by
  intro (x : ByteArray) hx hp
  have hs : x.size ≤ 1099511627776 := hp _ rfl
  have hsz : x.size = x.data.toList.length := Lib.size_eq x
  refine of_eq (q359 x _) ⟨rfl, ?_⟩
  refine LOOP.of (fun y => ∃ k : Nat, y = (toI (120 :: hexL (x.data.toList.take k)), (k : Int)) ∧ k ≤ x.size) (fun y => x.size - y.2.toNat) ⟨0, rfl, by omega⟩ ?_
  rintro _ ⟨k, rfl, hk⟩ J hJ
  dsimp only
  refine bif_of (fun hc => ?_) (fun hc => ?_)
  · have hc := of_decide_eq_true hc
    have hkl : k < x.size := by omega
    obtain ⟨c, hy⟩ : ∃ c, x.data.toList[k]? = some c := ⟨_, List.getElem?_eq_getElem (by omega)⟩
    obtain ⟨_, _, b1, b2⟩ := hex_b c
    have hc256 := c.toNat_lt
    rw [Int.toNat_natCast, getD_get hy, b1, b2, dig_at (by omega), dig_at (by omega)]
    refine ⟨⟨by omega, hc⟩, ⟨by omega, by omega⟩, ⟨by omega, hc⟩, ⟨by omega, by omega⟩, ⟨rfl, ?_⟩, fun y hyy => ⟨rfl, hJ _ ⟨k + 1, ?_, hkl⟩ ?_⟩⟩
    · rw [toI_len, List.length_cons, hexL_len, List.length_take]
      show (_ + 2) * 1 ≤ _
      omega
    · rw [hyy, wrap64 (by omega), hexL_take hy, ← List.cons_append, toI_app]; rfl
    · show x.size - (IntKind.i64.wrap ((k : Int) + 1)).toNat < x.size - ((k : Nat) : Int).toNat
      rw [wrap64 (by omega)]; omega
  · have hc := of_decide_eq_false hc
    obtain rfl : k = x.size := by omega
    rw [bsOf_map, hsz, List.take_length]
    rfl
theorem ok359 : Ok359 := con_ok (C := C359) kok_nil mx7 (by kernel_rfl) run359
end Go.Rx
/-! Two hex digits, as the library reads them. -/
namespace Go.Proofs
open Go.Shelf Go.RowKit
variable {P : Program} {ρ : Ren}
def endX (t : TypeId) : Option Nat → Value
  | some u => .tuple #[.int .u64 u, .nilIface]
  | none => .tuple #[.int .u64 0, .iface t (.int .i64 2)]
theorem lowT : ∀ n : Fin 256, bits .or .u8 ((n.val : Nat) : Int) 32 = ((n.val ||| 32 : Nat) : Int) ∧ (n.val ||| 32) < 256 := by decide +kernel
theorem low_eq (c : UInt8) : bits .or .u8 (c.toNat : Int) 32 = ((c.toNat ||| 32 : Nat) : Int) := (lowT ⟨c.toNat, c.toNat_lt⟩).1
theorem low_lt (c : UInt8) : (c.toNat ||| 32) < 256 := (lowT ⟨c.toNat, c.toNat_lt⟩).2
open Go.L21 in
set_option maxHeartbeats 32000000 in
set_option maxRecDepth 100000 in
theorem parse_x (L : LaysPu.n16 P ρ) (t : ByteArray) (h2 : t.size = 2) (w : World) :
    Calls P (ρ.f 16) #[.string t, .int .i64 16, .int .i64 8] w fun e w' => e = .returned (endX (ρ.t 34) (hexM 0 t.data.toList)) ∧ w' = Lib.bytesWorld w (ρ.t 5) t := by
  have mixed := L.mixed
  have t9 := L.t9; have a9 := L.a9; have z9 := L.z9; have v9 := L.v9
  have t3 := L.t3; have a3 := L.a3; have z3 := L.z3; have v3 := L.v3
  have t22 := L.t22; have a22 := L.a22; have z22 := L.z22; have v22 := L.v22
  have t24 := L.t24; have a24 := L.a24; have z24 := L.z24; have v24 := L.v24
  have t4 := L.t4; have a4 := L.a4; have z4 := L.z4; have v4 := L.v4
  have t34 := L.t34; have a34 := L.a34; have z34 := L.z34; have v34 := L.v34
  have t5 := L.t5; have a5 := L.a5; have z5 := L.z5; have v5 := L.v5
  have t36 := L.t36; have a36 := L.a36; have z36 := L.z36; have v36 := L.v36
  have t37 := L.t37; have a37 := L.a37; have z37 := L.z37; have v37 := L.v37
  have t0 := L.t0; have a0 := L.a0; have z0 := L.z0; have v0 := L.v0
  have e19 : ∀ args w, (callFunc (ρ.f 19) args).run P w = .ok (.enter (ρ.f 19) args) w := enters_of L.f19 (by kernel_rfl) rfl
  have hne : t.size ≠ 0 := by omega
  have hemp : t.toList.isEmpty = false := by
    rw [← decide_eq_emptyBytes]
    exact decide_eq_false (fun h => hne (by rw [h]; rfl))
  have hcv := Lib.run_convert_string_bytes (P := P) w (ρ.t 9) (ρ.t 37) (ρ.t 5) t (u := .string) L.t9 L.t37 L.t5
  have hB : ∀ j, j < t.size → (Lib.bytesWorld w (ρ.t 5) t).cell? ⟨w.heap.size, j, none⟩ = some (.int .u8 (t.data.toList.getD j 0).toNat) := fun j hj => Lib.bytesWorld_cell w (ρ.t 5) t j hj
  obtain ⟨W1, hW1⟩ : ∃ W1, W1 = Lib.bytesWorld w (ρ.t 5) t := ⟨_, rfl⟩
  rw [← hW1] at hcv hB ⊢
  clear hW1
  obtain ⟨bs, hL⟩ : ∃ bs, bs = t.data.toList := ⟨_, rfl⟩
  have hLn : bs.length = t.size := by rw [hL, Lib.size_eq]
  rw [← hL] at hB ⊢
  clear hL
  have hmv : IntKind.u64.wrap (IntKind.u64.wrap 256 - 1) = 255 := by
    rw [IntKind.wrap_u64, IntKind.wrap_u64]
    decide
  have hmax : t.size ≤ 9223372036854775806 := by omega
  go_enter L.f16, BodyPu.n16_ntmps ρ
  go_wp2
  go_loop [12, 13, 101] (fun vu vn vi => ∃ (k acc : Nat) (a : Int), vu = .bool false ∧ vn = .int .u64 a ∧ vi = .int .i64 k ∧ k ≤ t.size ∧ Hid (a = (acc : Int) ∧ acc < 16 ^ k ∧ hexM 0 bs = hexM acc (bs.drop k)))
    (fun _ _ vi => t.size - (intOf vi).toNat)
  case atStart => exact ⟨0, 0, 0, rfl, rfl, rfl, by omega, rfl, by omega, rfl⟩
  case round =>
    obtain ⟨k, acc, a, rfl, rfl, rfl, hk, hh⟩ := hrel
    obtain ⟨ha, hacc, hdec⟩ := hh.out
    clear hh
    by_cases hkn : k < t.size
    · have ha16 : acc < 16 := by
        rcases (show k = 0 ∨ k = 1 by omega) with rfl | rfl <;> omega
      have hnext : ∀ d, d < 16 → acc * 16 + d < 16 ^ (k + 1) := fun d hd => by rw [Nat.pow_succ]; omega
      have a0 : 0 ≤ a := by omega
      have a1 : a < 16 := by omega
      have hc := hB k hkn
      have hdrop : bs.drop k = bs[k]'(by omega) :: bs.drop (k + 1) := List.drop_eq_getElem_cons (by omega)
      have hget : bs.getD k 0 = bs[k]'(by omega) := by simp [List.getD, List.getElem?_eq_getElem (show k < bs.length by omega)]
      rw [hdrop] at hdec
      rw [hget] at hc
      generalize bs[k]'(by omega) = c at hc hdec
      have hc256 : c.toNat < 256 := c.toNat_lt
      have hlow := low_eq c
      have hlow2 := low_lt c
      have hD : hexD c = if 48 ≤ c.toNat ∧ c.toNat ≤ 57 then some (c.toNat - 48) else if 97 ≤ (c.toNat ||| 32) ∧ (c.toNat ||| 32) ≤ 102 then some ((c.toNat ||| 32) - 87) else none := rfl
      clear hB hdrop hget
      by_cases hdig : 48 ≤ c.toNat ∧ c.toNat ≤ 57
      · obtain ⟨hd0, hd1⟩ := hdig
        have hF : hexM acc (c :: bs.drop (k + 1)) = hexM (acc * 16 + (c.toNat - 48)) (bs.drop (k + 1)) := by
          show (match hexD c with | some d => hexM (acc * 16 + d) (bs.drop (k + 1)) | none => none) = _
          rw [hD, if_pos ⟨hd0, hd1⟩]
        have HN : Hid (a * 16 + ((c.toNat : Int) - 48) = ((acc * 16 + (c.toNat - 48) : Nat) : Int) ∧ acc * 16 + (c.toNat - 48) < 16 ^ (k + 1) ∧ hexM 0 bs = hexM (acc * 16 + (c.toNat - 48)) (bs.drop (k + 1))) := Lib.hid ⟨by omega, hnext _ (by omega), hdec.trans hF⟩
        have iov : a * 16 + ((c.toNat : Int) - 48) ≤ 255 := by omega
        clear hacc hF hdec ha hlow hlow2 hD hnext ha16
        go_wp2
        refine ⟨⟨k + 1, acc * 16 + (c.toNat - 48), a * 16 + ((c.toNat : Int) - 48), rfl, (by first | rfl | (congr 1; omega)), (by first | rfl | (congr 1; omega)), by omega, HN⟩, by simp [intOf]; omega⟩
      · by_cases hlet : 97 ≤ (c.toNat ||| 32) ∧ (c.toNat ||| 32) ≤ 102
        · have hF : hexM acc (c :: bs.drop (k + 1)) = hexM (acc * 16 + ((c.toNat ||| 32) - 87)) (bs.drop (k + 1)) := by
            show (match hexD c with | some d => hexM (acc * 16 + d) (bs.drop (k + 1)) | none => none) = _
            rw [hD, if_neg hdig, if_pos hlet]
          have h95 : ((c.toNat : Nat) : Int) ≠ 95 := fun e => by
            have e : c.toNat = 95 := by omega
            rw [e] at hlet
            exact absurd hlet (by decide)
          generalize (c.toNat ||| 32) = q at hlow hlow2 hlet hF
          obtain ⟨hq0, hq1⟩ := hlet
          have HN : Hid (a * 16 + ((q : Int) - 87) = ((acc * 16 + (q - 87) : Nat) : Int) ∧ acc * 16 + (q - 87) < 16 ^ (k + 1) ∧ hexM 0 bs = hexM (acc * 16 + (q - 87)) (bs.drop (k + 1))) := Lib.hid ⟨by omega, hnext _ (by omega), hdec.trans hF⟩
          have iov : a * 16 + ((q : Int) - 87) ≤ 255 := by omega
          clear hacc hF hdec ha hD hnext ha16
          go_wp2_with (go_at_fn (ρ.f 19); refine (AnyPu.internal_strconv_lower { L with } _ _).mono ?_; rintro e w' ⟨rfl, rfl⟩; rw [hlow])
          all_goals first | (refine ⟨⟨k + 1, acc * 16 + (q - 87), a * 16 + ((q : Int) - 87), rfl, (by first | rfl | (congr 1; omega)), (by first | rfl | (congr 1; omega)), by omega, HN⟩, by simp [intOf]; omega⟩) | trace_state
        · have hF : hexM acc (c :: bs.drop (k + 1)) = none := by
            show (match hexD c with | some d => hexM (acc * 16 + d) (bs.drop (k + 1)) | none => none) = _
            rw [hD, if_neg hdig, if_neg hlet]
          rw [hF] at hdec
          clear hacc hF ha hD hnext ha16
          by_cases h95 : c.toNat = 95
          · rw [h95] at hc
            clear hlow hlow2 hlet hdig
            have hlow : bits .or .u8 95 32 = 127 := by decide
            go_wp2_with (go_at_fn (ρ.f 19); refine (AnyPu.internal_strconv_lower { L with } _ _).mono ?_; rintro e w' ⟨rfl, rfl⟩; rw [hlow])
            all_goals go_ret2
            all_goals first | exact ⟨rfl, rfl⟩ | exact ⟨by rw [hdec]; rfl, rfl⟩ | trace_state
          · have h95 : ((c.toNat : Nat) : Int) ≠ 95 := by omega
            generalize (c.toNat ||| 32) = q at hlow hlow2 hlet
            go_wp2_with (go_at_fn (ρ.f 19); refine (AnyPu.internal_strconv_lower { L with } _ _).mono ?_; rintro e w' ⟨rfl, rfl⟩; rw [hlow])
            all_goals go_ret2
            all_goals first | exact ⟨rfl, rfl⟩ | exact ⟨by rw [hdec]; rfl, rfl⟩ | trace_state
    · have hkk : k = t.size := by omega
      subst hkk
      have hF : hexM acc (bs.drop t.size) = some acc := by rw [List.drop_eq_nil_of_le (by omega)]; rfl
      rw [hF] at hdec
      subst ha
      have hacc2 : acc < 256 := by rw [h2] at hacc; omega
      clear hacc
      go_wp2
      go_ret2
      exact ⟨rfl, rfl⟩
end Go.Proofs
/-! strconv.ParseUint of two hex digits. -/
namespace Go.Proofs
open Go.Shelf Go.RowKit
open Go.L21 in
set_option maxHeartbeats 4000000 in
set_option maxRecDepth 100000 in
theorem pubX_ok {P : Program} {ρ : Ren} (L : LaysPu.n14 P ρ) (s : ByteArray) (h2 : s.size = 2) (u : Nat) (h : hexM 0 s.data.toList = some u) (w : World) :
    Calls P (ρ.f 14) #[.string s, .int .i64 16, .int .i64 8] w fun e w' => e = .returned (.tuple #[.int .u64 u, .nilIface]) ∧ w' = Lib.bytesWorld w (ρ.t 5) s := by
  have mixed := L.mixed
  have t9 := L.t9; have a9 := L.a9; have z9 := L.z9; have v9 := L.v9
  have t3 := L.t3; have a3 := L.a3; have z3 := L.z3; have v3 := L.v3
  have t22 := L.t22; have a22 := L.a22; have z22 := L.z22; have v22 := L.v22
  have t24 := L.t24; have a24 := L.a24; have z24 := L.z24; have v24 := L.v24
  have t25 := L.t25; have a25 := L.a25; have z25 := L.z25; have v25 := L.v25
  have t4 := L.t4; have a4 := L.a4; have z4 := L.z4; have v4 := L.v4
  have e16 : ∀ args w, (callFunc (ρ.f 16) args).run P w = .ok (.enter (ρ.f 16) args) w := enters_of L.f16 (by kernel_rfl) rfl
  have hI := parse_x { L with } s h2 w
  rw [h] at hI
  have hI : Calls P (ρ.f 16) #[.string s, .int .i64 16, .int .i64 8] w fun e w' => e = .returned (.tuple #[.int .u64 u, .nilIface]) ∧ w' = Lib.bytesWorld w (ρ.t 5) s := hI
  clear h
  go_enter L.f14, BodyPu.n14_ntmps ρ
  go_wp2_with (go_at_fn (ρ.f 16); refine hI.mono ?_; rintro e W1 ⟨rfl, hW⟩)
  go_wp2
  go_ret2
  exact ⟨rfl, rfl⟩
open Go.L21 in
set_option maxHeartbeats 4000000 in
set_option maxRecDepth 100000 in
theorem pubX_syn {P : Program} {ρ : Ren} (L : LaysPu.n14 P ρ) (s : ByteArray) (h2 : s.size = 2) (h : hexM 0 s.data.toList = none) (ev : Value) (w : World) (hv : w.cell? ⟨(ρ.g 0), 0, none⟩ = some ev) (hev : ev = .nilIface ∨ ∃ te pe, ev = .iface te pe) :
    Calls P (ρ.f 14) #[.string s, .int .i64 16, .int .i64 8] w fun e w' => ∃ te pe, e = .returned (.tuple #[.int .u64 0, .iface te pe]) ∧ Below w.heap.size w w' := by
  have mixed := L.mixed
  have t9 := L.t9; have a9 := L.a9; have z9 := L.z9; have v9 := L.v9
  have t3 := L.t3; have a3 := L.a3; have z3 := L.z3; have v3 := L.v3
  have t22 := L.t22; have a22 := L.a22; have z22 := L.z22; have v22 := L.v22
  have t24 := L.t24; have a24 := L.a24; have z24 := L.z24; have v24 := L.v24
  have t25 := L.t25; have a25 := L.a25; have z25 := L.z25; have v25 := L.v25
  have t4 := L.t4; have a4 := L.a4; have z4 := L.z4; have v4 := L.v4
  have e16 : ∀ args w, (callFunc (ρ.f 16) args).run P w = .ok (.enter (ρ.f 16) args) w := enters_of L.f16 (by kernel_rfl) rfl
  have e17 : ∀ args w, (callFunc (ρ.f 17) args).run P w = .ok (.enter (ρ.f 17) args) w := enters_of L.f17 (by kernel_rfl) rfl
  have hG : (ρ.g 0) < w.heap.size := Lib.lt_of_cell hv
  have hI := parse_x { L with } s h2 w
  rw [h] at hI
  have hI : Calls P (ρ.f 16) #[.string s, .int .i64 16, .int .i64 8] w fun e w' => e = .returned (.tuple #[.int .u64 0, .iface (ρ.t 34) (.int .i64 2)]) ∧ w' = Lib.bytesWorld w (ρ.t 5) s := hI
  have hlim : s.size ≤ 281474976710656 := by omega
  clear h
  go_enter L.f14, BodyPu.n14_ntmps ρ
  go_wp2_with (go_at_fn (ρ.f 16); refine hI.mono ?_)
  rintro e W1 ⟨rfl, hW⟩
  have hb1 : Below w.heap.size w W1 := by
    subst hW
    exact Lib.bytesWorld_below _ _ _
  have hv1 : W1.cell? ⟨(ρ.g 0), 0, none⟩ = some ev := (hb1.cell (show (⟨(ρ.g 0), 0, none⟩ : Addr).block < w.heap.size from hG)).trans hv
  clear hW
  go_wp2_with (go_at_fn (ρ.f 17); refine (AnyPu.strconv_toError_syntax { L with } ⟨#[80, 97, 114, 115, 101, 85, 105, 110, 116]⟩ s 16 8 ev _ hlim ?_ hev).mono ?_)
  · exact hv1
  rintro e W2 ⟨N, rfl, h1, h2, h3⟩
  go_wp2
  go_ret2
  exact ⟨_, _, rfl, hb1.trans (h3.mono hb1.size)⟩
end Go.Proofs
namespace Go.Rx
open Go.Ab Go.L21 Go.Proofs Go.RowKit
set_option linter.unusedVariables false
set_option maxRecDepth 100000
abbrev W457 : CT S [59, 67] [9, 3, 3] := (fun x0 x1 x2 => (some (P457 x0 x1 x2), S457 x0 x1 x2))
abbrev Ok457 : Prop := ConOk P7 57 (ctr P7 [9, 3, 3] [59, 67] W457) ∧ ConMon (ctr P7 [9, 3, 3] [59, 67] W457)
theorem run457 : RunP C0 57 [59, 67] [9, 3, 3] W457 [] := by
  intro (s : ByteArray) hs (b : Int) hb (n : Int) hn hp
  obtain ⟨h2, rfl, rfl⟩ : P457 s b n := hp _ rfl
  intro imm w vs hok hgl hargs
  obtain ⟨v1, vs1, rfl, hv1, v2, vs2, rfl, hv2, v3, vs3, rfl, hv3, rfl⟩ := hargs
  obtain rfl : v1 = .string s := hv1
  obtain rfl : v2 = .int .i64 16 := hv2
  obtain rfl : v3 = .int .i64 8 := hv3
  have hS : S457 s 16 8 = endH (hexM 0 s.data.toList) := lk_eq _ _
  cases h : hexM 0 s.data.toList with
  | some v =>
    refine (pubX_ok Tryd.laysPu14 s h2 v h w).mono ?_
    rintro e w' ⟨rfl, rfl⟩
    refine pf_done (rts := [59, 67]) (S457 s 16 8) hok (Lib.bytesWorld_below _ _ _) ?_
    rw [hS, h]
    exact ⟨_, rfl, _, _, rfl, rfl, _, _, rfl, .inl ⟨rfl, rfl⟩, rfl⟩
  | none =>
    obtain ⟨ts, ps, hsy⟩ := hgl.2.syn
    refine (pubX_syn Tryd.laysPu14 s h2 h _ w hsy (.inr ⟨ts, ps, rfl⟩)).mono ?_
    rintro e w' ⟨te, pe, rfl, hb⟩
    refine pf_done (rts := [59, 67]) (S457 s 16 8) hok hb ?_
    rw [hS, h]
    exact ⟨_, rfl, _, _, rfl, rfl, _, _, rfl, .inr ⟨rfl, _, _, rfl⟩, rfl⟩
theorem ok457 : Ok457 := by
  apply con_okP (C := C0) (f := 57) (ts := [9, 3, 3]) (rts := [59, 67]) (W := W457)
  exact run457
end Go.Rx
namespace Go.Rx
open Go.Ab Go.L21
set_option maxRecDepth 100000
set_option maxHeartbeats 20000000
set_option linter.unusedVariables false
/-- interregnum/script.text -/
noncomputable def C362 : Cfg S := { P := P7, inl := [], K := [(57, ctr P7 [9, 3, 3] [59, 67] (fun x0 x1 x2 => (some (P457 x0 x1 x2), S457 x0 x1 x2)))], ann := [(62, [(5, .loop [(.sl 4, .str), (.sl 6, .own 5)])])] }
abbrev W362 : CT S [9, 4] [9] := (fun x0 => (some (P362 x0), S362 x0))
abbrev Ok362 : Prop := ConOk P7 62 (ctr P7 [9] [9, 4] W362) ∧ ConMon (ctr P7 [9] [9, 4] W362)
theorem q362 (x0 : ByteArray) (v : HR S [9, 4]) : (Xf C362 6 (emp 0) 62 (argsA C362 [⟨9, x0⟩]) (emp 0) (fun r _ => isR C362.P [9, 4] v r) (fun _ _ => False)) =
 ((decide ((↑(nat_lit 1) : Int) ≤ (↑x0.size : Int)) = true → (0 : Int) ≤ (0 : Int) ∧ (0 : Int) ≤ (↑(nat_lit 1) : Int) ∧ (↑(nat_lit 1) : Int) ≤ (↑x0.size :
 Int)) ∧ bif !(decide ((↑(nat_lit 1) : Int) ≤ (↑x0.size : Int)) && (x0.extract (nat_lit 0) (nat_lit 1)).toList == (ByteArray.mk #[(120 : UInt8)]).toList) then
 (ByteArray.mk #[], false) = v else ((0 : Int) ≤ (↑(nat_lit 1) : Int) ∧ (↑(nat_lit 1) : Int) ≤ (↑x0.size : Int) ∧ (↑x0.size : Int) ≤ (↑x0.size : Int)) ∧ bif
 !decide ((↑(x0.extract (nat_lit 1) (↑x0.size : Int).toNat).size : Int).tmod (2 : Int) = (0 : Int)) then (ByteArray.mk #[], false) = v else LOOP (fun (h :
 ByteArray × List Int) (J : ByteArray × List Int → Prop) => bif !h.fst.toList == (ByteArray.mk #[]).toList then ((0 : Int) ≤ (0 : Int) ∧ (0 : Int) ≤ (2 : Int)
 ∧ (2 : Int) ≤ (↑h.fst.size : Int)) ∧ ((h.fst.extract (nat_lit 0) (nat_lit 2)).size = nat_lit 2 ∧ (16 : Int) = (16 : Int) ∧ (8 : Int) = (8 : Int)) ∧ bif (S457
 (h.fst.extract (nat_lit 0) (nat_lit 2)) (16 : Int) (8 : Int)).snd then (ByteArray.mk #[], false) = v else (h.snd.length = h.snd.length ∧ (h.snd.length +
 [IntKind.u8.wrap (S457 (h.fst.extract (nat_lit 0) (nat_lit 2)) (16 : Int) (8 : Int)).fst].length) * nat_lit 1 ≤ nat_lit 140737488355328) ∧ ∀ (y : List (Int)),
 y = h.snd ++ [IntKind.u8.wrap (S457 (h.fst.extract (nat_lit 0) (nat_lit 2)) (16 : Int) (8 : Int)).fst] → ((0 : Int) ≤ (2 : Int) ∧ (2 : Int) ≤ (↑h.fst.size :
 Int) ∧ (↑h.fst.size : Int) ≤ (↑h.fst.size : Int)) ∧ y.length = y.length ∧ J (h.fst.extract (nat_lit 2) (↑h.fst.size : Int).toNat, y) else (bsOf (List.map (fun
 (x : Int) => x) h.snd), true) = v) (x0.extract (nat_lit 1) (↑x0.size : Int).toNat, [])) := by kernel_rfl
end Go.Rx
/-! Bytes out of digits. -/
namespace Go.Rx
open Go.Ab Go.L21
set_option linter.unusedVariables false
set_option maxRecDepth 100000
theorem ba_eq {a b : ByteArray} (h : a.data.toList = b.data.toList) : a = b := by
  apply ByteArray.ext
  exact Array.ext' h
theorem ba_of {a : ByteArray} {l : List UInt8} (h : a.data.toList = l) : a = bs l := ba_eq h
theorem ext_bs (l : List UInt8) (k : Nat) : (bs l).extract 0 k = bs (l.take k) := ba_of (ext0 (bs l) k)
theorem ext_bsE (l : List UInt8) (k : Nat) : (bs l).extract k (((bs l).size : Nat) : Int).toNat = bs (l.drop k) := by
  rw [Int.toNat_natCast]; exact ba_of (extE (bs l) k)
theorem toList_bs (l : List UInt8) : (bs l).toList = l := by rw [Lib.toList_data]; rfl
theorem wrap_of (v : Nat) : IntKind.u8.wrap (v : Int) = ((UInt8.ofNat v).toNat : Int) := by
  rw [wrap8]
  have : (UInt8.ofNat v).toNat = v % 256 := by simp
  omega
theorem s457 (l : List UInt8) : S457 (bs l) 16 8 = endH (hexM 0 l) := lk_eq _ _
theorem s362 (s : ByteArray) : S362 s = hexText s.data.toList := lk_eq _ _
def fin362 (done rest : List UInt8) : ByteArray × Bool := match unhex rest with
  | some t => (bs (done ++ t), true)
  | none => (bs [], false)
theorem beqL (l : List UInt8) : ((bs l).toList == (ByteArray.mk #[]).toList) = l.isEmpty := by
  rw [toList_bs, Lib.toList_data]
  cases l <;> rfl
theorem run362 : RunC C362 6 62 [9, 4] [9] W362 [] := by
  intro (x : ByteArray) hx hp
  have hs : x.size ≤ 1099511627776 := hp _ rfl
  have hS : S362 x = hexText x.data.toList := s362 x
  refine of_eq (q362 x _) ?_
  obtain ⟨l, rfl⟩ : ∃ l, x = bs l := ⟨x.data.toList, rfl⟩
  have hsz : (bs l).size = l.length := size_bs l
  have hS : S362 (bs l) = hexText l := hS
  rw [ext_bs l 1, show ((bs l).extract 1 (((bs l).size : Nat) : Int).toNat) = bs (l.drop 1) from ext_bsE l 1]
  refine ⟨fun h => ⟨by omega, by omega, of_decide_eq_true h⟩, ?_⟩
  cases l with
  | nil =>
    refine bif_of (fun _ => ?_) (fun h => ?_)
    · exact hS.symm
    · have : decide (((1 : Nat) : Int) ≤ (((bs []).size : Nat) : Int)) = false := by rw [size_bs]; rfl
      rw [this] at h
      cases h
  | cons c r =>
    have h1 : decide (((1 : Nat) : Int) ≤ (((bs (c :: r)).size : Nat) : Int)) = true := by rw [size_bs, List.length_cons]; exact decide_eq_true (by omega)
    have h2 : ((bs (List.take 1 (c :: r))).toList == (ByteArray.mk #[(120 : UInt8)]).toList) = (c == 120) := by
      rw [toList_bs, Lib.toList_data]
      show ([c] == [120]) = _
      simp
    rw [h1, h2, Bool.true_and]
    rw [size_bs] at hs
    simp only [List.length_cons] at hs
    have hS : S362 (bs (c :: r)) = bif c == 120 && decide (r.length % 2 = 0) then fin362 [] r else (bs [], false) := hS
    refine bif_of (fun h => ?_) (fun h => ?_)
    · show _ = S362 (bs (c :: r))
      rw [hS, show (c == 120) = false by simpa using h]; rfl
    · have hc : (c == 120) = true := by simpa using h
      rw [hc, Bool.true_and] at hS
      refine ⟨⟨by decide, of_decide_eq_true h1, Int.le_refl _⟩, ?_⟩
      have e1 : List.drop 1 (c :: r) = r := rfl
      have e2 : decide ((((bs r).size : Nat) : Int).tmod 2 = 0) = decide (r.length % 2 = 0) := by
        rw [size_bs]
        refine decide_eq_decide.2 ?_
        have : ((r.length : Int)).tmod 2 = ((r.length % 2 : Nat) : Int) := rfl
        rw [this]; omega
      rw [e1, e2]
      refine bif_of (fun h => ?_) (fun h => ?_)
      · show _ = S362 (bs (c :: r))
        rw [hS, show decide (r.length % 2 = 0) = false by simpa using h]; rfl
      · have hev : decide (r.length % 2 = 0) = true := by simpa using h
        rw [hev] at hS
        have hS : S362 (bs (c :: r)) = fin362 [] r := hS
        refine LOOP.of (fun y => ∃ rest done : List UInt8, y = (bs rest, toI done) ∧ rest.length % 2 = 0 ∧ done.length + rest.length ≤ r.length ∧ fin362 done rest = fin362 [] r) (fun y => y.1.size) ⟨r, [], rfl, of_decide_eq_true hev, by simp, rfl⟩ ?_
        rintro _ ⟨rest, done, rfl, hev2, hlen, hfin⟩ J hJ
        dsimp only
        rw [beqL]
        match rest, hev2, hlen, hfin with
        | [], _, _, hfin =>
          refine bif_of (fun h => by cases h) (fun _ => ?_)
          rw [bsOf_map]
          show _ = S362 (bs (c :: r))
          rw [hS, ← hfin]
          show _ = (bs (done ++ []), true)
          rw [List.append_nil]
        | [a], h, _, _ => simp at h
        | a :: b :: q, hev2, hlen, hfin =>
          refine bif_of (fun _ => ?_) (fun h => by cases h)
          have hz : (bs (a :: b :: q)).size = q.length + 2 := by rw [size_bs]; rfl
          simp only [List.length_cons] at hlen hev2
          rw [ext_bs, ext_bsE]
          refine ⟨⟨by omega, by omega, by omega⟩, ⟨by rw [size_bs]; rfl, rfl, rfl⟩, ?_⟩
          rw [show S457 (bs (List.take 2 (a :: b :: q))) 16 8 = endH (hexM 0 [a, b]) from s457 [a, b]]
          cases hm : hexM 0 [a, b] with
          | none =>
            refine bif_of (fun _ => ?_) (fun h => by cases h)
            show _ = S362 (bs (c :: r))
            rw [hS, ← hfin]
            unfold fin362 unhex
            rw [hm]; rfl
          | some v =>
            refine bif_of (fun h => by cases h) (fun _ => ?_)
            refine ⟨⟨rfl, ?_⟩, fun y hy => ⟨⟨by omega, by omega, by omega⟩, rfl, hJ _ ⟨q, done ++ [UInt8.ofNat v], ?_, by omega, ?_, ?_⟩ ?_⟩⟩
            · rw [toI_len]
              show (_ + 1) * 1 ≤ _
              omega
            · rw [hy, toI_app]
              show (bs q, toI done ++ [IntKind.u8.wrap ((v : Nat) : Int)]) = _
              rw [wrap_of]; rfl
            · rw [List.length_append]; simp only [List.length_cons, List.length_nil]; omega
            · rw [← hfin]
              unfold fin362
              rw [show unhex (a :: b :: q) = (match unhex q with | some t => some (UInt8.ofNat v :: t) | none => none) by rw [unhex, hm]; rfl]
              show (match unhex q with | some t => _ | none => _) = _
              cases unhex q with
              | none => rfl
              | some t => show (bs (done ++ [UInt8.ofNat v] ++ t), true) = (bs (done ++ UInt8.ofNat v :: t), true); rw [List.append_assoc]; rfl
            · show (bs q).size < (bs (a :: b :: q)).size
              rw [hz, size_bs]; omega
theorem ok362 : Ok362 := con_ok (C := C362) (kk1 ok457) mx7 (by kernel_rfl) run362
end Go.Rx
/-! Numbers' texts read again. -/
namespace Go.Rx
open Go.Ab Go.L21
set_option linter.unusedVariables false
set_option maxRecDepth 100000
theorem s357_of {u : Int} (h : 0 ≤ u ∧ u ≤ 4294967295) : S357 (S333 u) 10 32 = (u, false) := by
  obtain ⟨n, rfl⟩ : ∃ n : Nat, u = (n : Int) := ⟨u.toNat, by omega⟩
  unfold S357
  rw [S333, data_bs, Lib.itoa_nonneg, show (32 : Int).toNat = 32 from rfl, uint_dec 32 (by omega) n (by omega)]
  rfl
theorem s337_of {n : Int} (h : P333 n) : S337 (S333 n) = (n, false) := by
  unfold S337
  rw [S333, data_bs, atoi_itoa n h]
  rfl
theorem wrap32 {n : Int} (h : 0 ≤ n ∧ n ≤ 4294967295) : IntKind.u32.wrap n = n := by
  have : IntKind.u32.wrap n = n % 4294967296 := rfl
  rw [this]; omega
theorem size333 {n : Int} (h : P333 n) : (S333 n).size ≤ 281474976710656 := by
  have := itoa_len h
  rw [S333, size_bs]; omega
theorem splitN_len (n : Nat) (l : List UInt8) {t : List (List UInt8)} (h : splitN n l = some t) : t.length ≤ n := by
  induction n generalizing l t with
  | zero => cases h; exact Nat.le_refl _
  | succ n ih =>
    rw [splitN] at h
    split at h
    · cases h; exact Nat.zero_le _
    · split at h
      · cases h
      · rename_i x r _
        cases hr : splitN n r with
        | none => rw [hr] at h; cases h
        | some u =>
          rw [hr] at h
          cases h
          have := ih r hr
          simp only [List.length_cons]; omega
theorem s315_len (x : ByteArray) : (S315 x).1.length ≤ x.size := by
  unfold S315
  cases h : splitL x.data.toList with
  | none => exact Nat.zero_le _
  | some t =>
    have := splitN_len _ _ h
    rw [← Lib.size_eq] at this
    simpa using this
end Go.Rx
namespace Go.Rx
open Go.Ab Go.L21
set_option maxRecDepth 100000
set_option maxHeartbeats 20000000
set_option linter.unusedVariables false
/-- interregnum/row.rules -/
noncomputable def C345 : Cfg S := { P := P7, inl := [], K := [(39, ctr P7 [31] [9] (fun x0 => (some (P339 x0), S339 x0))), (40, ctr P7 [3] [9] (fun x0 => (some (P340 x0), S340 x0)))], ann := [(45, [(9, .join [(.sl 3, .own 9)]), (8, .join [(.sl 6, .str)]), (3, .loop [(.sl 3, .own 9), (.sl 9, .int .i64)])])] }
abbrev W345 : CT S [22] [40] := (fun x0 => (some (P345 x0), S345 x0))
abbrev Ok345 : Prop := ConOk P7 45 (ctr P7 [40] [22] W345) ∧ ConMon (ctr P7 [40] [22] W345)
theorem q345 (x0 : List api_Rule) (v : HR S [22]) : (Xf C345 6 (emp 0) 45 (argsA C345 [⟨40, x0⟩]) (emp 0) (fun r _ => isR C345.P [22] v r) (fun _ _ => False))
 = (LOOP (fun (h : List ByteArray × Int) (J : List ByteArray × Int → Prop) => bif decide (h.snd < (↑x0.length : Int)) then h.fst.length = h.fst.length ∧ JP
 (fun (h_1 : List ByteArray) => h_1.length = h_1.length ∧ J (h_1, IntKind.i64.wrap (h.snd + (1 : Int)))) fun (J : List ByteArray → Prop) => ((0 : Int) ≤ h.snd
 ∧ h.snd < (↑x0.length : Int)) ∧ JP (fun (h_1 : ByteArray) => ((0 : Int) ≤ (ix x0 h.snd).fPrefix.fAddr ∧ (ix x0 h.snd).fPrefix.fAddr ≤ (4294967295 : Int)) ∧
 ((-9223372036854775808 : Int) ≤ (ix x0 h.snd).fPrefix.fLen ∧ (ix x0 h.snd).fPrefix.fLen ≤ (9223372036854775807 : Int)) ∧ ((-9223372036854775808 : Int) ≤ (ix
 x0 h.snd).fMin ∧ (ix x0 h.snd).fMin ≤ (9223372036854775807 : Int)) ∧ ((-9223372036854775808 : Int) ≤ (ix x0 h.snd).fMax ∧ (ix x0 h.snd).fMax ≤
 (9223372036854775807 : Int)) ∧ ((-9223372036854775808 : Int) ≤ (ix x0 h.snd).fPref ∧ (ix x0 h.snd).fPref ≤ (9223372036854775807 : Int)) ∧ (h.fst.length =
 h.fst.length ∧ (h.fst.length + [S339 (ix x0 h.snd).fPrefix.fAddr, S340 (ix x0 h.snd).fPrefix.fLen, S340 (ix x0 h.snd).fMin, S340 (ix x0 h.snd).fMax, h_1, S340
 (ix x0 h.snd).fPref].length) * nat_lit 16 ≤ nat_lit 140737488355328) ∧ ∀ (y : List (ByteArray)), y = h.fst ++ [S339 (ix x0 h.snd).fPrefix.fAddr, S340 (ix x0
 h.snd).fPrefix.fLen, S340 (ix x0 h.snd).fMin, S340 (ix x0 h.snd).fMax, h_1, S340 (ix x0 h.snd).fPref] → y.length = y.length ∧ J y) fun (J : ByteArray → Prop)
 => bif (ix x0 h.snd).fDeny then J (ByteArray.mk #[(49 : UInt8)]) else J (ByteArray.mk #[(48 : UInt8)]) else h.fst = v) ([], (0 : Int))) := by kernel_rfl
end Go.Rx
namespace Go.Rx
open Go.Ab Go.L21
set_option maxRecDepth 100000
set_option maxHeartbeats 20000000
set_option linter.unusedVariables false
/-- interregnum/row.Peer -/
noncomputable def C322 : Cfg S := { P := P7, inl := [], K := [(14, ctr P7 [22] [9] (fun x0 => (some (P314 x0), S314 x0))), (40, ctr P7 [3] [9] (fun x0 => (some (P340 x0), S340 x0))), (45, ctr P7 [40] [22] (fun x0 => (some (P345 x0), S345 x0)))], ann := [] }
abbrev W322 : CT S [9] [42] := (fun x0 => (some (P322 x0), S322 x0))
abbrev Ok322 : Prop := ConOk P7 22 (ctr P7 [42] [9] W322) ∧ ConMon (ctr P7 [42] [9] W322)
theorem q322 (x0 : api_PeerConf) (v : HR S [9]) : (Xf C322 6 (emp 0) 22 (argsA C322 [⟨42, x0⟩]) (emp 0) (fun r _ => isR C322.P [9] v r) (fun _ _ => False)) =
 (((-9223372036854775808 : Int) ≤ x0.fNum ∧ x0.fNum ≤ (9223372036854775807 : Int)) ∧ ((-9223372036854775808 : Int) ≤ x0.fAS ∧ x0.fAS ≤ (9223372036854775807 :
 Int)) ∧ ((-9223372036854775808 : Int) ≤ (↑x0.fIn.length : Int) ∧ (↑x0.fIn.length : Int) ≤ (9223372036854775807 : Int)) ∧ (x0.fIn.length ≤ nat_lit 8000 ∧ ∀ (r
 : api_Rule), List.Mem r x0.fIn → ((0 : Int) ≤ r.fPrefix.fAddr ∧ r.fPrefix.fAddr ≤ (4294967295 : Int)) ∧ ((-9223372036854775808 : Int) ≤ r.fPrefix.fLen ∧
 r.fPrefix.fLen ≤ (9223372036854775807 : Int)) ∧ ((-9223372036854775808 : Int) ≤ r.fMin ∧ r.fMin ≤ (9223372036854775807 : Int)) ∧ ((-9223372036854775808 : Int)
 ≤ r.fMax ∧ r.fMax ≤ (9223372036854775807 : Int)) ∧ (-9223372036854775808 : Int) ≤ r.fPref ∧ r.fPref ≤ (9223372036854775807 : Int)) ∧ ([S340 x0.fNum, S340
 x0.fAS, S340 (↑x0.fIn.length : Int)].length = [S340 x0.fNum, S340 x0.fAS, S340 (↑x0.fIn.length : Int)].length ∧ ([S340 x0.fNum, S340 x0.fAS, S340
 (↑x0.fIn.length : Int)].length + (S345 x0.fIn).length) * nat_lit 16 ≤ nat_lit 140737488355328) ∧ ∀ (y : List (ByteArray)), y = [S340 x0.fNum, S340 x0.fAS,
 S340 (↑x0.fIn.length : Int)] ++ S345 x0.fIn → (x0.fOut.length ≤ nat_lit 8000 ∧ ∀ (r : api_Rule), List.Mem r x0.fOut → ((0 : Int) ≤ r.fPrefix.fAddr ∧
 r.fPrefix.fAddr ≤ (4294967295 : Int)) ∧ ((-9223372036854775808 : Int) ≤ r.fPrefix.fLen ∧ r.fPrefix.fLen ≤ (9223372036854775807 : Int)) ∧
 ((-9223372036854775808 : Int) ≤ r.fMin ∧ r.fMin ≤ (9223372036854775807 : Int)) ∧ ((-9223372036854775808 : Int) ≤ r.fMax ∧ r.fMax ≤ (9223372036854775807 :
 Int)) ∧ (-9223372036854775808 : Int) ≤ r.fPref ∧ r.fPref ≤ (9223372036854775807 : Int)) ∧ (y.length = y.length ∧ (y.length + (S345 x0.fOut).length) * nat_lit
 16 ≤ nat_lit 140737488355328) ∧ ∀ (y_1 : List (ByteArray)), y_1 = y ++ S345 x0.fOut → (textsL y_1).length.le (nat_lit 70368744177664) ∧ S314 y_1 = v) := by
 kernel_rfl
end Go.Rx
namespace Go.Rx
open Go.Ab Go.L21
set_option maxRecDepth 100000
set_option maxHeartbeats 20000000
set_option linter.unusedVariables false
/-- interregnum/interregnumref11.Peer -/
noncomputable def C325 : Cfg S := { P := P7, inl := [], K := [(38, ctr P7 [3] [9] (fun x0 => (some (P338 x0), S338 x0))), (17, ctr P7 [22] [9] (fun x0 => (some (P317 x0), S317 x0)))], ann := [(25, [(5, .join [(.sl 3, .own 9)]), (9, .join [(.sl 6, .str)]), (4, .loop [(.sl 3, .own 9), (.sl 5, .int .i64)])])] }
abbrev W325 : CT S [9] [42] := (fun x0 => (some (P325 x0), S325 x0))
abbrev Ok325 : Prop := ConOk P7 25 (ctr P7 [42] [9] W325) ∧ ConMon (ctr P7 [42] [9] W325)
theorem q325 (x0 : api_PeerConf) (v : HR S [9]) : (Xf C325 6 (emp 0) 25 (argsA C325 [⟨42, x0⟩]) (emp 0) (fun r _ => isR C325.P [9] v r) (fun _ _ => False)) =
 (((-9223372036854775808 : Int) ≤ x0.fNum ∧ x0.fNum ≤ (9223372036854775807 : Int)) ∧ ((-9223372036854775808 : Int) ≤ x0.fAS ∧ x0.fAS ≤ (9223372036854775807 :
 Int)) ∧ ((-9223372036854775808 : Int) ≤ (↑x0.fIn.length : Int) ∧ (↑x0.fIn.length : Int) ≤ (9223372036854775807 : Int)) ∧ (nat_lit 0 = nat_lit 0 ∧ (nat_lit 0 +
 x0.fIn.length) * nat_lit 48 ≤ nat_lit 140737488355328) ∧ ∀ (y : List (api_Rule)), y = [] ++ x0.fIn → (y.length = y.length ∧ (y.length + x0.fOut.length) *
 nat_lit 48 ≤ nat_lit 140737488355328) ∧ ∀ (y_1 : List (api_Rule)), y_1 = y ++ x0.fOut → [S338 x0.fNum, S338 x0.fAS, S338 (↑x0.fIn.length : Int)].length =
 [S338 x0.fNum, S338 x0.fAS, S338 (↑x0.fIn.length : Int)].length ∧ LOOP (fun (h : List ByteArray × Int) (J : List ByteArray × Int → Prop) => bif decide (h.snd
 < (↑y_1.length : Int)) then h.fst.length = h.fst.length ∧ JP (fun (h_1 : List ByteArray) => h_1.length = h_1.length ∧ J (h_1, IntKind.i64.wrap (h.snd + (1 :
 Int)))) fun (J : List ByteArray → Prop) => JP (fun (h_1 : ByteArray) => ((0 : Int) ≤ h.snd ∧ h.snd < (↑y_1.length : Int)) ∧ ((0 : Int) ≤ h.snd ∧ h.snd <
 (↑y_1.length : Int)) ∧ ((0 : Int) ≤ h.snd ∧ h.snd < (↑y_1.length : Int)) ∧ ((0 : Int) ≤ h.snd ∧ h.snd < (↑y_1.length : Int)) ∧ ((0 : Int) ≤ h.snd ∧ h.snd <
 (↑y_1.length : Int)) ∧ ((-9223372036854775808 : Int) ≤ IntKind.i64.wrap (ix y_1 h.snd).fPrefix.fAddr ∧ IntKind.i64.wrap (ix y_1 h.snd).fPrefix.fAddr ≤
 (9223372036854775807 : Int)) ∧ ((-9223372036854775808 : Int) ≤ (ix y_1 h.snd).fPrefix.fLen ∧ (ix y_1 h.snd).fPrefix.fLen ≤ (9223372036854775807 : Int)) ∧
 ((-9223372036854775808 : Int) ≤ (ix y_1 h.snd).fMin ∧ (ix y_1 h.snd).fMin ≤ (9223372036854775807 : Int)) ∧ ((-9223372036854775808 : Int) ≤ (ix y_1 h.snd).fMax
 ∧ (ix y_1 h.snd).fMax ≤ (9223372036854775807 : Int)) ∧ ((-9223372036854775808 : Int) ≤ (ix y_1 h.snd).fPref ∧ (ix y_1 h.snd).fPref ≤ (9223372036854775807 :
 Int)) ∧ (h.fst.length = h.fst.length ∧ (h.fst.length + [S338 (IntKind.i64.wrap (ix y_1 h.snd).fPrefix.fAddr), S338 (ix y_1 h.snd).fPrefix.fLen, S338 (ix y_1
 h.snd).fMin, S338 (ix y_1 h.snd).fMax, h_1, S338 (ix y_1 h.snd).fPref].length) * nat_lit 16 ≤ nat_lit 140737488355328) ∧ ∀ (y : List (ByteArray)), y = h.fst
 ++ [S338 (IntKind.i64.wrap (ix y_1 h.snd).fPrefix.fAddr), S338 (ix y_1 h.snd).fPrefix.fLen, S338 (ix y_1 h.snd).fMin, S338 (ix y_1 h.snd).fMax, h_1, S338 (ix
 y_1 h.snd).fPref] → y.length = y.length ∧ J y) fun (J : ByteArray → Prop) => ((0 : Int) ≤ h.snd ∧ h.snd < (↑y_1.length : Int)) ∧ bif (ix y_1 h.snd).fDeny then
 J (ByteArray.mk #[(49 : UInt8)]) else J (ByteArray.mk #[(48 : UInt8)]) else (textsL h.fst).length.le (nat_lit 70368744177664) ∧ S317 h.fst = v) ([S338
 x0.fNum, S338 x0.fAS, S338 (↑x0.fIn.length : Int)], (0 : Int))) := by kernel_rfl
end Go.Rx
namespace Go.Rx
open Go.Ab Go.L21
set_option maxRecDepth 100000
set_option maxHeartbeats 20000000
set_option linter.unusedVariables false
/-- interregnum/interregnumref11.SamePeer -/
noncomputable def C323 : Cfg S := { P := P7, inl := [], K := [(25, ctr P7 [42] [9] (fun x0 => (some (P325 x0), S325 x0)))], ann := [] }
abbrev W323 : CT S [4] [42, 42] := (fun x0 x1 => (some (P323 x0 x1), S323 x0 x1))
abbrev Ok323 : Prop := ConOk P7 23 (ctr P7 [42, 42] [4] W323) ∧ ConMon (ctr P7 [42, 42] [4] W323)
theorem q323 (x0 : api_PeerConf) (x1 : api_PeerConf) (v : HR S [4]) : (Xf C323 6 (emp 0) 23 (argsA C323 [⟨42, x0⟩, ⟨42, x1⟩]) (emp 0) (fun r _ => isR C323.P
 [4] v r) (fun _ _ => False)) = (bif decide ((↑x0.fIn.length : Int) = (↑x1.fIn.length : Int)) then OkP x0 ∧ OkP x1 ∧ ((S325 x0).toList == (S325 x1).toList) = v
 else false = v) := by kernel_rfl
end Go.Rx
/-! A peer as text. -/
namespace Go.Rx
open Go.Ab Go.L21
set_option linter.unusedVariables false
set_option maxRecDepth 100000
theorem JP.of {ι : Type} {rest : ι → Prop} {body : (ι → Prop) → Prop} (I : ι → Prop) (hb : ∀ J : ι → Prop, (∀ y, I y → J y) → body J) (hr : ∀ y, I y → rest y) : JP rest body := ⟨hb rest hr⟩
theorem ixR {l : List api_Rule} {k : Nat} {y : api_Rule} (h : l[k]? = some y) : ix l (k : Int) = y := by
  unfold ix
  rw [Int.toNat_natCast, List.getD_eq_getElem?_getD, h]; rfl
theorem rules_take {l : List api_Rule} {k : Nat} {y : api_Rule} (h : l[k]? = some y) : rulesL (l.take (k + 1)) = rulesL (l.take k) ++ ruleL y := by
  rw [List.take_add_one, h]; simp [rulesL]
theorem rules_len (l : List api_Rule) : (rulesL l).length = 6 * l.length := by
  induction l with
  | nil => rfl
  | cons x r ih =>
    have e : rulesL (x :: r) = ruleL x ++ rulesL r := rfl
    rw [e, List.length_append, ih, List.length_cons]
    show 6 + 6 * r.length = _
    omega
theorem rules_app (a b : List api_Rule) : rulesL (a ++ b) = rulesL a ++ rulesL b := List.flatMap_append
theorem run345 : RunC C345 6 45 [22] [40] W345 [] := by
  intro (l : List api_Rule) hx hp
  obtain ⟨h1, h2⟩ : P345 l := hp _ rfl
  refine of_eq (q345 l _) ?_
  refine LOOP.of (fun y => ∃ k : Nat, y = (rulesL (l.take k), (k : Int)) ∧ k ≤ l.length) (fun y => l.length - y.2.toNat) ⟨0, rfl, by omega⟩ ?_
  rintro _ ⟨k, rfl, hk⟩ J hJ
  dsimp only
  refine bif_of (fun hc => ?_) (fun hc => ?_)
  · have hc := of_decide_eq_true hc
    have hkl : k < l.length := by omega
    have hy : l[k]? = some l[k] := List.getElem?_eq_getElem hkl
    obtain ⟨r1, r2, r3, r4, r5⟩ := h2 _ (List.getElem_mem hkl)
    generalize l[k] = y at hy r1 r2 r3 r4 r5
    rw [ixR hy]
    have ht := rules_take hy
    have hl : (rulesL (l.take k)).length = 6 * k := by rw [rules_len, List.length_take]; omega
    refine ⟨rfl, JP.of (fun z => z = rulesL (l.take (k + 1))) (fun J1 hJ1 => ⟨⟨by omega, hc⟩, ?_⟩) ?_⟩
    · refine JP.of (fun z => z = b2 y.fDeny) (fun J2 hJ2 => bif_of (fun h => hJ2 _ ?_) (fun h => hJ2 _ ?_)) ?_
      · rw [h]; rfl
      · rw [h]; rfl
      · rintro z hz
        refine ⟨r1, r2, r3, r4, r5, ⟨rfl, ?_⟩, fun w hw => ⟨rfl, hJ1 _ ?_⟩⟩
        · show (_ + 6) * 16 ≤ 140737488355328
          omega
        · rw [hw, hz, ht]; rfl
    · rintro z hz
      refine ⟨rfl, hJ _ ⟨k + 1, ?_, by omega⟩ ?_⟩
      · rw [hz, wrap64 (by omega)]; rfl
      · show l.length - (IntKind.i64.wrap ((k : Int) + 1)).toNat < l.length - ((k : Nat) : Int).toNat
        rw [wrap64 (by omega)]; omega
  · have hc := of_decide_eq_false hc
    have : k = l.length := by omega
    rw [this, List.take_length]
    rfl
theorem ok345 : Ok345 := by
  refine con_ok (C := C345) ?_ mx7 (by kernel_rfl) run345
  exact kok_cons ok339 (kok_cons ok340 kok_nil)
theorem b2_len (b : Bool) : (textL (b2 b)).length ≤ 43 := by
  cases b
  · show (textL ⟨#[48]⟩).length ≤ 43
    have := itoa_len (n := (1 : Int)) ⟨by omega, by omega⟩
    rw [textL, List.length_append, List.length_cons]
    show (Lib.itoa 1).length + 2 ≤ 43
    omega
  · show (textL ⟨#[49]⟩).length ≤ 43
    have := itoa_len (n := (1 : Int)) ⟨by omega, by omega⟩
    rw [textL, List.length_append, List.length_cons]
    show (Lib.itoa 1).length + 2 ≤ 43
    omega
theorem texts_app (a b : List ByteArray) : textsL (a ++ b) = textsL a ++ textsL b := List.flatMap_append
theorem rules_texts (l : List api_Rule) (h : ∀ r ∈ l, okRule r) : (textsL (rulesL l)).length ≤ 258 * l.length := by
  induction l with
  | nil => exact Nat.zero_le _
  | cons x r ih =>
    have e : rulesL (x :: r) = ruleL x ++ rulesL r := rfl
    have := ih fun y hy => h y (List.mem_cons_of_mem _ hy)
    obtain ⟨h1, h2, h3, h4, h5⟩ := h x List.mem_cons_self
    have h1 := text_len (p333 h1)
    have h2 := text_len h2
    have h3 := text_len h3
    have h4 := text_len h4
    have h5 := text_len h5
    have h6 := b2_len x.fDeny
    rw [e, texts_app, List.length_append, List.length_cons]
    have : (textsL (ruleL x)).length ≤ 258 := by
      simp only [textsL, ruleL, List.flatMap_cons, List.flatMap_nil, List.length_append, List.length_nil]
      omega
    omega
theorem peer_len {p : api_PeerConf} (h : okPeer p) : (textsL (peerL p)).length ≤ 6000000 := by
  obtain ⟨h1, h2, h3, h4, h5, h6⟩ := h
  have a1 := text_len h1
  have a2 := text_len h2
  have a3 := text_len (n := (p.fIn.length : Int)) ⟨by omega, by omega⟩
  have a4 := rules_texts _ h5
  have a5 := rules_texts _ h6
  unfold peerL
  rw [texts_app, texts_app, List.length_append, List.length_append]
  have : (textsL [S333 p.fNum, S333 p.fAS, S333 p.fIn.length]).length ≤ 129 := by
    simp only [textsL, List.flatMap_cons, List.flatMap_nil, List.length_append, List.length_nil]
    omega
  omega
theorem run322 : RunC C322 6 22 [9] [42] W322 [] := by
  intro (p : api_PeerConf) hx hp
  obtain ⟨hp⟩ : OkP p := hp _ rfl
  have hl := peer_len hp
  obtain ⟨h1, h2, h3, h4, h5, h6⟩ := hp
  have l1 : (S345 p.fIn).length = 6 * p.fIn.length := rules_len _
  have l2 : (S345 p.fOut).length = 6 * p.fOut.length := rules_len _
  refine of_eq (q322 p _) ⟨h1, h2, ⟨by omega, by omega⟩, ⟨h3, h5⟩, ⟨rfl, ?_⟩, fun y hy => ⟨⟨h4, h6⟩, ⟨rfl, ?_⟩, fun z hz => ?_⟩⟩
  · show (3 + _) * 16 ≤ 140737488355328
    omega
  · have : y.length = 3 + 6 * p.fIn.length := by rw [hy, List.length_append, l1]; rfl
    show (_ + _) * 16 ≤ 140737488355328
    omega
  · have e : z = peerL p := by rw [hz, hy]; rfl
    subst e
    refine ⟨?_, rfl⟩
    show _ ≤ 70368744177664
    omega
theorem ok322 : Ok322 := by
  refine con_ok (C := C322) ?_ mx7 (by kernel_rfl) run322
  exact kok_cons ok314 (kok_cons ok340 (kok_cons ok345 kok_nil))
theorem run325 : RunC C325 6 25 [9] [42] W325 [] := by
  intro (p : api_PeerConf) hx hp
  obtain ⟨hp⟩ : OkP p := hp _ rfl
  have hpl := peer_len hp
  obtain ⟨h1, h2, h3, h4, h5, h6⟩ := hp
  refine of_eq (q325 p _) ⟨h1, h2, ⟨by omega, by omega⟩, ⟨rfl, by show (0 + _) * 48 ≤ 140737488355328; omega⟩, fun y hy => ?_⟩
  have hy : y = p.fIn := hy
  subst hy
  refine ⟨⟨rfl, by show (_ + _) * 48 ≤ 140737488355328; omega⟩, fun l hl => ⟨rfl, ?_⟩⟩
  have hll : l.length ≤ 16000 := by rw [hl, List.length_append]; omega
  have hlo : ∀ r ∈ l, okRule r := fun r hr => by
    rw [hl] at hr
    exact (List.mem_append.1 hr).elim (h5 r) (h6 r)
  refine LOOP.of (fun y => ∃ k : Nat, y = ([S333 p.fNum, S333 p.fAS, S333 p.fIn.length] ++ rulesL (l.take k), (k : Int)) ∧ k ≤ l.length) (fun y => l.length - y.2.toNat) ⟨0, rfl, by omega⟩ ?_
  rintro _ ⟨k, rfl, hk⟩ J hJ
  dsimp only
  refine bif_of (fun hc => ?_) (fun hc => ?_)
  · have hc := of_decide_eq_true hc
    have hkl : k < l.length := by omega
    have hy : l[k]? = some l[k] := List.getElem?_eq_getElem hkl
    obtain ⟨r1, r2, r3, r4, r5⟩ := hlo _ (List.getElem_mem hkl)
    generalize l[k] = y at hy r1 r2 r3 r4 r5
    rw [ixR hy, wrap64 (n := y.fPrefix.fAddr) (by omega)]
    have ht := rules_take hy
    have hl : (rulesL (l.take k)).length = 6 * k := by rw [rules_len, List.length_take]; omega
    have hb : (0 : Int) ≤ (k : Int) ∧ (k : Int) < (l.length : Int) := ⟨by omega, hc⟩
    refine ⟨rfl, JP.of (fun z => z = [S333 p.fNum, S333 p.fAS, S333 p.fIn.length] ++ rulesL (l.take (k + 1))) (fun J1 hJ1 => ?_) ?_⟩
    · refine JP.of (fun z => z = b2 y.fDeny) (fun J2 hJ2 => ⟨hb, bif_of (fun h => hJ2 _ ?_) (fun h => hJ2 _ ?_)⟩) ?_
      · rw [h]; rfl
      · rw [h]; rfl
      · rintro z hz
        refine ⟨hb, hb, hb, hb, hb, p333 r1, r2, r3, r4, r5, ⟨rfl, ?_⟩, fun w hw => ⟨rfl, hJ1 _ ?_⟩⟩
        · rw [List.length_append, hl]
          show (3 + 6 * k + 6) * 16 ≤ 140737488355328
          omega
        · rw [hw, hz, ht, ← List.append_assoc]; rfl
    · rintro z hz
      refine ⟨rfl, hJ _ ⟨k + 1, ?_, by omega⟩ ?_⟩
      · rw [hz, wrap64 (by omega)]; rfl
      · show l.length - (IntKind.i64.wrap ((k : Int) + 1)).toNat < l.length - ((k : Nat) : Int).toNat
        rw [wrap64 (by omega)]; omega
  · have hc := of_decide_eq_false hc
    have : k = l.length := by omega
    have e : [S333 p.fNum, S333 p.fAS, S333 p.fIn.length] ++ rulesL (l.take k) = peerL p := by
      rw [this, List.take_length, hl, rules_app, ← List.append_assoc]; rfl
    rw [e]
    refine ⟨?_, rfl⟩
    show _ ≤ 70368744177664
    omega
theorem ok325 : Ok325 := by
  refine con_ok (C := C325) ?_ mx7 (by kernel_rfl) run325
  exact kok_cons ok338 (kok_cons ok317 kok_nil)
theorem run323 : RunC C323 6 23 [4] [42, 42] W323 [] := by
  intro (p : api_PeerConf) hx (q : api_PeerConf) hy hp
  obtain ⟨hp, hq⟩ : OkP p ∧ OkP q := hp _ rfl
  refine of_eq (q323 p q _) (bif_of (fun hc => ⟨hp, hq, ?_⟩) (fun hc => ?_))
  · have hc : p.fIn.length = q.fIn.length := by have := of_decide_eq_true hc; omega
    show _ = S323 p q
    unfold S323
    rw [decide_eq_true hc, Bool.true_and]
  · have hc : ¬ p.fIn.length = q.fIn.length := by have := of_decide_eq_false hc; omega
    show _ = S323 p q
    unfold S323
    rw [decide_eq_false hc, Bool.false_and]
theorem ok323 : Ok323 := by
  refine con_ok (C := C323) ?_ mx7 (by kernel_rfl) run323
  exact kok_cons ok325 kok_nil
end Go.Rx
namespace Go.Rx
open Go.Ab Go.L21
set_option maxRecDepth 100000
set_option maxHeartbeats 20000000
set_option linter.unusedVariables false
noncomputable def C349 (k : Nat) : Cfg S := { P := P7, inl := [], K := [(49, ctr P7 [59] [9] (fun x0 => (some (DB k x0), S349 x0)))], ann := [] }
abbrev WE (k : Nat) : CT S [9] [59] := (fun x0 => (some (DB k x0), S349 x0))
abbrev OkE (k : Nat) : Prop := ConOk P7 49 (ctr P7 [59] [9] (WE k)) ∧ ConMon (ctr P7 [59] [9] (WE k))
theorem q349 (k : Nat) (x0 : Int) (v : HR S [9]) : (Xf (C349 k) 6 (emp 0) 49 (argsA (C349 k) [⟨59, x0⟩]) (emp 0) (fun r _ => isR (C349 k).P [9] v r) (fun _ _
 => False)) = (bif decide (x0 < (10 : Int)) then bsOf (List.map (fun (x : Int) => x) [IntKind.u8.wrap ((48 : Int) + IntKind.u8.wrap x0)]) = v else DB k
 (IntKind.u64.wrap (x0.tdiv (10 : Int))) ∧ (S349 (IntKind.u64.wrap (x0.tdiv (10 : Int)))).size + (bsOf (List.map (fun (x : Int) => x) [IntKind.u8.wrap ((48 :
 Int) + IntKind.u8.wrap (x0.tmod (10 : Int)))])).size ≤ nat_lit 9223372036854775807 ∧ S349 (IntKind.u64.wrap (x0.tdiv (10 : Int))) ++ bsOf (List.map (fun (x :
 Int) => x) [IntKind.u8.wrap ((48 : Int) + IntKind.u8.wrap (x0.tmod (10 : Int)))]) = v) := by kernel_rfl
end Go.Rx
namespace Go.Rx
open Go.Ab Go.L21
set_option maxRecDepth 100000
set_option maxHeartbeats 20000000
set_option linter.unusedVariables false
/-- interregnum/script.line -/
noncomputable def C347 : Cfg S := { P := P7, inl := [], K := [(33, ctr P7 [3] [9] (fun x0 => (some (P333 x0), S333 x0))), (56, ctr P7 [59, 3] [9] (fun x0 x1 => (some (P356 x0 x1), S356 x0 x1))), (22, ctr P7 [42] [9] (fun x0 => (some (P322 x0), S322 x0))), (59, ctr P7 [9] [9] (fun x0 => (some (P359 x0), S359 x0))), (60, ctr P7 [22, 9] [9] (fun x0 x1 => (some (P360 x0 x1), S360 x0 x1)))], ann := [] }
abbrev W347 : CT S [9] [61] := (fun x0 => (some (P347 x0), S347 x0))
abbrev Ok347 : Prop := ConOk P7 47 (ctr P7 [61] [9] W347) ∧ ConMon (ctr P7 [61] [9] W347)
theorem q347 (x0 : api_Step) (v : HR S [9]) : (Xf C347 6 (emp 0) 47 (argsA C347 [⟨61, x0⟩]) (emp 0) (fun r _ => isR C347.P [9] v r) (fun _ _ => False)) =
 (((-9223372036854775808 : Int) ≤ x0.fKind ∧ x0.fKind ≤ (9223372036854775807 : Int)) ∧ ((-9223372036854775808 : Int) ≤ x0.fA ∧ x0.fA ≤ (9223372036854775807 :
 Int)) ∧ ((-9223372036854775808 : Int) ≤ x0.fB ∧ x0.fB ≤ (9223372036854775807 : Int)) ∧ ((10 : Int) = (10 : Int) ∧ (0 : Int) ≤ x0.fKeep ∧ x0.fKeep <
 (18446744073709551616 : Int)) ∧ ((10 : Int) = (10 : Int) ∧ (0 : Int) ≤ IntKind.u64.wrap x0.fPrefix.fAddr ∧ IntKind.u64.wrap x0.fPrefix.fAddr <
 (18446744073709551616 : Int)) ∧ ((-9223372036854775808 : Int) ≤ x0.fPrefix.fLen ∧ x0.fPrefix.fLen ≤ (9223372036854775807 : Int)) ∧ ((10 : Int) = (10 : Int) ∧
 (0 : Int) ≤ IntKind.u64.wrap x0.fNext ∧ IntKind.u64.wrap x0.fNext < (18446744073709551616 : Int)) ∧ (bsOf (List.map (fun (x : Int) => x) x0.fData)).size.le
 (nat_lit 1099511627776) ∧ OkP x0.fPeer ∧ (S322 x0.fPeer).size.le (nat_lit 1099511627776) ∧ ([S333 x0.fKind, S333 x0.fA, S333 x0.fB, S356 x0.fKeep (10 : Int),
 S356 (IntKind.u64.wrap x0.fPrefix.fAddr) (10 : Int), S333 x0.fPrefix.fLen, S356 (IntKind.u64.wrap x0.fNext) (10 : Int), S359 (bsOf (List.map (fun (x : Int) =>
 x) x0.fData)), S359 (S322 x0.fPeer)].length ≤ nat_lit 140737488355328 ∧ (joinS [S333 x0.fKind, S333 x0.fA, S333 x0.fB, S356 x0.fKeep (10 : Int), S356
 (IntKind.u64.wrap x0.fPrefix.fAddr) (10 : Int), S333 x0.fPrefix.fLen, S356 (IntKind.u64.wrap x0.fNext) (10 : Int), S359 (bsOf (List.map (fun (x : Int) => x)
 x0.fData)), S359 (S322 x0.fPeer)] (ByteArray.mk #[(32 : UInt8)])).length ≤ nat_lit 140737488355328) ∧ (S360 [S333 x0.fKind, S333 x0.fA, S333 x0.fB, S356
 x0.fKeep (10 : Int), S356 (IntKind.u64.wrap x0.fPrefix.fAddr) (10 : Int), S333 x0.fPrefix.fLen, S356 (IntKind.u64.wrap x0.fNext) (10 : Int), S359 (bsOf
 (List.map (fun (x : Int) => x) x0.fData)), S359 (S322 x0.fPeer)] (ByteArray.mk #[(32 : UInt8)])).size + nat_lit 1 ≤ nat_lit 9223372036854775807 ∧ S360 [S333
 x0.fKind, S333 x0.fA, S333 x0.fB, S356 x0.fKeep (10 : Int), S356 (IntKind.u64.wrap x0.fPrefix.fAddr) (10 : Int), S333 x0.fPrefix.fLen, S356 (IntKind.u64.wrap
 x0.fNext) (10 : Int), S359 (bsOf (List.map (fun (x : Int) => x) x0.fData)), S359 (S322 x0.fPeer)] (ByteArray.mk #[(32 : UInt8)]) ++ ByteArray.mk #[(10 :
 UInt8)] = v) := by kernel_rfl
end Go.Rx
namespace Go.Rx
open Go.Ab Go.L21
set_option maxRecDepth 100000
set_option maxHeartbeats 20000000
set_option linter.unusedVariables false
/-- interregnum/interregnumlaw24.text -/
noncomputable def C330 : Cfg S := { P := P7, inl := [], K := [(38, ctr P7 [3] [9] (fun x0 => (some (P338 x0), S338 x0))), (25, ctr P7 [42] [9] (fun x0 => (some (P325 x0), S325 x0))), (31, ctr P7 [9] [9] (fun x0 => (some (P331 x0), S331 x0))), (49, ctr P7 [59] [9] (fun x0 => (some (P349 x0), S349 x0)))], ann := [(30, [(3, .loop [(.sl 3, .str), (.sl 4, .int .i64)])])] }
abbrev W330 : CT S [9] [49] := (fun x0 => (some (P330 x0), S330 x0))
abbrev Ok330 : Prop := ConOk P7 30 (ctr P7 [49] [9] W330) ∧ ConMon (ctr P7 [49] [9] W330)
theorem q330 (x0 : List api_Step) (v : HR S [9]) : (Xf C330 6 (emp 0) 30 (argsA C330 [⟨49, x0⟩]) (emp 0) (fun r _ => isR C330.P [9] v r) (fun _ _ => False)) =
 (LOOP (fun (h : ByteArray × Int) (J : ByteArray × Int → Prop) => bif decide (h.snd < (↑x0.length : Int)) then ((0 : Int) ≤ h.snd ∧ h.snd < (↑x0.length : Int))
 ∧ ((-9223372036854775808 : Int) ≤ (ix x0 h.snd).fKind ∧ (ix x0 h.snd).fKind ≤ (9223372036854775807 : Int)) ∧ h.fst.size + (S338 (ix x0 h.snd).fKind).size ≤
 nat_lit 9223372036854775807 ∧ (h.fst ++ S338 (ix x0 h.snd).fKind).size + nat_lit 1 ≤ nat_lit 9223372036854775807 ∧ ((-9223372036854775808 : Int) ≤ (ix x0
 h.snd).fA ∧ (ix x0 h.snd).fA ≤ (9223372036854775807 : Int)) ∧ (h.fst ++ S338 (ix x0 h.snd).fKind ++ ByteArray.mk #[(32 : UInt8)]).size + (S338 (ix x0
 h.snd).fA).size ≤ nat_lit 9223372036854775807 ∧ (h.fst ++ S338 (ix x0 h.snd).fKind ++ ByteArray.mk #[(32 : UInt8)] ++ S338 (ix x0 h.snd).fA).size + nat_lit 1
 ≤ nat_lit 9223372036854775807 ∧ ((-9223372036854775808 : Int) ≤ (ix x0 h.snd).fB ∧ (ix x0 h.snd).fB ≤ (9223372036854775807 : Int)) ∧ (h.fst ++ S338 (ix x0
 h.snd).fKind ++ ByteArray.mk #[(32 : UInt8)] ++ S338 (ix x0 h.snd).fA ++ ByteArray.mk #[(32 : UInt8)]).size + (S338 (ix x0 h.snd).fB).size ≤ nat_lit
 9223372036854775807 ∧ (h.fst ++ S338 (ix x0 h.snd).fKind ++ ByteArray.mk #[(32 : UInt8)] ++ S338 (ix x0 h.snd).fA ++ ByteArray.mk #[(32 : UInt8)] ++ S338 (ix
 x0 h.snd).fB).size + nat_lit 1 ≤ nat_lit 9223372036854775807 ∧ DB (nat_lit 20) (ix x0 h.snd).fKeep ∧ (h.fst ++ S338 (ix x0 h.snd).fKind ++ ByteArray.mk #[(32
 : UInt8)] ++ S338 (ix x0 h.snd).fA ++ ByteArray.mk #[(32 : UInt8)] ++ S338 (ix x0 h.snd).fB ++ ByteArray.mk #[(32 : UInt8)]).size + (S349 (ix x0
 h.snd).fKeep).size ≤ nat_lit 9223372036854775807 ∧ (h.fst ++ S338 (ix x0 h.snd).fKind ++ ByteArray.mk #[(32 : UInt8)] ++ S338 (ix x0 h.snd).fA ++ ByteArray.mk
 #[(32 : UInt8)] ++ S338 (ix x0 h.snd).fB ++ ByteArray.mk #[(32 : UInt8)] ++ S349 (ix x0 h.snd).fKeep).size + nat_lit 1 ≤ nat_lit 9223372036854775807 ∧
 ((-9223372036854775808 : Int) ≤ IntKind.i64.wrap (ix x0 h.snd).fPrefix.fAddr ∧ IntKind.i64.wrap (ix x0 h.snd).fPrefix.fAddr ≤ (9223372036854775807 : Int)) ∧
 (h.fst ++ S338 (ix x0 h.snd).fKind ++ ByteArray.mk #[(32 : UInt8)] ++ S338 (ix x0 h.snd).fA ++ ByteArray.mk #[(32 : UInt8)] ++ S338 (ix x0 h.snd).fB ++
 ByteArray.mk #[(32 : UInt8)] ++ S349 (ix x0 h.snd).fKeep ++ ByteArray.mk #[(32 : UInt8)]).size + (S338 (IntKind.i64.wrap (ix x0 h.snd).fPrefix.fAddr)).size ≤
 nat_lit 9223372036854775807 ∧ (h.fst ++ S338 (ix x0 h.snd).fKind ++ ByteArray.mk #[(32 : UInt8)] ++ S338 (ix x0 h.snd).fA ++ ByteArray.mk #[(32 : UInt8)] ++
 S338 (ix x0 h.snd).fB ++ ByteArray.mk #[(32 : UInt8)] ++ S349 (ix x0 h.snd).fKeep ++ ByteArray.mk #[(32 : UInt8)] ++ S338 (IntKind.i64.wrap (ix x0
 h.snd).fPrefix.fAddr)).size + nat_lit 1 ≤ nat_lit 9223372036854775807 ∧ ((-9223372036854775808 : Int) ≤ (ix x0 h.snd).fPrefix.fLen ∧ (ix x0
 h.snd).fPrefix.fLen ≤ (9223372036854775807 : Int)) ∧ (h.fst ++ S338 (ix x0 h.snd).fKind ++ ByteArray.mk #[(32 : UInt8)] ++ S338 (ix x0 h.snd).fA ++
 ByteArray.mk #[(32 : UInt8)] ++ S338 (ix x0 h.snd).fB ++ ByteArray.mk #[(32 : UInt8)] ++ S349 (ix x0 h.snd).fKeep ++ ByteArray.mk #[(32 : UInt8)] ++ S338
 (IntKind.i64.wrap (ix x0 h.snd).fPrefix.fAddr) ++ ByteArray.mk #[(32 : UInt8)]).size + (S338 (ix x0 h.snd).fPrefix.fLen).size ≤ nat_lit 9223372036854775807 ∧
 (h.fst ++ S338 (ix x0 h.snd).fKind ++ ByteArray.mk #[(32 : UInt8)] ++ S338 (ix x0 h.snd).fA ++ ByteArray.mk #[(32 : UInt8)] ++ S338 (ix x0 h.snd).fB ++
 ByteArray.mk #[(32 : UInt8)] ++ S349 (ix x0 h.snd).fKeep ++ ByteArray.mk #[(32 : UInt8)] ++ S338 (IntKind.i64.wrap (ix x0 h.snd).fPrefix.fAddr) ++
 ByteArray.mk #[(32 : UInt8)] ++ S338 (ix x0 h.snd).fPrefix.fLen).size + nat_lit 1 ≤ nat_lit 9223372036854775807 ∧ ((-9223372036854775808 : Int) ≤
 IntKind.i64.wrap (ix x0 h.snd).fNext ∧ IntKind.i64.wrap (ix x0 h.snd).fNext ≤ (9223372036854775807 : Int)) ∧ (h.fst ++ S338 (ix x0 h.snd).fKind ++
 ByteArray.mk #[(32 : UInt8)] ++ S338 (ix x0 h.snd).fA ++ ByteArray.mk #[(32 : UInt8)] ++ S338 (ix x0 h.snd).fB ++ ByteArray.mk #[(32 : UInt8)] ++ S349 (ix x0
 h.snd).fKeep ++ ByteArray.mk #[(32 : UInt8)] ++ S338 (IntKind.i64.wrap (ix x0 h.snd).fPrefix.fAddr) ++ ByteArray.mk #[(32 : UInt8)] ++ S338 (ix x0
 h.snd).fPrefix.fLen ++ ByteArray.mk #[(32 : UInt8)]).size + (S338 (IntKind.i64.wrap (ix x0 h.snd).fNext)).size ≤ nat_lit 9223372036854775807 ∧ (h.fst ++ S338
 (ix x0 h.snd).fKind ++ ByteArray.mk #[(32 : UInt8)] ++ S338 (ix x0 h.snd).fA ++ ByteArray.mk #[(32 : UInt8)] ++ S338 (ix x0 h.snd).fB ++ ByteArray.mk #[(32 :
 UInt8)] ++ S349 (ix x0 h.snd).fKeep ++ ByteArray.mk #[(32 : UInt8)] ++ S338 (IntKind.i64.wrap (ix x0 h.snd).fPrefix.fAddr) ++ ByteArray.mk #[(32 : UInt8)] ++
 S338 (ix x0 h.snd).fPrefix.fLen ++ ByteArray.mk #[(32 : UInt8)] ++ S338 (IntKind.i64.wrap (ix x0 h.snd).fNext)).size + nat_lit 2 ≤ nat_lit 9223372036854775807
 ∧ (bsOf (List.map (fun (x : Int) => x) (ix x0 h.snd).fData)).size.le (nat_lit 1099511627776) ∧ (h.fst ++ S338 (ix x0 h.snd).fKind ++ ByteArray.mk #[(32 :
 UInt8)] ++ S338 (ix x0 h.snd).fA ++ ByteArray.mk #[(32 : UInt8)] ++ S338 (ix x0 h.snd).fB ++ ByteArray.mk #[(32 : UInt8)] ++ S349 (ix x0 h.snd).fKeep ++
 ByteArray.mk #[(32 : UInt8)] ++ S338 (IntKind.i64.wrap (ix x0 h.snd).fPrefix.fAddr) ++ ByteArray.mk #[(32 : UInt8)] ++ S338 (ix x0 h.snd).fPrefix.fLen ++
 ByteArray.mk #[(32 : UInt8)] ++ S338 (IntKind.i64.wrap (ix x0 h.snd).fNext) ++ ByteArray.mk #[(32 : UInt8), (120 : UInt8)]).size + (S331 (bsOf (List.map (fun
 (x : Int) => x) (ix x0 h.snd).fData))).size ≤ nat_lit 9223372036854775807 ∧ (h.fst ++ S338 (ix x0 h.snd).fKind ++ ByteArray.mk #[(32 : UInt8)] ++ S338 (ix x0
 h.snd).fA ++ ByteArray.mk #[(32 : UInt8)] ++ S338 (ix x0 h.snd).fB ++ ByteArray.mk #[(32 : UInt8)] ++ S349 (ix x0 h.snd).fKeep ++ ByteArray.mk #[(32 : UInt8)]
 ++ S338 (IntKind.i64.wrap (ix x0 h.snd).fPrefix.fAddr) ++ ByteArray.mk #[(32 : UInt8)] ++ S338 (ix x0 h.snd).fPrefix.fLen ++ ByteArray.mk #[(32 : UInt8)] ++
 S338 (IntKind.i64.wrap (ix x0 h.snd).fNext) ++ ByteArray.mk #[(32 : UInt8), (120 : UInt8)] ++ S331 (bsOf (List.map (fun (x : Int) => x) (ix x0
 h.snd).fData))).size + nat_lit 2 ≤ nat_lit 9223372036854775807 ∧ OkP (ix x0 h.snd).fPeer ∧ (S325 (ix x0 h.snd).fPeer).size.le (nat_lit 1099511627776) ∧ (h.fst
 ++ S338 (ix x0 h.snd).fKind ++ ByteArray.mk #[(32 : UInt8)] ++ S338 (ix x0 h.snd).fA ++ ByteArray.mk #[(32 : UInt8)] ++ S338 (ix x0 h.snd).fB ++ ByteArray.mk
 #[(32 : UInt8)] ++ S349 (ix x0 h.snd).fKeep ++ ByteArray.mk #[(32 : UInt8)] ++ S338 (IntKind.i64.wrap (ix x0 h.snd).fPrefix.fAddr) ++ ByteArray.mk #[(32 :
 UInt8)] ++ S338 (ix x0 h.snd).fPrefix.fLen ++ ByteArray.mk #[(32 : UInt8)] ++ S338 (IntKind.i64.wrap (ix x0 h.snd).fNext) ++ ByteArray.mk #[(32 : UInt8), (120
 : UInt8)] ++ S331 (bsOf (List.map (fun (x : Int) => x) (ix x0 h.snd).fData)) ++ ByteArray.mk #[(32 : UInt8), (120 : UInt8)]).size + (S331 (S325 (ix x0
 h.snd).fPeer)).size ≤ nat_lit 9223372036854775807 ∧ (h.fst ++ S338 (ix x0 h.snd).fKind ++ ByteArray.mk #[(32 : UInt8)] ++ S338 (ix x0 h.snd).fA ++
 ByteArray.mk #[(32 : UInt8)] ++ S338 (ix x0 h.snd).fB ++ ByteArray.mk #[(32 : UInt8)] ++ S349 (ix x0 h.snd).fKeep ++ ByteArray.mk #[(32 : UInt8)] ++ S338
 (IntKind.i64.wrap (ix x0 h.snd).fPrefix.fAddr) ++ ByteArray.mk #[(32 : UInt8)] ++ S338 (ix x0 h.snd).fPrefix.fLen ++ ByteArray.mk #[(32 : UInt8)] ++ S338
 (IntKind.i64.wrap (ix x0 h.snd).fNext) ++ ByteArray.mk #[(32 : UInt8), (120 : UInt8)] ++ S331 (bsOf (List.map (fun (x : Int) => x) (ix x0 h.snd).fData)) ++
 ByteArray.mk #[(32 : UInt8), (120 : UInt8)] ++ S331 (S325 (ix x0 h.snd).fPeer)).size + nat_lit 1 ≤ nat_lit 9223372036854775807 ∧ J (h.fst ++ S338 (ix x0
 h.snd).fKind ++ ByteArray.mk #[(32 : UInt8)] ++ S338 (ix x0 h.snd).fA ++ ByteArray.mk #[(32 : UInt8)] ++ S338 (ix x0 h.snd).fB ++ ByteArray.mk #[(32 : UInt8)]
 ++ S349 (ix x0 h.snd).fKeep ++ ByteArray.mk #[(32 : UInt8)] ++ S338 (IntKind.i64.wrap (ix x0 h.snd).fPrefix.fAddr) ++ ByteArray.mk #[(32 : UInt8)] ++ S338 (ix
 x0 h.snd).fPrefix.fLen ++ ByteArray.mk #[(32 : UInt8)] ++ S338 (IntKind.i64.wrap (ix x0 h.snd).fNext) ++ ByteArray.mk #[(32 : UInt8), (120 : UInt8)] ++ S331
 (bsOf (List.map (fun (x : Int) => x) (ix x0 h.snd).fData)) ++ ByteArray.mk #[(32 : UInt8), (120 : UInt8)] ++ S331 (S325 (ix x0 h.snd).fPeer) ++ ByteArray.mk
 #[(10 : UInt8)], IntKind.i64.wrap (h.snd + (1 : Int))) else h.fst = v) (ByteArray.mk #[], (0 : Int))) := by kernel_rfl
end Go.Rx
namespace Go.Rx
open Go.Ab Go.L21
set_option maxRecDepth 100000
set_option maxHeartbeats 20000000
set_option linter.unusedVariables false
/-- interregnum/interregnumlaw24.small -/
noncomputable def C326 : Cfg S := { P := P7, inl := [], K := [], ann := [(26, [(3, .loop [(.sl 3, .int .i64), (.sl 4, .int .i64)])])] }
abbrev W326 : CT S [4] [49] := (fun x0 => (some (P326 x0), S326 x0))
abbrev Ok326 : Prop := ConOk P7 26 (ctr P7 [49] [4] W326) ∧ ConMon (ctr P7 [49] [4] W326)
theorem q326 (x0 : List api_Step) (v : HR S [4]) : (Xf C326 6 (emp 0) 26 (argsA C326 [⟨49, x0⟩]) (emp 0) (fun r _ => isR C326.P [4] v r) (fun _ _ => False)) =
 (LOOP (fun (h : Int × Int) (J : Int × Int → Prop) => bif decide (h.snd < (↑x0.length : Int)) && decide (h.fst < (3000 : Int)) then ((0 : Int) ≤ h.snd ∧ h.snd
 < (↑x0.length : Int)) ∧ ((0 : Int) ≤ h.snd ∧ h.snd < (↑x0.length : Int)) ∧ ((0 : Int) ≤ h.snd ∧ h.snd < (↑x0.length : Int)) ∧ J (IntKind.i64.wrap
 (IntKind.i64.wrap (h.fst + (↑(ix x0 h.snd).fData.length : Int)) + IntKind.i64.wrap ((50 : Int) * IntKind.i64.wrap ((↑(ix x0 h.snd).fPeer.fIn.length : Int) +
 (↑(ix x0 h.snd).fPeer.fOut.length : Int)))), IntKind.i64.wrap (h.snd + (1 : Int))) else (decide (h.fst < (3000 : Int)) && decide ((↑x0.length : Int) < (60 :
 Int))) = v) ((↑x0.length : Int), (0 : Int))) := by kernel_rfl
end Go.Rx
namespace Go.Proofs
open Go.Shelf
def Tryd.lays156_ren : Go.Shelf.Ren := ⟨fun | 156 => 60 | 165 => 73 | 166 => 32 | 169 => 35 | 240 => 50 | 241 => 88 | 276 => 63 | 277 => 100 | n => n, fun | 0 => 0 | 3 => 3 | 4 => 4 | 5 => 5 | 9 => 9 | 20 => 20 | 31 => 22 | 37 => 58 | 70 => 63 | 72 => 65 | 75 => 67 | 76 => 68 | 80 => 72 | 127 => 91 | 164 => 102 | n => n, fun | n => n⟩
theorem Tryd.lays156 : Go.Proofs.Lays.n156 Tryd.prog Tryd.lays156_ren := {
  mixed := by kernel_rfl
  f156 := Tryd.func60.trans (congrArg some (by kernel_rfl))
  f165 := Tryd.func73.trans (congrArg some (by kernel_rfl))
  f166 := Tryd.func32.trans (congrArg some (by kernel_rfl))
  f169 := Tryd.func35.trans (congrArg some (by kernel_rfl))
  f240 := Tryd.func50.trans (congrArg some (by kernel_rfl))
  f241 := Tryd.func88.trans (congrArg some (by kernel_rfl))
  f276 := Tryd.func63.trans (congrArg some (by kernel_rfl))
  f277 := Tryd.func100.trans (congrArg some (by kernel_rfl))
  t0 := Tryd.underlying0
  a0 := Tryd.isAgg0
  z0 := Tryd.sizeOf0
  v0 := Tryd.zeroValue0
  t3 := Tryd.underlying3
  a3 := Tryd.isAgg3
  z3 := Tryd.sizeOf3
  v3 := Tryd.zeroValue3
  t4 := Tryd.underlying4
  a4 := Tryd.isAgg4
  z4 := Tryd.sizeOf4
  v4 := Tryd.zeroValue4
  t9 := Tryd.underlying9
  a9 := Tryd.isAgg9
  z9 := Tryd.sizeOf9
  v9 := Tryd.zeroValue9
  t20 := Tryd.underlying20
  a20 := Tryd.isAgg20
  z20 := Tryd.sizeOf20
  v20 := Tryd.zeroValue20
  t31 := Tryd.underlying22
  a31 := Tryd.isAgg22
  z31 := Tryd.sizeOf22
  v31 := Tryd.zeroValue22
  t37 := Tryd.underlying58
  a37 := Tryd.isAgg58
  z37 := Tryd.sizeOf58
  v37 := Tryd.zeroValue58
  t70 := Tryd.underlying63
  a70 := Tryd.isAgg63
  z70 := Tryd.sizeOf63
  v70 := Tryd.zeroValue63
  t72 := Tryd.underlying65
  a72 := Tryd.isAgg65
  z72 := Tryd.sizeOf65
  v72 := Tryd.zeroValue65
  t75 := Tryd.underlying67
  a75 := Tryd.isAgg67
  z75 := Tryd.sizeOf67
  v75 := Tryd.zeroValue67
  t76 := Tryd.underlying68
  a76 := Tryd.isAgg68
  z76 := Tryd.sizeOf68
  v76 := Tryd.zeroValue68
  t127 := Tryd.underlying91
  a127 := Tryd.isAgg91
  z127 := Tryd.sizeOf91
  v127 := Tryd.zeroValue91
  t164 := Tryd.underlying102
  a164 := Tryd.isAgg102
  z164 := Tryd.sizeOf102
  v164 := Tryd.zeroValue102 }
theorem Tryd.Builder_Extra_156 : Builder.Extra Tryd.prog Tryd.lays156_ren := {
  sizeBuilder := by kernel_rfl
  liesBuilder := by kernel_rfl
  t5 := Tryd.underlying5
  a5 := Tryd.isAgg5
  z5 := Tryd.sizeOf5
  v5 := Tryd.zeroValue5
  infoByte := by kernel_rfl
  cellsByte := by kernel_rfl
  sizeByte := by kernel_rfl
  neB5 := by decide }
def Tryd.lays146_ren : Go.Shelf.Ren := ⟨fun | 138 => 90 | 143 => 91 | 146 => 61 | 195 => 101 | 197 => 102 | 217 => 80 | 218 => 103 | 219 => 65 | 221 => 74 | 224 => 82 | 225 => 81 | 260 => 107 | 266 => 98 | 267 => 83 | 268 => 89 | 314 => 99 | n => n, fun | 0 => 0 | 3 => 3 | 4 => 4 | 5 => 5 | 9 => 9 | 21 => 21 | 31 => 22 | 46 => 112 | 51 => 31 | 105 => 140 | 119 => 146 | 138 => 148 | 139 => 149 | 146 => 133 | n => n, fun | 1 => 0 | 3 => 6 | 4 => 7 | n => n⟩
theorem Tryd.lays146 : Go.Proofs.Lays.n146 Tryd.prog Tryd.lays146_ren := {
  mixed := by kernel_rfl
  f138 := Tryd.func90.trans (congrArg some (by kernel_rfl))
  f143 := Tryd.func91.trans (congrArg some (by kernel_rfl))
  f146 := Tryd.func61.trans (congrArg some (by kernel_rfl))
  f195 := Tryd.func101.trans (congrArg some (by kernel_rfl))
  f197 := Tryd.func102.trans (congrArg some (by kernel_rfl))
  f217 := Tryd.func80.trans (congrArg some (by kernel_rfl))
  f218 := Tryd.func103.trans (congrArg some (by kernel_rfl))
  f219 := Tryd.func65.trans (congrArg some (by kernel_rfl))
  f221 := Tryd.func74.trans (congrArg some (by kernel_rfl))
  f224 := Tryd.func82.trans (congrArg some (by kernel_rfl))
  f225 := Tryd.func81.trans (congrArg some (by kernel_rfl))
  f260 := Tryd.func107.trans (congrArg some (by kernel_rfl))
  f266 := Tryd.func98.trans (congrArg some (by kernel_rfl))
  f267 := Tryd.func83.trans (congrArg some (by kernel_rfl))
  f268 := Tryd.func89.trans (congrArg some (by kernel_rfl))
  f314 := Tryd.func99.trans (congrArg some (by kernel_rfl))
  t0 := Tryd.underlying0
  a0 := Tryd.isAgg0
  z0 := Tryd.sizeOf0
  v0 := Tryd.zeroValue0
  t3 := Tryd.underlying3
  a3 := Tryd.isAgg3
  z3 := Tryd.sizeOf3
  v3 := Tryd.zeroValue3
  t4 := Tryd.underlying4
  a4 := Tryd.isAgg4
  z4 := Tryd.sizeOf4
  v4 := Tryd.zeroValue4
  t5 := Tryd.underlying5
  a5 := Tryd.isAgg5
  z5 := Tryd.sizeOf5
  v5 := Tryd.zeroValue5
  t9 := Tryd.underlying9
  a9 := Tryd.isAgg9
  z9 := Tryd.sizeOf9
  v9 := Tryd.zeroValue9
  t21 := Tryd.underlying21
  a21 := Tryd.isAgg21
  z21 := Tryd.sizeOf21
  v21 := Tryd.zeroValue21
  t31 := Tryd.underlying22
  a31 := Tryd.isAgg22
  z31 := Tryd.sizeOf22
  v31 := Tryd.zeroValue22
  t46 := Tryd.underlying112
  a46 := Tryd.isAgg112
  z46 := Tryd.sizeOf112
  v46 := Tryd.zeroValue112
  t51 := Tryd.underlying31
  a51 := Tryd.isAgg31
  z51 := Tryd.sizeOf31
  v51 := Tryd.zeroValue31
  t105 := Tryd.underlying140
  a105 := Tryd.isAgg140
  z105 := Tryd.sizeOf140
  v105 := Tryd.zeroValue140
  t119 := Tryd.underlying146
  a119 := Tryd.isAgg146
  z119 := Tryd.sizeOf146
  t138 := Tryd.underlying148
  a138 := Tryd.isAgg148
  z138 := Tryd.sizeOf148
  v138 := Tryd.zeroValue148
  t139 := Tryd.underlying149
  a139 := Tryd.isAgg149
  z139 := Tryd.sizeOf149
  v139 := Tryd.zeroValue149
  t146 := Tryd.underlying133
  a146 := Tryd.isAgg133
  z146 := Tryd.sizeOf133
  v146 := Tryd.zeroValue133
  g1 := by kernel_rfl
  g3 := by kernel_rfl
  g4 := by kernel_rfl }
end Go.Proofs
/-! Texts put together and cut: the library's. -/
set_option linter.unusedVariables false
namespace Go.L21
/-- Cut at every c. -/
def splitC (c : UInt8) : List UInt8 → List (List UInt8)
  | [] => [[]]
  | b :: l => match splitC c l with
    | [] => [[b]]
    | x :: r => if b = c then [] :: x :: r else (b :: x) :: r
theorem splitC_ne (c : UInt8) (l : List UInt8) : splitC c l ≠ [] := by
  cases l with
  | nil => intro h; cases h
  | cons b l =>
    unfold splitC
    split
    · intro h; cases h
    · split <;> (intro h; cases h)
theorem splitC_eq (c : UInt8) (l : List UInt8) : ∃ x r, splitC c l = x :: r := by
  cases h : splitC c l with
  | nil => exact absurd h (splitC_ne c l)
  | cons x r => exact ⟨x, r, rfl⟩
theorem splitC_hit (c : UInt8) (l : List UInt8) : splitC c (c :: l) = [] :: splitC c l := by
  obtain ⟨x, r, h⟩ := splitC_eq c l
  show (match splitC c l with | [] => [[c]] | x :: r => if c = c then [] :: x :: r else (c :: x) :: r) = _
  rw [h]
  simp
theorem splitC_cons {c b : UInt8} (hb : b ≠ c) {l x : List UInt8} {r : List (List UInt8)} (h : splitC c l = x :: r) : splitC c (b :: l) = (b :: x) :: r := by
  show (match splitC c l with | [] => [[b]] | x :: r => if b = c then [] :: x :: r else (b :: x) :: r) = _
  rw [h]
  simp [hb]
theorem splitC_free {c : UInt8} : ∀ {l : List UInt8}, (∀ b ∈ l, b ≠ c) → splitC c l = [l]
  | [], _ => rfl
  | b :: l, h => splitC_cons (h b List.mem_cons_self) (splitC_free fun x hx => h x (List.mem_cons_of_mem _ hx))
theorem splitC_app {c : UInt8} : ∀ {l r : List UInt8}, (∀ b ∈ l, b ≠ c) → splitC c (l ++ c :: r) = l :: splitC c r
  | [], r, _ => splitC_hit c r
  | b :: l, r, h => splitC_cons (h b List.mem_cons_self) (splitC_app fun x hx => h x (List.mem_cons_of_mem _ hx))
theorem splitC_join {c : UInt8} : ∀ {ls : List (List UInt8)}, ls ≠ [] → (∀ l ∈ ls, ∀ b ∈ l, b ≠ c) → splitC c (Lib.join ls [c]) = ls
  | [], h, _ => absurd rfl h
  | [x], _, h => by rw [Lib.join_one]; exact splitC_free (h x List.mem_cons_self)
  | x :: y :: r, _, h => by
    have ih := splitC_join (c := c) (ls := y :: r) (by simp) fun l hl => h l (List.mem_cons_of_mem _ hl)
    have e : Lib.join (x :: y :: r) [c] = x ++ c :: Lib.join (y :: r) [c] := by
      rw [Lib.join_cons, Lib.join_cons]
      simp [Lib.joinTail]
    rw [e, splitC_app (h x List.mem_cons_self), ih]
theorem splitC_index {c : UInt8} : ∀ {l : List UInt8} {i : Nat}, Lib.indexByte l c = (i : Int) → splitC c l = l.take i :: splitC c (l.drop (i + 1))
  | [], i, h => by unfold Lib.indexByte at h; omega
  | b :: l, i, h => by
    unfold Lib.indexByte at h
    split at h
    · rename_i hb
      obtain rfl := beq_iff_eq.1 hb
      obtain rfl : i = 0 := by omega
      exact splitC_hit _ _
    · rename_i hb
      split at h
      · omega
      · rename_i hm
        have hge := Lib.indexByte_ge l c
        have hm : Lib.indexByte l c ≠ -1 := fun e => hm (beq_iff_eq.2 e)
        obtain ⟨j, hj⟩ : ∃ j : Nat, Lib.indexByte l c = (j : Int) := ⟨(Lib.indexByte l c).toNat, by omega⟩
        obtain rfl : i = j + 1 := by omega
        exact splitC_cons (fun e => hb (beq_iff_eq.2 e)) (splitC_index hj)
theorem splitC_miss {c : UInt8} : ∀ {l : List UInt8}, Lib.indexByte l c = -1 → splitC c l = [l]
  | [], _ => rfl
  | b :: l, h => by
    unfold Lib.indexByte at h
    split at h
    · omega
    · rename_i hb
      split at h
      · rename_i hm
        exact splitC_cons (fun e => hb (beq_iff_eq.2 e)) (splitC_miss (beq_iff_eq.1 hm))
      · have hge := Lib.indexByte_ge l c
        omega
theorem count_index {c : UInt8} : ∀ {l : List UInt8} {i : Nat}, Lib.indexByte l c = (i : Int) → l.count c = (l.drop (i + 1)).count c + 1
  | [], i, h => by unfold Lib.indexByte at h; omega
  | b :: l, i, h => by
    unfold Lib.indexByte at h
    split at h
    · rename_i hb
      obtain rfl := beq_iff_eq.1 hb
      obtain rfl : i = 0 := by omega
      simp
    · rename_i hb
      split at h
      · omega
      · rename_i hm
        have hge := Lib.indexByte_ge l c
        have hm : Lib.indexByte l c ≠ -1 := fun e => hm (beq_iff_eq.2 e)
        obtain ⟨j, hj⟩ : ∃ j : Nat, Lib.indexByte l c = (j : Int) := ⟨(Lib.indexByte l c).toNat, by omega⟩
        obtain rfl : i = j + 1 := by omega
        rw [List.count_cons_of_ne (fun e => hb (beq_iff_eq.2 e))]
        exact count_index hj
theorem splitB_C {c : UInt8} : ∀ (k : Nat) (s : ByteArray), s.data.toList.count c = k → (Lib.splitB ⟨#[c]⟩ 0 k s).map (·.data.toList) = splitC c s.data.toList
  | 0, s, h => by
    have : Lib.indexByte s.data.toList c = -1 := by
      have hge := Lib.indexByte_ge s.data.toList c
      rcases Int.lt_or_le (Lib.indexByte s.data.toList c) 0 with h1 | h1
      · omega
      · obtain ⟨j, hj⟩ : ∃ j : Nat, Lib.indexByte s.data.toList c = (j : Int) := ⟨(Lib.indexByte s.data.toList c).toNat, by omega⟩
        have := count_index hj
        omega
    rw [splitC_miss this]; rfl
  | k + 1, s, h => by
    have hI : Lib.indexB s ⟨#[c]⟩ = Lib.indexByte s.data.toList c := Lib.index_one _ _
    have hge := Lib.indexByte_ge s.data.toList c
    rcases Int.lt_or_le (Lib.indexByte s.data.toList c) 0 with h1 | h1
    · have e : Lib.indexByte s.data.toList c = -1 := by omega
      rw [Lib.splitB_miss _ _ _ _ (hI.trans e), splitC_miss e]; rfl
    · obtain ⟨j, hj⟩ : ∃ j : Nat, Lib.indexByte s.data.toList c = (j : Int) := ⟨(Lib.indexByte s.data.toList c).toNat, by omega⟩
      rw [Lib.splitB_hit _ _ _ _ j (hI.trans hj), splitC_index hj, List.map_cons]
      have e1 : (s.extract 0 (j + 0)).data.toList = s.data.toList.take j := Lib.extract_from_zero s j
      have e2 : (s.extract (j + 1) s.size).data.toList = s.data.toList.drop (j + 1) := by rw [Lib.extract_to_end]
      have e3 : (⟨#[c]⟩ : ByteArray).size = 1 := rfl
      rw [e1, e3, splitB_C k _ (by rw [e2]; have := count_index hj; omega), e2]
theorem miss_count {l : List UInt8} {c : UInt8} (h : Lib.indexByte l c = -1) : l.count c = 0 := by
  rw [List.count_eq_zero]
  intro hm
  obtain ⟨k, hk⟩ := List.getElem?_of_mem hm
  exact Lib.indexByte_none h k hk
theorem count_one (c : UInt8) : ∀ (n : Nat) (l : List UInt8), l.length ≤ n → Lib.count l [c] = l.count c
  | n, l, hn => by
    have hge := Lib.indexByte_ge l c
    have hI : Lib.index l [c] = Lib.indexByte l c := Lib.index_one _ _
    rcases Int.lt_or_le (Lib.indexByte l c) 0 with h1 | h1
    · have e : Lib.indexByte l c = -1 := by omega
      rw [Lib.count_miss (hI.trans e), miss_count e]
    · obtain ⟨j, hj⟩ : ∃ j : Nat, Lib.indexByte l c = (j : Int) := ⟨(Lib.indexByte l c).toNat, by omega⟩
      have hl : l ≠ [] := fun e => by rw [e] at hj; have : (-1 : Int) = (j : Int) := hj; omega
      have hpos : 0 < l.length := List.length_pos_iff.2 hl
      cases n with
      | zero => omega
      | succ n =>
        rw [Lib.count_hit (by simp) (hI.trans hj), count_index hj]
        have : ([c] : List UInt8).length = 1 := rfl
        rw [this, count_one c n (l.drop (j + 1)) (by rw [List.length_drop]; omega)]
        omega
theorem countB_one (s : ByteArray) (c : UInt8) : Lib.countB s ⟨#[c]⟩ = s.data.toList.count c := count_one c _ _ (Nat.le_refl _)
theorem s361 (s : ByteArray) (c : UInt8) : S361 s ⟨#[c]⟩ = (splitC c s.data.toList).map bs := by
  unfold S361
  rw [countB_one, ← splitB_C _ s rfl, List.map_map]
  exact (List.map_id _).symm
end Go.L21
namespace Go.Rx
open Go.Ab Go.L21 Go.Proofs Go.RowKit
set_option maxRecDepth 100000
abbrev W360 : CT S [9] [22, 9] := (fun x0 x1 => (some (P360 x0 x1), S360 x0 x1))
abbrev Ok360 : Prop := ConOk P7 60 (ctr P7 [22, 9] [9] W360) ∧ ConMon (ctr P7 [22, 9] [9] W360)
theorem run360 : RunP C0 60 [9] [22, 9] W360 [] := by
  intro (x : List ByteArray) hx (sep : ByteArray) hs hp
  obtain ⟨h0, h1⟩ : P360 x sep := hp _ rfl
  intro imm w vs hok hgl hargs
  obtain ⟨v1, vs1, rfl, hv1, v2, vs2, rfl, hv2, rfl⟩ := hargs
  obtain rfl : v2 = .string sep := hv2
  have hv1 : sliceH (S.E 9) x imm v1 := hv1
  obtain ⟨A, c, rfl, hcell⟩ := cell_strs hok hv1
  have hc : x.length ≤ c := by
    obtain ⟨A2, c2, e, h2, _⟩ := hv1
    cases e; exact h2
  cases x with
  | nil =>
    refine (Any.strings_Join_none Tryd.lays156 Tryd.Builder_Extra_156 A c sep w).mono ?_
    rintro e w' ⟨rfl, rfl⟩
    exact pf_done (rts := [9]) (S360 [] sep) hok (Below.refl _ _) rfl
  | cons y r =>
    obtain ⟨bk, o, rfl, hbk, _⟩ := hcell 0 y rfl
    refine (Any.strings_Join Tryd.lays156 Tryd.Builder_Extra_156 bk o c (y :: r) sep w (fun j z hz => ?_) hbk h0 hc h1).mono ?_
    · obtain ⟨bk', o', e, _, h2⟩ := hcell j z hz
      cases e; exact h2
    rintro e w' ⟨rfl, hb⟩
    exact pf_done (rts := [9]) (S360 (y :: r) sep) hok hb rfl
theorem ok360 : Ok360 := by
  apply con_okP (C := C0) (f := 60) (ts := [22, 9]) (rts := [9]) (W := W360)
  exact run360
theorem Tryd.split_at (s : ByteArray) (c : UInt8) (w : World) (hs : s.size < 4294967281) :
    Calls Proofs.Tryd.prog 61 #[.string s, .string ⟨#[c]⟩] w fun e w' =>
      e = .returned (.slice (some ⟨w.heap.size, 0, none⟩) (Lib.countB s ⟨#[c]⟩ + 1) (Lib.countB s ⟨#[c]⟩ + 1)) ∧ w' = w.alloc (.cells ((Lib.splitB ⟨#[c]⟩ 0 (Lib.countB s ⟨#[c]⟩) s).map Value.string).toArray 9) := by
  have hle := Lib.countB_le ⟨#[c]⟩ (Nat.le_refl 1) s.size s (Nat.le_refl _)
  have hlen := Lib.splitB_all ⟨#[c]⟩ (Nat.le_refl 1) 0 _ s rfl
  have cc := Any.strings_genSplit_core (P := Proofs.Tryd.prog) (ρ := Proofs.Tryd.lays146_ren) { Proofs.Tryd.lays146 with } (by kernel_rfl) s ⟨#[c]⟩ 0 (-1) (Lib.countB s ⟨#[c]⟩ + 1) w hs (Nat.le_refl 1) (Nat.zero_le _)
    (fun x cs hx => (Any.strings_Index_one { Proofs.Tryd.lays146 with } x c _).mono fun e w' ⟨he, hw⟩ => ⟨he.trans (by rw [show Lib.indexB x ⟨#[c]⟩ = Lib.indexByte x.data.toList c from Lib.index_one _ _]), hw⟩)
    ((Any.strings_Count_one { Proofs.Tryd.lays146 with } s c w).mono fun e w' ⟨he, hw⟩ => ⟨he.trans (by rw [countB_one]; rfl), hw⟩)
    (by decide) (by decide) (by rw [if_pos (by decide)]; omega)
  rw [Nat.add_sub_cancel, hlen] at cc
  have e2 : Lib.cellsOf (Lib.splitB ⟨#[c]⟩ 0 (Lib.countB s ⟨#[c]⟩) s) (Lib.countB s ⟨#[c]⟩ + 1) = ((Lib.splitB ⟨#[c]⟩ 0 (Lib.countB s ⟨#[c]⟩) s).map Value.string).toArray := by rw [← hlen]; exact Lib.cellsOf_full _
  rw [e2] at cc
  have cc : Calls Proofs.Tryd.prog 74 #[.string s, .string ⟨#[c]⟩, .int .i64 0, .int .i64 (-1)] w fun e w' => e = .returned (.slice (some ⟨w.heap.size, 0, none⟩) (Lib.countB s ⟨#[c]⟩ + 1) (Lib.countB s ⟨#[c]⟩ + 1)) ∧ w' = w.alloc (.cells ((Lib.splitB ⟨#[c]⟩ 0 (Lib.countB s ⟨#[c]⟩) s).map Value.string).toArray 9) := cc
  clear hle hlen e2
  go_enter Proofs.Tryd.func61, Proofs.Tryd.ntmps61
  go_wp2_with (go_at_call 74; refine cc.mono ?_; rintro e w' ⟨rfl, hw⟩; rw [hw])
  go_ret
  exact ⟨rfl, rfl⟩
abbrev W361 : CT S [22] [9, 9] := (fun x0 x1 => (some (P361 x0 x1), S361 x0 x1))
abbrev Ok361 : Prop := ConOk P7 61 (ctr P7 [9, 9] [22] W361) ∧ ConMon (ctr P7 [9, 9] [22] W361)
theorem fresh_strs {imm : Imm} {w : World} (hok : ImmOk imm w) (l : List ByteArray) (n : Nat) (hn : n = l.length) (h9 : n ≤ 9223372036854775807) (ty : TypeId) :
    ∃ imm', Imm.le imm imm' ∧ ImmOk imm' (w.alloc (.cells (l.map Value.string).toArray ty)) ∧ (∀ b o u, imm' b o = some u → imm b o = some u ∨ w.heap.size ≤ b) ∧ sliceH eS l imm' (.slice (some ⟨w.heap.size, 0, none⟩) n n) := by
  have hfresh : ∀ o, imm w.heap.size o = none := fun o => by
    cases hq : imm w.heap.size o with
    | none => rfl
    | some u =>
      have := hok _ _ _ hq
      unfold World.cell? at this
      rw [Array.getElem?_eq_none (Nat.le_refl _)] at this
      cases this
  have hb : Below w.heap.size w (w.alloc (.cells (l.map Value.string).toArray ty)) := (Below.refl _ w).alloc (Nat.le_refl _) _
  have hget : (w.alloc (.cells (l.map Value.string).toArray ty)).heap[w.heap.size]? = some (.cells (l.map Value.string).toArray ty (0, 0)) := by
    show (w.heap.push _)[w.heap.size]? = _
    rw [Array.getElem?_push_size]
  refine ⟨fun b o => if b = w.heap.size then ((l.map Value.string).toArray)[o]? else imm b o, fun b o u h => ?_, fun b o u h => ?_, fun b o u h => ?_, ?_⟩
  · show (if b = w.heap.size then _ else imm b o) = some u
    rw [if_neg (fun e => by subst e; rw [hfresh] at h; cases h)]
    exact h
  · have h : (if b = w.heap.size then ((l.map Value.string).toArray)[o]? else imm b o) = some u := h
    by_cases e : b = w.heap.size
    · rw [if_pos e] at h
      rw [e, cell_blk hget]; exact h
    · rw [if_neg e] at h
      have hc := hok b o u h
      unfold World.cell? at hc ⊢
      have hb' : b < w.heap.size := by
        split at hc
        · rename_i c _ _ hq; exact (Array.getElem?_eq_some_iff.1 hq).1
        · cases hc
      rw [hb.block b hb']; exact hc
  · have h : (if b = w.heap.size then ((l.map Value.string).toArray)[o]? else imm b o) = some u := h
    by_cases e : b = w.heap.size
    · exact .inr (Nat.le_of_eq e.symm)
    · rw [if_neg e] at h; exact .inl h
  · refine ⟨_, n, by rw [hn], by omega, h9, (fun e => by cases e), fun _ => ⟨w.heap.size, 0, rfl, fun i x hx => ⟨[.string x], ⟨_, [], rfl, rfl, rfl, rfl⟩, fun j u hu => ?_⟩⟩⟩
    cases j with
    | succ j => cases hu
    | zero =>
      cases hu
      show (if w.heap.size = w.heap.size then ((l.map Value.string).toArray)[0 + i * 1 + 0]? else _) = _
      rw [if_pos rfl, List.getElem?_toArray, show 0 + i * 1 + 0 = i by omega, List.getElem?_map, hx]
      rfl
theorem run361 : RunP C0 61 [22] [9, 9] W361 [] := by
  intro (s : ByteArray) hs (t : ByteArray) ht hp
  obtain ⟨h0, h1⟩ : P361 s t := hp _ rfl
  intro imm w vs hok hgl hargs
  obtain ⟨v1, vs1, rfl, hv1, v2, vs2, rfl, hv2, rfl⟩ := hargs
  obtain rfl : v1 = .string s := hv1
  obtain rfl : v2 = .string t := hv2
  obtain ⟨c, rfl⟩ : ∃ c, t = ⟨#[c]⟩ := by
    obtain ⟨⟨l⟩⟩ := t
    match l, h1 with
    | [c], _ => exact ⟨c, rfl⟩
  refine (Tryd.split_at s c w h0).mono ?_
  rintro e w' ⟨rfl, rfl⟩
  have hlen := Lib.splitB_all ⟨#[c]⟩ (Nat.le_refl 1) 0 _ s rfl
  have hle := Lib.countB_le ⟨#[c]⟩ (Nat.le_refl 1) s.size s (Nat.le_refl _)
  obtain ⟨imm', k1, k2, k3, k4⟩ := fresh_strs hok (Lib.splitB ⟨#[c]⟩ 0 (Lib.countB s ⟨#[c]⟩) s) (Lib.countB s ⟨#[c]⟩ + 1) hlen.symm (by omega) 9
  exact ⟨_, _, imm', rfl, enc_clean (S := S) (P := P7) [22] (S361 s ⟨#[c]⟩), rfl, k1, k2, k3, k4, (Below.refl _ w).alloc (Nat.le_refl _) _⟩
theorem ok361 : Ok361 := by
  apply con_okP (C := C0) (f := 61) (ts := [9, 9]) (rts := [22]) (W := W361)
  exact run361
end Go.Rx
/-! Steps as text. -/
namespace Go.Rx
open Go.Ab Go.L21
set_option linter.unusedVariables false
set_option maxRecDepth 100000
theorem okE (k : Nat) : OkE k := by
  induction k with
  | zero => exact con_okP (C := C0) (fun x hx hp => by
      obtain ⟨_, _, h⟩ : DB 0 x := hp _ rfl
      exact absurd (List.length_eq_zero_iff.1 (Nat.le_zero.1 h)) (dec_ne _))
  | succ k ih =>
    refine con_ok (C := C349 k) (n := 6) (kk1 ih) mx7 (by kernel_rfl) ?_
    intro (x : Int) hx hp
    obtain ⟨h0, h1, h2⟩ : DB (k + 1) x := hp _ rfl
    refine of_eq (q349 k x _) ?_
    obtain ⟨u, rfl⟩ : ∃ u : Nat, x = (u : Int) := ⟨x.toNat, by omega⟩
    rw [Int.toNat_natCast] at h2
    have hS : S349 (u : Int) = bs (Lib.decDigits u) := by unfold S349; rw [Int.toNat_natCast]
    refine bif_of (fun hc => ?_) (fun hc => ?_)
    · have hc : u < 10 := by have := of_decide_eq_true hc; omega
      rw [bsOf_one hc]
      show _ = S349 (u : Int)
      rw [hS, Lib.decDigits, dif_pos hc]
    · have hc : ¬ u < 10 := by have := of_decide_eq_false hc; omega
      have e1 : IntKind.u64.wrap ((u : Int).tdiv 10) = ((u / 10 : Nat) : Int) := by
        rw [show ((u : Int).tdiv 10) = ((u / 10 : Nat) : Int) from rfl, wrapU (by omega)]
      have e2 : ((u : Int).tmod 10) = ((u % 10 : Nat) : Int) := rfl
      have e3 : S349 ((u / 10 : Nat) : Int) = bs (Lib.decDigits (u / 10)) := by unfold S349; rw [Int.toNat_natCast]
      have hl := dec_len hc
      rw [e1, e2, bsOf_one (show u % 10 < 10 by omega), e3]
      refine ⟨⟨by omega, by omega, by rw [Int.toNat_natCast]; omega⟩, ?_, ?_⟩
      · rw [size_bs, size_bs]
        have : (Lib.decDigits u).length ≤ 20 := by
          have h := Lib.numDigits_eq u (by omega) (by omega)
          rw [Lib.decDigits_length]; split at h <;> omega
        show _ + 1 ≤ 9223372036854775807
        omega
      · rw [bs_app]
        show _ = S349 (u : Int)
        rw [hS]
        conv => rhs; rw [Lib.decDigits, dif_neg hc]
abbrev W349 : CT S [9] [59] := WD 20
abbrev Ok349 : Prop := OkE 20
theorem ok349 : OkE 20 := okE 20
theorem itoa_nn {u : Int} (h : 0 ≤ u) : Lib.itoa u = Lib.decDigits u.toNat := by
  unfold Lib.itoa; rw [if_neg (by omega)]
theorem s349 {u : Int} (h : 0 ≤ u) : S349 u = bs (Lib.itoa u) := by unfold S349; rw [itoa_nn h]
theorem of_bytes : ∀ (l : List Int), (∀ c ∈ l, 0 ≤ c ∧ c ≤ 255) → ∃ b : List UInt8, l = toI b
  | [], _ => ⟨[], rfl⟩
  | c :: l, h => by
    obtain ⟨b, rfl⟩ := of_bytes l fun x hx => h x (List.mem_cons_of_mem _ hx)
    obtain ⟨h0, h1⟩ := h c List.mem_cons_self
    refine ⟨UInt8.ofNat c.toNat :: b, ?_⟩
    show c :: toI b = ((UInt8.ofNat c.toNat).toNat : Int) :: toI b
    have : (UInt8.ofNat c.toNat).toNat = c.toNat % 256 := by simp
    rw [this, show ((c.toNat % 256 : Nat) : Int) = c by omega]
theorem join9 (a0 a1 a2 a3 a4 a5 a6 a7 a8 : List UInt8) : Lib.join [a0, a1, a2, a3, a4, a5, a6, a7, a8] [32] = a0 ++ [32] ++ a1 ++ [32] ++ a2 ++ [32] ++ a3 ++ [32] ++ a4 ++ [32] ++ a5 ++ [32] ++ a6 ++ [32] ++ a7 ++ [32] ++ a8 := by
  rw [Lib.join_cons]
  simp [Lib.joinTail]
/-- A line, piece by piece. -/
theorem line_eq {s : api_Step} {b : List UInt8} (hb : s.fData = toI b) : lineL s = Lib.itoa s.fKind ++ [32] ++ Lib.itoa s.fA ++ [32] ++ Lib.itoa s.fB ++ [32] ++ Lib.itoa s.fKeep ++ [32] ++ Lib.itoa s.fPrefix.fAddr ++ [32] ++ Lib.itoa s.fPrefix.fLen ++ [32] ++ Lib.itoa s.fNext ++ [32] ++ (120 :: hexL b) ++ [32] ++ (120 :: hexL (textsL (peerL s.fPeer))) ++ [10] := by
  have e : (fieldsS s).map (·.data.toList) = [Lib.itoa s.fKind, Lib.itoa s.fA, Lib.itoa s.fB, Lib.itoa s.fKeep, Lib.itoa s.fPrefix.fAddr, Lib.itoa s.fPrefix.fLen, Lib.itoa s.fNext, 120 :: hexL b, 120 :: hexL (textsL (peerL s.fPeer))] := by
    unfold fieldsS
    rw [hb, bsOf_toI]
    rfl
  unfold lineL joinS
  rw [e]
  show Lib.join _ [32] ++ [10] = _
  rw [join9]
theorem line_len {s : api_Step} (h : okStep s) : (lineL s).length ≤ 13000000 := by
  obtain ⟨hk, ha, hb, hke, had, hle, hne, hda, hpe⟩ := h
  obtain ⟨b, hbb⟩ := of_bytes _ hda.2
  have hbl : b.length = s.fData.length := by rw [hbb, toI_len]
  rw [line_eq hbb]
  have l1 := itoa_len hk
  have l2 := itoa_len ha
  have l3 := itoa_len hb
  have l4 := Lib.decDigits_length s.fKeep.toNat
  have l4 : (Lib.itoa s.fKeep).length ≤ 20 := by rw [itoa_nn hke.1]; exact len20 _ (by omega)
  have l5 : (Lib.itoa s.fPrefix.fAddr).length ≤ 21 := itoa_len ⟨by omega, by omega⟩
  have l6 := itoa_len hle
  have l7 : (Lib.itoa s.fNext).length ≤ 21 := itoa_len ⟨by omega, by omega⟩
  have l8 := peer_len hpe
  have l9 := hexL_len b
  have l10 := hexL_len (textsL (peerL s.fPeer))
  have := hda.1
  simp only [List.length_append, List.length_cons, List.length_nil]
  omega
theorem run347 : RunC C347 6 47 [9] [61] W347 [] := by
  intro (s : api_Step) hx hp
  have h : okStep s := hp _ rfl
  have hll := line_len h
  obtain ⟨hk, ha, hb, hke, had, hle, hne, hda, hpe⟩ := h
  have w1 : IntKind.u64.wrap s.fPrefix.fAddr = s.fPrefix.fAddr := wrapU (by omega)
  have w2 : IntKind.u64.wrap s.fNext = s.fNext := wrapU (by omega)
  refine of_eq (q347 s _) ?_
  rw [w1, w2, List.map_id' s.fData]
  have hj : lineL s = joinS [S333 s.fKind, S333 s.fA, S333 s.fB, S356 s.fKeep 10, S356 s.fPrefix.fAddr 10, S333 s.fPrefix.fLen, S356 s.fNext 10, S359 (bsOf s.fData), S359 (S322 s.fPeer)] (ByteArray.mk #[32]) ++ [10] := rfl
  obtain ⟨b, hbb⟩ := of_bytes _ hda.2
  have hbl : b.length = s.fData.length := by rw [hbb, toI_len]
  have hpl := peer_len hpe
  have hd1 := hda.1
  have e1 : (bsOf s.fData).size = b.length := by rw [hbb, bsOf_toI, size_bs]
  have e2 : (S322 s.fPeer).size = (textsL (peerL s.fPeer)).length := size_bs _
  rw [hj, List.length_append] at hll
  refine ⟨hk, ha, hb, ⟨rfl, hke⟩, ⟨rfl, by omega, by omega⟩, hle, ⟨rfl, by omega, by omega⟩, ?_, ⟨hpe⟩, ?_, ⟨Nat.le_trans (show _ ≤ 9 from Nat.le_refl 9) (by decide), Nat.le_trans (Nat.le_of_add_right_le hll) (by decide)⟩, ?_, ?_⟩
  · show (bsOf s.fData).size ≤ 1099511627776
    omega
  · show (S322 s.fPeer).size ≤ 1099511627776
    omega
  · show (bs _).size + 1 ≤ 9223372036854775807
    rw [size_bs]; exact Nat.le_trans (Nat.add_le_add_right (Nat.le_of_add_right_le hll) 1) (by decide)
  · show bs _ ++ bs [10] = bs (lineL s)
    rw [bs_app, hj]
theorem ok347 : Ok347 := by
  refine con_ok (C := C347) ?_ mx7 (by kernel_rfl) run347
  exact kok_cons ok333 (kok_cons ok356 (kok_cons ok322 (kok_cons ok359 (kk1 ok360))))
theorem steps_take {l : List api_Step} {k : Nat} {y : api_Step} (h : l[k]? = some y) : linesL (l.take (k + 1)) = linesL (l.take k) ++ lineL y := by
  rw [List.take_add_one, h]; simp [linesL]
theorem lines_le (l : List api_Step) (k : Nat) : (linesL (l.take k)).length ≤ (linesL l).length := by
  conv => rhs; rw [← List.take_append_drop k l]
  unfold linesL; rw [List.flatMap_append, List.length_append]; omega
theorem ixS {l : List api_Step} {k : Nat} {y : api_Step} (h : l[k]? = some y) : ix l (k : Int) = y := by
  unfold ix
  rw [Int.toNat_natCast, List.getD_eq_getElem?_getD, h]; rfl
theorem lines_num (l : List api_Step) : l.length ≤ (linesL l).length := by
  induction l with
  | nil => exact Nat.zero_le _
  | cons x r ih =>
    have e : linesL (x :: r) = lineL x ++ linesL r := rfl
    rw [e, List.length_append, List.length_cons]
    have : 1 ≤ (lineL x).length := by unfold lineL; rw [List.length_append]; simp
    omega
theorem run330 : RunC C330 6 30 [9] [49] W330 [] := by
  intro (l : List api_Step) hx hp
  obtain ⟨hok, hlen⟩ : okSteps l := hp _ rfl
  have hnum := lines_num l
  refine of_eq (q330 l _) ?_
  refine LOOP.of (fun y => ∃ k : Nat, y = (bs (linesL (l.take k)), (k : Int)) ∧ k ≤ l.length) (fun y => l.length - y.2.toNat) ⟨0, rfl, by omega⟩ ?_
  rintro _ ⟨k, rfl, hk⟩ J hJ
  dsimp only
  refine bif_of (fun hc => ?_) (fun hc => ?_)
  · have hc := of_decide_eq_true hc
    have hkl : k < l.length := by omega
    have hy : l[k]? = some l[k] := List.getElem?_eq_getElem hkl
    have hst := hok _ (List.getElem_mem hkl)
    generalize l[k] = s at hy hst
    rw [ixS hy]
    have ht := steps_take hy
    have hle := lines_le l (k + 1)
    have hpl := peer_len hst.peer
    obtain ⟨hk0, ha, hb, hke, had, hle0, hne, hda, hpe⟩ := hst
    obtain ⟨b, hbb⟩ := of_bytes _ hda.2
    have hbl : b.length = s.fData.length := by rw [hbb, toI_len]
    have w1 : IntKind.i64.wrap s.fPrefix.fAddr = s.fPrefix.fAddr := wrap64 (by omega)
    have w2 : IntKind.i64.wrap s.fNext = s.fNext := wrap64 (by omega)
    have hdb : DB 20 s.fKeep := by
      obtain ⟨u, hu⟩ : ∃ u : Nat, s.fKeep = (u : Int) := ⟨s.fKeep.toNat, by omega⟩
      rw [hu]; exact db20 u (by omega)
    have hd1 := hda.1
    rw [w1, w2, List.map_id' s.fData, hbb, bsOf_toI, s349 hke.1]
    have e1 : ∀ n, S338 n = bs (Lib.itoa n) := fun n => rfl
    have e2 : (ByteArray.mk #[32]) = bs [32] := rfl
    have e3 : (ByteArray.mk #[32, 120]) = bs [32, 120] := rfl
    have e4 : S331 (bs b) = bs (hexL b) := rfl
    have e5 : S325 s.fPeer = bs (textsL (peerL s.fPeer)) := rfl
    have e6 : ∀ t, S331 (bs t) = bs (hexL t) := fun _ => rfl
    have e7 : (ByteArray.mk #[10]) = bs [10] := rfl
    rw [line_eq hbb] at ht
    rw [ht] at hle
    simp only [e1, e2, e3, e5, e6, e7, bs_app, size_bs]
    have hpl2 := hexL_len (textsL (peerL s.fPeer))
    have hbl2 := hexL_len b
    generalize hexL (textsL (peerL s.fPeer)) = hp8 at *
    generalize hexL b = hp7 at *
    generalize Lib.itoa s.fKind = f0 at *
    generalize Lib.itoa s.fA = f1 at *
    generalize Lib.itoa s.fB = f2 at *
    generalize Lib.itoa s.fKeep = f3 at *
    generalize Lib.itoa s.fPrefix.fAddr = f4 at *
    generalize Lib.itoa s.fPrefix.fLen = f5 at *
    generalize Lib.itoa s.fNext = f6 at *
    simp only [List.length_append, List.length_cons, List.length_nil] at hle
    have hfin : J (bs (linesL (l.take (k + 1))), IntKind.i64.wrap ((k : Int) + 1)) := by
      refine hJ _ ⟨k + 1, by rw [wrap64 (by omega)]; rfl, hkl⟩ ?_
      show l.length - (IntKind.i64.wrap ((k : Int) + 1)).toNat < l.length - ((k : Nat) : Int).toNat
      rw [wrap64 (by omega)]; omega
    rw [ht] at hfin
    refine ⟨⟨by omega, hc⟩, ?_⟩
    repeat' apply And.intro
    all_goals first
      | exact hk0.1 | exact hk0.2 | exact ha.1 | exact ha.2 | exact hb.1 | exact hb.2 | exact hle0.1 | exact hle0.2 | exact hdb | exact ⟨hpe⟩
      | omega
      | (refine Nat.le_trans (m := 14000000) ?_ (by decide); simp only [List.length_append, List.length_cons, List.length_nil]; omega)
      | (refine Nat.le_trans (m := 14000000) ?_ (by decide); show List.length _ ≤ _; omega)
      | (show (bs _).size ≤ _; rw [size_bs]; refine Nat.le_trans (m := 14000000) ?_ (by decide); omega)
      | (simpa [List.append_assoc] using hfin)
  · have hc := of_decide_eq_false hc
    obtain rfl : k = l.length := by omega
    rw [List.take_length]; rfl
theorem ok330 : Ok330 := by
  refine con_ok (C := C330) ?_ mx7 (by kernel_rfl) run330
  exact kok_cons ok338 (kok_cons ok325 (kok_cons ok331 (kk1 ok349)))
theorem sum_takeW {l : List api_Step} {k : Nat} {y : api_Step} (h : l[k]? = some y) : ((l.take (k + 1)).map weight).sum = ((l.take k).map weight).sum + weight y := by
  rw [List.take_add_one, h]; simp
theorem sumW_le (l : List api_Step) (k : Nat) : ((l.take k).map weight).sum ≤ (l.map weight).sum := by
  conv => rhs; rw [← List.take_append_drop k l]
  rw [List.map_append, List.sum_append]; omega
theorem run326 : RunC C326 6 26 [4] [49] W326 [] := by
  intro (l : List api_Step) hx hp
  obtain ⟨hlen, heach⟩ : okSmall l := hp _ rfl
  refine of_eq (q326 l _) ?_
  refine LOOP.of (fun y => ∃ k : Nat, y = (((l.length + ((l.take k).map weight).sum : Nat) : Int), (k : Int)) ∧ k ≤ l.length) (fun y => l.length - y.2.toNat) ⟨0, rfl, by omega⟩ ?_
  rintro _ ⟨k, rfl, hk⟩ J hJ
  dsimp only
  refine bif_of (fun hc => ?_) (fun hc => ?_)
  · simp only [Bool.and_eq_true, decide_eq_true_eq] at hc
    obtain ⟨hc, hn⟩ := hc
    have hkl : k < l.length := by omega
    have hy : l[k]? = some l[k] := List.getElem?_eq_getElem hkl
    obtain ⟨h1, h2, h3⟩ := heach _ (List.getElem_mem hkl)
    have ht := sum_takeW hy
    generalize l[k] = s at hy h1 h2 h3 ht
    rw [ixS hy]
    have hw : IntKind.i64.wrap (IntKind.i64.wrap (((l.length + ((l.take k).map weight).sum : Nat) : Int) + (s.fData.length : Int)) + IntKind.i64.wrap (50 * IntKind.i64.wrap ((s.fPeer.fIn.length : Int) + (s.fPeer.fOut.length : Int)))) = ((l.length + ((l.take (k + 1)).map weight).sum : Nat) : Int) := by
      rw [wrap64 (n := (s.fPeer.fIn.length : Int) + _) (by omega), wrap64 (n := 50 * _) (by omega), wrap64 (n := _ + (s.fData.length : Int)) (by omega), wrap64 (by omega), ht]
      unfold weight
      omega
    rw [hw]
    have hb : (0 : Int) ≤ (k : Int) ∧ (k : Int) < (l.length : Int) := ⟨by omega, hc⟩
    refine ⟨hb, hb, hb, hJ _ ⟨k + 1, ?_, hkl⟩ ?_⟩
    · rw [wrap64 (by omega)]; rfl
    · show l.length - (IntKind.i64.wrap ((k : Int) + 1)).toNat < l.length - ((k : Nat) : Int).toNat
      rw [wrap64 (by omega)]; omega
  · have h60 : decide ((l.length : Int) < 60) = decide (l.length < 60) := decide_eq_decide.2 (by omega)
    have hle := sumW_le l k
    have e1 : decide (((l.length + ((l.take k).map weight).sum : Nat) : Int) < 3000) = decide (l.length + (l.map weight).sum < 3000) := by
      refine decide_eq_decide.2 ?_
      rw [Bool.and_eq_false_iff] at hc
      rcases hc with hc | hc
      · have hc := of_decide_eq_false hc
        obtain rfl : k = l.length := by omega
        rw [List.take_length]; omega
      · have hc := of_decide_eq_false hc
        omega
    show (decide (((l.length + ((l.take k).map weight).sum : Nat) : Int) < 3000) && decide ((l.length : Int) < 60)) = (decide (l.length + (l.map weight).sum < 3000) && decide (l.length < 60))
    rw [h60, e1]
theorem ok326 : Ok326 := con_ok (C := C326) kok_nil mx7 (by kernel_rfl) run326
end Go.Rx
namespace Go.Rx
open Go.Ab Go.L21
set_option maxRecDepth 100000
set_option maxHeartbeats 20000000
set_option linter.unusedVariables false
/-- (*interregnum/row.reader).text -/
noncomputable def C358 : Cfg S := { P := P7, inl := [], K := [], ann := [] }
noncomputable abbrev W358 : S.A 82 → CTB S 82 [9] [] := (fun z => (none, (S358 z).1, (S358 z).2))
abbrev Ok358 : Prop := ConOk P7 58 (ctb (S := S) P7 82 [] [9] W358) ∧ ConMon (ctb (S := S) P7 82 [] [9] W358)
theorem q358 (z : row_reader) (v : HR S [9]) (y : row_reader) : (Xf C358 6 (emp 1) 58 (.loc 0 0 :: argsA C358 []) (boxS 82 z) (fun r m => isR C358.P [9] v r ∧
 isB 82 y m) (fun _ _ => False)) = (bif decide ((↑z.flist.length : Int) = (0 : Int)) then ByteArray.mk #[] = v ∧ row_reader.mk z.flist true = y else ((0 : Int)
 ≤ (0 : Int) ∧ (0 : Int) < (↑z.flist.length : Int)) ∧ ((0 : Int) ≤ (1 : Int) ∧ (1 : Int) ≤ (↑z.flist.length : Int) ∧ (↑z.flist.length : Int) ≤ (↑z.flist.length
 : Int)) ∧ ix z.flist (0 : Int) = v ∧ row_reader.mk (sub z.flist (1 : Int) (↑z.flist.length : Int)) z.fbad = y) := by kernel_rfl
end Go.Rx
namespace Go.Rx
open Go.Ab Go.L21
set_option maxRecDepth 100000
set_option maxHeartbeats 20000000
set_option linter.unusedVariables false
/-- (*interregnum/row.reader).num -/
noncomputable def C344 : Cfg S := { P := P7, inl := [], K := [(37, ctr P7 [9] [3, 67] (fun x0 => (some (P337 x0), S337 x0))), (58, ctb (S := S) P7 82 [] [9] (fun z => (none, (S358 z).1, (S358 z).2)))], ann := [] }
noncomputable abbrev W344 : S.A 82 → CTB S 82 [3] [] := (fun z => (some (P344 z), (S344 z).1, (S344 z).2))
abbrev Ok344 : Prop := ConOk P7 44 (ctb (S := S) P7 82 [] [3] W344) ∧ ConMon (ctb (S := S) P7 82 [] [3] W344)
theorem q344 (z : row_reader) (v : HR S [3]) (y : row_reader) : (Xf C344 6 (emp 1) 44 (.loc 0 0 :: argsA C344 []) (boxS 82 z) (fun r m => isR C344.P [3] v r ∧
 isB 82 y m) (fun _ _ => False)) = (∀ (u : row_reader), u = (S358 z).snd → (S358 z).fst.size.le (nat_lit 281474976710656) ∧ (S337 (S358 z).fst).fst = v ∧
 row_reader.mk u.flist (u.fbad || (S337 (S358 z).fst).snd) = y) := by kernel_rfl
end Go.Rx
namespace Go.Rx
open Go.Ab Go.L21
set_option maxRecDepth 100000
set_option maxHeartbeats 20000000
set_option linter.unusedVariables false
/-- (*interregnum/row.reader).addr -/
noncomputable def C343 : Cfg S := { P := P7, inl := [], K := [(57, ctr P7 [9, 3, 3] [59, 67] (fun x0 x1 x2 => (some (P357 x0 x1 x2), S357 x0 x1 x2))), (58, ctb (S := S) P7 82 [] [9] (fun z => (none, (S358 z).1, (S358 z).2)))], ann := [] }
noncomputable abbrev W343 : S.A 82 → CTB S 82 [31] [] := (fun z => (some (P343 z), (S343 z).1, (S343 z).2))
abbrev Ok343 : Prop := ConOk P7 43 (ctb (S := S) P7 82 [] [31] W343) ∧ ConMon (ctb (S := S) P7 82 [] [31] W343)
theorem q343 (z : row_reader) (v : HR S [31]) (y : row_reader) : (Xf C343 6 (emp 1) 43 (.loc 0 0 :: argsA C343 []) (boxS 82 z) (fun r m => isR C343.P [31] v r
 ∧ isB 82 y m) (fun _ _ => False)) = (∀ (u : row_reader), u = (S358 z).snd → ((S358 z).fst.size ≤ nat_lit 281474976710656 ∧ (10 : Int) = (10 : Int) ∧ ((32 :
 Int) = (32 : Int) ∨ (32 : Int) = (64 : Int))) ∧ IntKind.u32.wrap (S357 (S358 z).fst (10 : Int) (32 : Int)).fst = v ∧ row_reader.mk u.flist (u.fbad || (S357
 (S358 z).fst (10 : Int) (32 : Int)).snd) = y) := by kernel_rfl
end Go.Rx
namespace Go.Rx
open Go.Ab Go.L21
set_option maxRecDepth 100000
set_option maxHeartbeats 20000000
set_option linter.unusedVariables false
/-- (*interregnum/row.reader).prefix -/
noncomputable def C342 : Cfg S := { P := P7, inl := [], K := [(44, ctb (S := S) P7 82 [] [3] (fun z => (some (P344 z), (S344 z).1, (S344 z).2))), (43, ctb (S := S) P7 82 [] [31] (fun z => (some (P343 z), (S343 z).1, (S343 z).2)))], ann := [] }
noncomputable abbrev W342 : S.A 82 → CTB S 82 [33] [] := (fun z => (some (P342 z), (S342 z).1, (S342 z).2))
abbrev Ok342 : Prop := ConOk P7 42 (ctb (S := S) P7 82 [] [33] W342) ∧ ConMon (ctb (S := S) P7 82 [] [33] W342)
theorem q342 (z : row_reader) (v : HR S [33]) (y : row_reader) : (Xf C342 6 (emp 1) 42 (.loc 0 0 :: argsA C342 []) (boxS 82 z) (fun r m => isR C342.P [33] v r
 ∧ isB 82 y m) (fun _ _ => False)) = (PR z ∧ ∀ (u : row_reader), u = (S343 z).snd → PR u ∧ ∀ (u_1 : row_reader), u_1 = (S344 u).snd → api_Prefix.mk (S343
 z).fst (S344 u).fst = v ∧ u_1 = y) := by kernel_rfl
end Go.Rx
namespace Go.Rx
open Go.Ab Go.L21
set_option maxRecDepth 100000
set_option maxHeartbeats 20000000
set_option linter.unusedVariables false
/-- (*interregnum/row.reader).rule -/
noncomputable def C346 : Cfg S := { P := P7, inl := [], K := [(58, ctb (S := S) P7 82 [] [9] (fun z => (none, (S358 z).1, (S358 z).2))), (44, ctb (S := S) P7 82 [] [3] (fun z => (some (P344 z), (S344 z).1, (S344 z).2))), (42, ctb (S := S) P7 82 [] [33] (fun z => (some (P342 z), (S342 z).1, (S342 z).2)))], ann := [] }
noncomputable abbrev W346 : S.A 82 → CTB S 82 [85] [] := (fun z => (some (P346 z), (S346 z).1, (S346 z).2))
abbrev Ok346 : Prop := ConOk P7 46 (ctb (S := S) P7 82 [] [85] W346) ∧ ConMon (ctb (S := S) P7 82 [] [85] W346)
theorem q346 (z : row_reader) (v : HR S [85]) (y : row_reader) : (Xf C346 6 (emp 1) 46 (.loc 0 0 :: argsA C346 []) (boxS 82 z) (fun r m => isR C346.P [85] v r
 ∧ isB 82 y m) (fun _ _ => False)) = (PR z ∧ ∀ (u : row_reader), u = (S342 z).snd → PR u ∧ ∀ (u_1 : row_reader), u_1 = (S344 u).snd → PR u_1 ∧ ∀ (u_2 :
 row_reader), u_2 = (S344 u_1).snd → ∀ (u_3 : row_reader), u_3 = (S358 u_2).snd → PR u_3 ∧ ∀ (u_4 : row_reader), u_4 = (S344 u_3).snd → api_Rule.mk (S342
 z).fst (S344 u).fst (S344 u_1).fst ((S358 u_2).fst.toList == (ByteArray.mk #[(49 : UInt8)]).toList) (S344 u_3).fst = v ∧ u_4 = y) := by kernel_rfl
end Go.Rx
/-! The reader of texts. -/
namespace Go.Rx
open Go.Ab Go.L21
set_option linter.unusedVariables false
set_option maxRecDepth 100000
theorem sub_drop {α : Type} (l : List α) {k : Int} {n : Nat} (h : k.toNat = n) : sub l k (l.length : Int) = l.drop n := by
  unfold sub; rw [h, Int.toNat_natCast, List.take_of_length_le (Nat.le_refl _)]
theorem valI_ok (s : ByteArray) : P333 (valI s) := by
  unfold valI S337 P333
  generalize s.data.toList = l
  have hs : -9223372036854775808 ≤ Lib.atoiSat l ∧ Lib.atoiSat l ≤ 9223372036854775807 := by
    unfold Lib.atoiSat
    split <;> omega
  cases h : Lib.atoiAll l
  rotate_left
  · exact ⟨by show (-9223372036854775808 : Int) ≤ 0; omega, by show (0 : Int) ≤ _; omega⟩
  · exact hs
  · rename_i v
    show -9223372036854775808 ≤ v ∧ v ≤ 9223372036854775807
    unfold Lib.atoiAll at h
    split at h
    · cases h
    · split at h
      · cases h
      · cases h
      · rename_i u hu
        have := Lib.parseMag_lt hu
        simp only at h
        split at h
        · cases h
        · split at h
          · cases h
          · rename_i c r _ h1 h2
            simp only [Lib.NumEnd.ok.injEq] at h
            subst h
            by_cases hn : c.toNat = 45
            · rw [if_pos hn]
              have : ¬ (9223372036854775808 < u) := fun h => h2 ⟨hn, h⟩
              omega
            · rw [if_neg hn]
              have : ¬ (9223372036854775808 ≤ u) := fun h => h1 ⟨hn, h⟩
              omega
theorem parseM_le (M : Nat) : ∀ (l : List UInt8) (acc u : Nat), acc ≤ M → Lib.parseUintM M acc l = .ok u → u ≤ M
  | [], acc, u, ha, h => by cases h; exact ha
  | c :: r, acc, u, ha, h => by
    unfold Lib.parseUintM at h
    split at h
    · split at h
      · cases h
      · split at h
        · cases h
        · rename_i h3
          exact parseM_le M r _ u (by omega) h
    · cases h
theorem s357_range (s : ByteArray) : 0 ≤ valU s ∧ valU s ≤ 4294967295 := by
  unfold valU S357
  show 0 ≤ (endN (Lib.parseUintB 32 s.data.toList) (2 ^ 32 - 1)).1 ∧ (endN (Lib.parseUintB 32 s.data.toList) (2 ^ 32 - 1)).1 ≤ 4294967295
  cases h : Lib.parseUintB 32 s.data.toList
  rotate_left
  · exact ⟨by show (0 : Int) ≤ 0; omega, by show (0 : Int) ≤ _; omega⟩
  · exact ⟨by show (0 : Int) ≤ (2 ^ 32 - 1); omega, by show (2 ^ 32 - 1 : Int) ≤ _; omega⟩
  · rename_i v
    have : v ≤ 2 ^ 32 - 1 := by
      unfold Lib.parseUintB at h
      split at h
      · cases h
      · exact parseM_le _ _ 0 v (Nat.zero_le _) h
    exact ⟨by show (0 : Int) ≤ (v : Int); omega, by show (v : Int) ≤ _; omega⟩
theorem rText_cons (s : ByteArray) (l : List ByteArray) (b : Bool) : rText ⟨s :: l, b⟩ = (s, ⟨l, b⟩) := rfl
theorem rText_eq (r : row_reader) : (∀ x : Unit, r.flist = [] → rText r = (bs [], ⟨[], true⟩)) ∧ ∀ s l, r.flist = s :: l → rText r = (s, ⟨l, r.fbad⟩) := by
  obtain ⟨l, b⟩ := r
  exact ⟨fun _ h => by cases h; rfl, fun s l h => by cases h; rfl⟩
theorem run358 (z : row_reader) : RunB C358 6 58 82 [9] z [] (W358 z) [] := by
  intro _
  refine of_eq (q358 z _ _) ?_
  obtain ⟨l, b⟩ := z
  cases l with
  | nil => exact bif_of (fun _ => ⟨rfl, rfl⟩) (fun h => by simp at h)
  | cons s l =>
    refine bif_of (fun h => ?_) (fun h => ⟨⟨by omega, ?_⟩, ⟨by omega, ?_, by omega⟩, rfl, ?_⟩)
    · have h := of_decide_eq_true h
      simp only [List.length_cons] at h
      omega
    · simp only [List.length_cons]; omega
    · simp only [List.length_cons]; omega
    · rw [sub_drop _ (n := 1) rfl]
      rfl
theorem ok358 : Ok358 := bx_ok (C := C358) kok_nil mx7 (by kernel_rfl) fun x _ => run358 x
theorem pr_text {z : row_reader} (h : PR z) : (S358 z).1.size ≤ 1099511627776 ∧ PR (S358 z).2 := by
  obtain ⟨h⟩ := h
  obtain ⟨l, b⟩ := z
  cases l with
  | nil => exact ⟨by show (bs []).size ≤ _; rw [size_bs]; exact Nat.zero_le _, ⟨fun s hs => by cases hs⟩⟩
  | cons s l => exact ⟨h s List.mem_cons_self, ⟨fun t ht => h t (List.mem_cons_of_mem _ ht)⟩⟩
theorem s344 (z : row_reader) : S344 z = (valI (rText z).1, ⟨(rText z).2.flist, (rText z).2.fbad || (S337 (rText z).1).2⟩) := by
  unfold S344; rw [lk_eq]; rfl
theorem s343 (z : row_reader) : S343 z = (valU (rText z).1, ⟨(rText z).2.flist, (rText z).2.fbad || (S357 (rText z).1 10 32).2⟩) := by
  unfold S343; rw [lk_eq]; rfl
theorem s342 (z : row_reader) : S342 z = rPre z := by unfold S342; rw [lk_eq]
theorem s346 (z : row_reader) : S346 z = rRule z := by unfold S346; rw [lk_eq]
theorem pr_num {z : row_reader} (h : PR z) : PR (S344 z).2 := by
  rw [s344]; exact ⟨(pr_text h).2.1⟩
theorem pr_addr {z : row_reader} (h : PR z) : PR (S343 z).2 := by
  rw [s343]; exact ⟨(pr_text h).2.1⟩
theorem run344 (z : row_reader) : RunB C344 6 44 82 [3] z [] (W344 z) [] := by
  intro hp
  have h : PR z := hp _ rfl
  refine of_eq (q344 z _ _) fun u hu => ?_
  subst hu
  refine ⟨?_, ?_, ?_⟩
  · exact Nat.le_trans (pr_text h).1 (by decide)
  · show _ = (S344 z).1; rw [s344]; rfl
  · show _ = (S344 z).2; rw [s344]; rfl
theorem ok344 : Ok344 := bx_ok (C := C344) (kok_cons ok337 (kok_cons ok358 kok_nil)) mx7 (by kernel_rfl) fun x _ => run344 x
theorem run343 (z : row_reader) : RunB C343 6 43 82 [31] z [] (W343 z) [] := by
  intro hp
  have h : PR z := hp _ rfl
  refine of_eq (q343 z _ _) fun u hu => ?_
  subst hu
  refine ⟨⟨?_, rfl, .inl rfl⟩, ?_, ?_⟩
  · exact Nat.le_trans (pr_text h).1 (by decide)
  · show _ = (S343 z).1; rw [s343]; exact wrap32 (s357_range _)
  · show _ = (S343 z).2; rw [s343]; rfl
theorem ok343 : Ok343 := bx_ok (C := C343) (kok_cons ok357 (kok_cons ok358 kok_nil)) mx7 (by kernel_rfl) fun x _ => run343 x
theorem n344 (z : row_reader) : rNum z = S344 z := by rw [s344]; rfl
theorem n343 (z : row_reader) : rAddr z = S343 z := by rw [s343]; rfl
theorem n358 (z : row_reader) : rText z = S358 z := rfl
theorem r342 (z : row_reader) : S342 z = (⟨(S343 z).1, (S344 (S343 z).2).1⟩, (S344 (S343 z).2).2) := by
  rw [s342]
  show (((⟨(rAddr z).1, (rNum (rAddr z).2).1⟩ : api_Prefix), (rNum (rAddr z).2).2) : api_Prefix × row_reader) = _
  rw [n343, n344]
theorem run342 (z : row_reader) : RunB C342 6 42 82 [33] z [] (W342 z) [] := by
  intro hp
  have h : PR z := hp _ rfl
  refine of_eq (q342 z _ _) ⟨h, fun u hu => ⟨hu ▸ pr_addr h, fun w hw => ?_⟩⟩
  subst hu hw
  show _ = (S342 z).1 ∧ _ = (S342 z).2
  rw [r342]
  exact ⟨rfl, rfl⟩
theorem ok342 : Ok342 := bx_ok (C := C342) (kok_cons ok344 (kok_cons ok343 kok_nil)) mx7 (by kernel_rfl) fun x _ => run342 x
theorem pr_pre {z : row_reader} (h : PR z) : PR (S342 z).2 := by
  rw [s342]
  show PR (rNum (rAddr z).2).2
  rw [n343, n344]
  exact pr_num (pr_addr h)
theorem r346 (z : row_reader) : S346 z =
    (⟨(S342 z).1, (S344 (S342 z).2).1, (S344 (S344 (S342 z).2).2).1, (S358 (S344 (S344 (S342 z).2).2).2).1.toList == [49], (S344 (S358 (S344 (S344 (S342 z).2).2).2).2).1⟩, (S344 (S358 (S344 (S344 (S342 z).2).2).2).2).2) := by
  rw [s346]
  show (((⟨(rPre z).1, (rNum (rPre z).2).1, (rNum (rNum (rPre z).2).2).1, (rText (rNum (rNum (rPre z).2).2).2).1.toList == [49], (rNum (rText (rNum (rNum (rPre z).2).2).2).2).1⟩ : api_Rule), (rNum (rText (rNum (rNum (rPre z).2).2).2).2).2) : api_Rule × row_reader) = _
  rw [← s342]
  simp only [n344, n358]
theorem run346 (z : row_reader) : RunB C346 6 46 82 [85] z [] (W346 z) [] := by
  intro hp
  have h : PR z := hp _ rfl
  refine of_eq (q346 z _ _) ⟨h, fun u hu => ?_⟩
  subst hu
  refine ⟨pr_pre h, fun u hu => ?_⟩
  subst hu
  refine ⟨pr_num (pr_pre h), fun u hu => ?_⟩
  subst hu
  intro u hu
  subst hu
  refine ⟨(pr_text (pr_num (pr_num (pr_pre h)))).2, fun u hu => ?_⟩
  subst hu
  show _ = (S346 z).1 ∧ _ = (S346 z).2
  rw [r346]
  refine ⟨?_, rfl⟩
  have : (⟨#[(49 : UInt8)]⟩ : ByteArray).toList = [49] := by rw [Lib.toList_data]
  rw [this]
theorem ok346 : Ok346 := bx_ok (C := C346) (kok_cons ok358 (kok_cons ok344 (kok_cons ok342 kok_nil))) mx7 (by kernel_rfl) fun x _ => run346 x
theorem pr_rule {z : row_reader} (h : PR z) : PR (S346 z).2 := by
  rw [r346]; exact pr_num (pr_text (pr_num (pr_num (pr_pre h)))).2
end Go.Rx
namespace Go.Rx
open Go.Ab Go.L21
set_option maxRecDepth 100000
set_option maxHeartbeats 20000000
set_option linter.unusedVariables false
/-- interregnum/row.ReadPeer -/
noncomputable def C324 : Cfg S := { P := P7, inl := [], K := [(15, ctr P7 [9] [22, 4] (fun x0 => (some (P315 x0), S315 x0))), (22, ctr P7 [42] [9] (fun x0 => (some (P322 x0), S322 x0))), (44, ctb (S := S) P7 82 [] [3] (fun z => (some (P344 z), (S344 z).1, (S344 z).2))), (46, ctb (S := S) P7 82 [] [85] (fun z => (some (P346 z), (S346 z).1, (S346 z).2)))], ann := [(24, [(6, .hyb [(0, ([], [1])), (1, ([0, 3], [5, 7])), (2, ([], [3])), (4, ([3], [5])), (6, ([], [7]))] (.one 0 (.one 2 (.alt 1 (.alt 3 (.one 4 (.alt 5 (.one 6 (.alt 7 .done .done)) .done)) .done) (.alt 3 (.one 1 (.one 4 (.alt 5 (.one 6 (.alt 7 .done .done)) .done))) .done))))), (8, .hyb [(0, ([], [1])), (1, ([0, 3], [5, 7])), (2, ([], [3])), (4, ([3], [5])), (6, ([], [7]))] (.one 0 (.one 2 (.alt 1 (.alt 3 (.one 4 (.alt 5 (.one 6 (.alt 7 .done .done)) .done)) .done) (.alt 3 (.one 1 (.one 4 (.alt 5 (.one 6 (.alt 7 .done .done)) .done))) .done))))), (7, .loop [(.ce 4 0, .sl 9), (.ce 4 1, .bool), (.ce 5 0, .int .i64), (.ce 5 1, .int .i64), (.ce 5 2, .own 85), (.ce 5 3, .own 85)]), (4, .loop [(.sl 6, .int .i64), (.ce 4 0, .sl 9), (.ce 4 1, .bool), (.ce 5 0, .int .i64), (.ce 5 1, .int .i64), (.ce 5 2, .own 85), (.ce 5 3, .own 85)])])] }
abbrev W324 : CT S [42, 4] [9] := (fun x0 => (some (P324 x0), S324 x0))
abbrev Ok324 : Prop := ConOk P7 24 (ctr P7 [9] [42, 4] W324) ∧ ConMon (ctr P7 [9] [42, 4] W324)
theorem q324 (x0 : ByteArray) (v : HR S [42, 4]) : (Xf C324 9 (emp 0) 24 (argsA C324 [⟨9, x0⟩]) (emp 0) (fun r _ => isR C324.P [42, 4] v r) (fun _ _ => False))
 = (x0.size.le (nat_lit 1099511627776) ∧ PR (row_reader.mk (S315 x0).fst (!(S315 x0).snd && true)) ∧ ∀ (u : row_reader), u = (S344 (row_reader.mk (S315 x0).fst
 (!(S315 x0).snd && true))).snd → PR u ∧ ∀ (u_1 : row_reader), u_1 = (S344 u).snd → PR u_1 ∧ ∀ (u_2 : row_reader), u_2 = (S344 u_1).snd → LOOP (fun (h : Int ×
 List ByteArray × Bool × Int × Int × List api_Rule × List api_Rule) (J : Int × List ByteArray × Bool × Int × Int × List api_Rule × List api_Rule → Prop) => bif
 decide ((0 : Int) < h.fst) && !h.snd.snd.fst then ((PR (row_reader.mk h.snd.fst h.snd.snd.fst) ∧ ∀ (u : row_reader), u = (S346 (row_reader.mk h.snd.fst
 h.snd.snd.fst)).snd → ((h.snd.snd.snd.snd.snd.fst.length = h.snd.snd.snd.snd.snd.fst.length ∧ (h.snd.snd.snd.snd.snd.fst.length + [(S346 (row_reader.mk
 h.snd.fst h.snd.snd.fst)).fst].length) * nat_lit 48 ≤ nat_lit 140737488355328) ∧ ∀ (y : List (api_Rule)), y = h.snd.snd.snd.snd.snd.fst ++ [(S346
 (row_reader.mk h.snd.fst h.snd.snd.fst)).fst] → ((y.length = y.length ∧ h.snd.snd.snd.snd.snd.snd.length = h.snd.snd.snd.snd.snd.snd.length) ∧ J
 (IntKind.i64.wrap (h.fst - (1 : Int)), u.flist, u.fbad, h.snd.snd.snd.fst, h.snd.snd.snd.snd.fst, y, h.snd.snd.snd.snd.snd.snd)) ∧ True) ∧ True) ∧ True) ∧ (PR
 (row_reader.mk h.snd.fst h.snd.snd.fst) ∧ ∀ (u : row_reader), u = (S346 (row_reader.mk h.snd.fst h.snd.snd.fst)).snd → ((h.snd.snd.snd.snd.snd.fst.length =
 h.snd.snd.snd.snd.snd.fst.length ∧ (h.snd.snd.snd.snd.snd.fst.length + [(S346 (row_reader.mk h.snd.fst h.snd.snd.fst)).fst].length) * nat_lit 48 ≤ nat_lit
 140737488355328) ∧ ∀ (y : List (api_Rule)), y = h.snd.snd.snd.snd.snd.fst ++ [(S346 (row_reader.mk h.snd.fst h.snd.snd.fst)).fst] → ((y.length = y.length ∧
 h.snd.snd.snd.snd.snd.snd.length = h.snd.snd.snd.snd.snd.snd.length) ∧ J (IntKind.i64.wrap (h.fst - (1 : Int)), u.flist, u.fbad, h.snd.snd.snd.fst,
 h.snd.snd.snd.snd.fst, y, h.snd.snd.snd.snd.snd.snd)) ∧ True) ∧ True) ∧ True else (h.snd.snd.snd.snd.snd.fst.length = h.snd.snd.snd.snd.snd.fst.length ∧
 h.snd.snd.snd.snd.snd.snd.length = h.snd.snd.snd.snd.snd.snd.length) ∧ LOOP (fun (h : List ByteArray × Bool × Int × Int × List api_Rule × List api_Rule) (J :
 List ByteArray × Bool × Int × Int × List api_Rule × List api_Rule → Prop) => bif decide ((6 : Int) ≤ (↑h.fst.length : Int)) && !h.snd.fst then ((PR
 (row_reader.mk h.fst h.snd.fst) ∧ ∀ (u : row_reader), u = (S346 (row_reader.mk h.fst h.snd.fst)).snd → ((h.snd.snd.snd.snd.snd.length =
 h.snd.snd.snd.snd.snd.length ∧ (h.snd.snd.snd.snd.snd.length + [(S346 (row_reader.mk h.fst h.snd.fst)).fst].length) * nat_lit 48 ≤ nat_lit 140737488355328) ∧
 ∀ (y : List (api_Rule)), y = h.snd.snd.snd.snd.snd ++ [(S346 (row_reader.mk h.fst h.snd.fst)).fst] → ((h.snd.snd.snd.snd.fst.length =
 h.snd.snd.snd.snd.fst.length ∧ y.length = y.length) ∧ J (u.flist, u.fbad, h.snd.snd.fst, h.snd.snd.snd.fst, h.snd.snd.snd.snd.fst, y)) ∧ True) ∧ True) ∧ True)
 ∧ (PR (row_reader.mk h.fst h.snd.fst) ∧ ∀ (u : row_reader), u = (S346 (row_reader.mk h.fst h.snd.fst)).snd → ((h.snd.snd.snd.snd.snd.length =
 h.snd.snd.snd.snd.snd.length ∧ (h.snd.snd.snd.snd.snd.length + [(S346 (row_reader.mk h.fst h.snd.fst)).fst].length) * nat_lit 48 ≤ nat_lit 140737488355328) ∧
 ∀ (y : List (api_Rule)), y = h.snd.snd.snd.snd.snd ++ [(S346 (row_reader.mk h.fst h.snd.fst)).fst] → ((h.snd.snd.snd.snd.fst.length =
 h.snd.snd.snd.snd.fst.length ∧ y.length = y.length) ∧ J (u.flist, u.fbad, h.snd.snd.fst, h.snd.snd.snd.fst, h.snd.snd.snd.snd.fst, y)) ∧ True) ∧ True) ∧ True
 else bif h.snd.fst then (api_PeerConf.mk (0 : Int) (0 : Int) [] [], false) = v else OkP (api_PeerConf.mk h.snd.snd.fst h.snd.snd.snd.fst h.snd.snd.snd.snd.fst
 h.snd.snd.snd.snd.snd) ∧ bif !(S322 (api_PeerConf.mk h.snd.snd.fst h.snd.snd.snd.fst h.snd.snd.snd.snd.fst h.snd.snd.snd.snd.snd)).toList == x0.toList then
 (api_PeerConf.mk (0 : Int) (0 : Int) [] [], false) = v else (api_PeerConf.mk h.snd.snd.fst h.snd.snd.snd.fst h.snd.snd.snd.snd.fst h.snd.snd.snd.snd.snd,
 true) = v) h.snd) ((S344 u_1).fst, u_2.flist, u_2.fbad, (S344 (row_reader.mk (S315 x0).fst (!(S315 x0).snd && true))).fst, (S344 u).fst, [], [])) := by
 kernel_rfl
end Go.Rx
/-! A peer out of its text. -/
namespace Go.Rx
open Go.Ab Go.L21
set_option linter.unusedVariables false
set_option maxRecDepth 100000
theorem t358 (r : row_reader) : (S358 r).2.flist = r.flist.drop 1 ∧ ((S358 r).2.fbad = false → r.fbad = false ∧ 1 ≤ r.flist.length) := by
  obtain ⟨l, b⟩ := r
  cases l with
  | nil => exact ⟨rfl, fun h => by cases h⟩
  | cons s l => exact ⟨rfl, fun h => ⟨h, by simp⟩⟩
theorem t344 (r : row_reader) : (S344 r).2.flist = r.flist.drop 1 ∧ ((S344 r).2.fbad = false → r.fbad = false ∧ 1 ≤ r.flist.length) := by
  rw [s344]
  refine ⟨(t358 r).1, fun h => (t358 r).2 ?_⟩
  have h : ((rText r).2.fbad || (S337 (rText r).1).2) = false := h
  rw [Bool.or_eq_false_iff] at h
  exact h.1
theorem t343 (r : row_reader) : (S343 r).2.flist = r.flist.drop 1 ∧ ((S343 r).2.fbad = false → r.fbad = false ∧ 1 ≤ r.flist.length) := by
  rw [s343]
  refine ⟨(t358 r).1, fun h => (t358 r).2 ?_⟩
  have h : ((rText r).2.fbad || (S357 (rText r).1 10 32).2) = false := h
  rw [Bool.or_eq_false_iff] at h
  exact h.1
theorem v344 (r : row_reader) : P333 (S344 r).1 := by rw [s344]; exact valI_ok _
theorem v343 (r : row_reader) : 0 ≤ (S343 r).1 ∧ (S343 r).1 ≤ 4294967295 := by rw [s343]; exact s357_range _
theorem t346 (r : row_reader) : (S346 r).2.flist = r.flist.drop 6 ∧ ((S346 r).2.fbad = false → r.fbad = false ∧ 6 ≤ r.flist.length) ∧ okRule (S346 r).1 := by
  have key : ∀ r1 r2 r3 r4 r5 : row_reader, r1 = (S343 r).2 → r2 = (S344 r1).2 → r3 = (S344 r2).2 → r4 = (S344 r3).2 → r5 = (S358 r4).2 → S346 r = (⟨⟨(S343 r).1, (S344 r1).1⟩, (S344 r2).1, (S344 r3).1, (S358 r4).1.toList == [49], (S344 r5).1⟩, (S344 r5).2) := by
    rintro _ _ _ _ _ rfl rfl rfl rfl rfl
    rw [r346, r342]
  have k := key _ _ _ _ _ rfl rfl rfl rfl rfl
  have a1 := t343 r
  generalize (S343 r).2 = r1 at *
  have a2 := t344 r1
  generalize e2 : (S344 r1).2 = r2 at *
  have a3 := t344 r2
  generalize e3 : (S344 r2).2 = r3 at *
  have a4 := t344 r3
  generalize e4 : (S344 r3).2 = r4 at *
  have a5 := t358 r4
  generalize e5 : (S358 r4).2 = r5 at *
  have a6 := t344 r5
  rw [k]
  refine ⟨?_, fun h => ?_, v343 _, v344 _, v344 _, v344 _, v344 _⟩
  · show (S344 r5).2.flist = _
    rw [a6.1, a5.1, a4.1, a3.1, a2.1, a1.1]
    simp only [List.drop_drop]
  · have b6 := a6.2 h
    have b5 := a5.2 b6.1
    have b4 := a4.2 b5.1
    have b3 := a3.2 b4.1
    have b2 := a2.2 b3.1
    have b1 := a1.2 b2.1
    refine ⟨b1.1, ?_⟩
    have := b6.2
    rw [a5.1, a4.1, a3.1, a2.1, a1.1] at this
    simp only [List.drop_drop, List.length_drop] at this
    omega
theorem splitN_size (n : Nat) (l : List UInt8) {t : List (List UInt8)} (h : splitN n l = some t) : ∀ y ∈ t, y.length ≤ l.length := by
  induction n generalizing l t with
  | zero => cases h; intro y hy; cases hy
  | succ n ih =>
    unfold splitN at h
    split at h
    · cases h; intro y hy; cases hy
    · split at h
      · cases h
      · rename_i x r hs
        cases hq : splitN n r with
        | none => rw [hq] at h; cases h
        | some u =>
          rw [hq] at h
          cases h
          have h1 := split1_lt hs
          intro y hy
          rcases List.mem_cons.1 hy with rfl | hy
          · rw [split1_is] at hs
            split at hs
            · cases hs
              rw [List.length_take, List.length_drop]; omega
            · cases hs
          · have := ih r hq y hy
            omega
theorem s315_size (x : ByteArray) : ∀ s ∈ (S315 x).1, s.size ≤ x.size := by
  unfold S315
  split
  · intro s hs; cases hs
  · rename_i t ht
    intro s hs
    obtain ⟨y, hy, rfl⟩ := List.mem_map.1 hs
    rw [size_bs]
    exact splitN_size _ _ ht y hy
theorem peer0 (p : api_PeerConf × row_reader) (s : ByteArray) : (match p with | (p, q) => bif q.fbad || !((S322 p).toList == s.toList) then ((⟨0, 0, [], []⟩, false) : api_PeerConf × Bool) else (p, true)) = bif p.2.fbad || !((S322 p.1).toList == s.toList) then (⟨0, 0, [], []⟩, false) else (p.1, true) := rfl
theorem readPeer_eq (r u u1 u2 : row_reader) (hu : u = (S344 r).2) (h1 : u1 = (S344 u).2) (h2 : u2 = (S344 u1).2) (X Y : List api_Rule × row_reader) (hX : inF (u2.flist.length + 1) (S344 u1).1 u2 = X) (hY : outF (X.2.flist.length + 1) X.2 = Y) : readPeer r = (⟨(S344 r).1, (S344 u).1, X.1, Y.1⟩, Y.2) := by
  have e1 : rNum r = ((S344 r).1, u) := by rw [n344, hu]
  have e2 : rNum u = ((S344 u).1, u1) := by rw [n344, h1]
  have e3 : rNum u1 = ((S344 u1).1, u2) := by rw [n344, h2]
  unfold readPeer
  rw [e1]; dsimp only
  rw [e2]; dsimp only
  rw [e3]; dsimp only
  rw [hX]
  obtain ⟨x1, x2⟩ := X
  dsimp only
  rw [hY]
theorem inF_go {k : Nat} {n : Int} {r : row_reader} (h : (decide (0 < n) && !r.fbad) = true) : inF (k + 1) n r = ((S346 r).1 :: (inF k (n - 1) (S346 r).2).1, (inF k (n - 1) (S346 r).2).2) := by
  rw [s346]
  show (match decide (0 < n) && !r.fbad with | true => _ | false => _) = _
  rw [h]
theorem inF_end {k : Nat} {n : Int} {r : row_reader} (h : (decide (0 < n) && !r.fbad) = false) : inF k n r = ([], r) := by
  cases k with
  | zero => rfl
  | succ k =>
  show (match decide (0 < n) && !r.fbad with | true => _ | false => _) = _
  rw [h]
theorem outF_go {k : Nat} {r : row_reader} (h : (decide (6 ≤ r.flist.length) && !r.fbad) = true) : outF (k + 1) r = ((S346 r).1 :: (outF k (S346 r).2).1, (outF k (S346 r).2).2) := by
  rw [s346]
  show (match decide (6 ≤ r.flist.length) && !r.fbad with | true => _ | false => _) = _
  rw [h]
theorem outF_end {k : Nat} {r : row_reader} (h : (decide (6 ≤ r.flist.length) && !r.fbad) = false) : outF k r = ([], r) := by
  cases k with
  | zero => rfl
  | succ k =>
  show (match decide (6 ≤ r.flist.length) && !r.fbad with | true => _ | false => _) = _
  rw [h]
def fuel (r : row_reader) : Nat := r.flist.length + (bif r.fbad then 0 else 1)
/-- The loop over the first rules. -/
def In1 (a b : Int) (X : List api_Rule × row_reader) (L0 : Nat) (y : Int × List ByteArray × Bool × Int × Int × List api_Rule × List api_Rule) : Prop :=
  ∃ n r ins k, y = (n, r.flist, r.fbad, a, b, ins, []) ∧ PR r ∧ P333 n ∧ fuel r ≤ k ∧ (ins ++ (inF k n r).1, (inF k n r).2) = X ∧ (r.fbad = false → 6 * ins.length + r.flist.length = L0) ∧ ins.length + r.flist.length ≤ L0 + (bif r.fbad then 1 else 0) ∧ ∀ x ∈ ins, okRule x
def In2 (a b : Int) (I : List api_Rule) (Y : List api_Rule × row_reader) (L0 : Nat) (y : List ByteArray × Bool × Int × Int × List api_Rule × List api_Rule) : Prop :=
  ∃ r outs k, y = (r.flist, r.fbad, a, b, I, outs) ∧ PR r ∧ fuel r ≤ k ∧ (outs ++ (outF k r).1, (outF k r).2) = Y ∧ (r.fbad = false → 6 * (I.length + outs.length) + r.flist.length = L0) ∧ outs.length + r.flist.length ≤ L0 + (bif r.fbad then 1 else 0) ∧ (∀ x ∈ I, okRule x) ∧ ∀ x ∈ outs, okRule x
theorem fuel_lt {r : row_reader} (hb : r.fbad = false) : fuel (S346 r).2 < fuel r := by
  obtain ⟨t1, t2, t3⟩ := t346 r
  have hlen : (S346 r).2.flist.length = r.flist.length - 6 := by rw [t1, List.length_drop]
  unfold fuel
  rw [hlen, hb]
  cases hq : (S346 r).2.fbad with
  | true => show _ + 0 < _ + 1; omega
  | false => have := (t2 hq).2; show _ + 1 < _ + 1; omega
theorem bif1 (b : Bool) : (bif b then 1 else 0) ≤ 1 := by cases b <;> decide
theorem step1 {a b n : Int} {X : List api_Rule × row_reader} {L0 k : Nat} {r : row_reader} {ins : List api_Rule} (hpr : PR r) (hn : P333 n) (hk : fuel r ≤ k) (hX : (ins ++ (inF k n r).1, (inF k n r).2) = X) (h6 : r.fbad = false → 6 * ins.length + r.flist.length = L0) (hl : ins.length + r.flist.length ≤ L0 + (bif r.fbad then 1 else 0)) (hok : ∀ x ∈ ins, okRule x) (hc : (decide (0 < n) && !r.fbad) = true) :
    In1 a b X L0 (IntKind.i64.wrap (n - 1), (S346 r).2.flist, (S346 r).2.fbad, a, b, ins ++ [(S346 r).1], []) := by
  have hc' := hc
  simp only [Bool.and_eq_true, decide_eq_true_eq, Bool.not_eq_true'] at hc
  obtain ⟨hn0, hb⟩ := hc
  obtain ⟨t1, t2, t3⟩ := t346 r
  have hlen : (S346 r).2.flist.length = r.flist.length - 6 := by rw [t1, List.length_drop]
  have hw : IntKind.i64.wrap (n - 1) = n - 1 := wrap64 (by unfold P333 at hn; omega)
  have hf := fuel_lt hb
  obtain ⟨k, rfl⟩ : ∃ j, k = j + 1 := ⟨k - 1, by omega⟩
  rw [inF_go hc'] at hX
  rw [hb] at hl
  have hl : ins.length + r.flist.length ≤ L0 + 0 := hl
  have h6 := h6 hb
  refine ⟨n - 1, (S346 r).2, ins ++ [(S346 r).1], k, by rw [hw], pr_rule hpr, by unfold P333 at hn ⊢; omega, by omega, ?_, fun h => ?_, ?_, ?_⟩
  · rw [← hX, List.append_assoc]; rfl
  · have := (t2 h).2
    rw [hlen, List.length_append]
    simp only [List.length_cons, List.length_nil]
    omega
  · rw [hlen, List.length_append]
    simp only [List.length_cons, List.length_nil]
    cases hq : (S346 r).2.fbad with
    | true => show _ ≤ L0 + 1; omega
    | false => have := (t2 hq).2; show _ ≤ L0 + 0; omega
  · intro x hx
    rcases List.mem_append.1 hx with hx | hx
    · exact hok x hx
    · rw [List.mem_singleton.1 hx]; exact t3
theorem step2 {a b : Int} {I : List api_Rule} {Y : List api_Rule × row_reader} {L0 k : Nat} {r : row_reader} {outs : List api_Rule} (hpr : PR r) (hk : fuel r ≤ k) (hX : (outs ++ (outF k r).1, (outF k r).2) = Y) (h6 : r.fbad = false → 6 * (I.length + outs.length) + r.flist.length = L0) (hl : outs.length + r.flist.length ≤ L0 + (bif r.fbad then 1 else 0)) (hI : ∀ x ∈ I, okRule x) (hok : ∀ x ∈ outs, okRule x) (hc : (decide (6 ≤ r.flist.length) && !r.fbad) = true) :
    In2 a b I Y L0 ((S346 r).2.flist, (S346 r).2.fbad, a, b, I, outs ++ [(S346 r).1]) := by
  have hc' := hc
  simp only [Bool.and_eq_true, decide_eq_true_eq, Bool.not_eq_true'] at hc
  obtain ⟨hn0, hb⟩ := hc
  obtain ⟨t1, t2, t3⟩ := t346 r
  have hlen : (S346 r).2.flist.length = r.flist.length - 6 := by rw [t1, List.length_drop]
  have hf := fuel_lt hb
  obtain ⟨k, rfl⟩ : ∃ j, k = j + 1 := ⟨k - 1, by omega⟩
  rw [outF_go hc'] at hX
  rw [hb] at hl
  have hl : outs.length + r.flist.length ≤ L0 + 0 := hl
  have h6 := h6 hb
  refine ⟨(S346 r).2, outs ++ [(S346 r).1], k, rfl, pr_rule hpr, by omega, ?_, fun h => ?_, ?_, hI, ?_⟩
  · rw [← hX, List.append_assoc]; rfl
  · rw [hlen, List.length_append]
    simp only [List.length_cons, List.length_nil]
    omega
  · rw [hlen, List.length_append]
    simp only [List.length_cons, List.length_nil]
    have := Nat.zero_le (bif (S346 r).2.fbad then 1 else 0)
    omega
  · intro x hx
    rcases List.mem_append.1 hx with hx | hx
    · exact hok x hx
    · rw [List.mem_singleton.1 hx]; exact t3
theorem run324 : RunC C324 9 24 [42, 4] [9] W324 [] := by
  intro (x : ByteArray) hx hp
  obtain ⟨hsz⟩ : IsP x := hp _ rfl
  have hlen := s315_len x
  have hsize := s315_size x
  refine of_eq (q324 x _) ?_
  rw [Bool.and_true]
  show _ ∧ _
  have hpr : PR ⟨(S315 x).1, !(S315 x).2⟩ := ⟨fun s hs => Nat.le_trans (hsize s hs) (by omega)⟩
  have hS : S324 x = rdPeer x := lk_eq _ _
  refine ⟨Nat.le_trans hsz (by decide), hpr, fun u hu => ?_⟩
  have hpu : PR u := hu ▸ pr_num hpr
  refine ⟨hpu, fun u1 h1 => ?_⟩
  have hp1 : PR u1 := h1 ▸ pr_num hpu
  refine ⟨hp1, fun u2 h2 => ?_⟩
  have hp2 : PR u2 := h2 ▸ pr_num hp1
  have hl2 : u2.flist.length ≤ 40000 := by
    rw [h2, (t344 u1).1, h1, (t344 u).1, hu, (t344 _).1]
    simp only [List.length_drop]
    omega
  generalize hX : inF (u2.flist.length + 1) (S344 u1).1 u2 = X
  generalize hY : outF (X.2.flist.length + 1) X.2 = Y
  have hread := readPeer_eq _ u u1 u2 hu h1 h2 X Y hX hY
  have hfin : S324 x = bif Y.2.fbad || !((S322 (⟨(S344 ⟨(S315 x).1, !(S315 x).2⟩).1, (S344 u).1, X.1, Y.1⟩)).toList == x.toList) then (⟨0, 0, [], []⟩, false) else (⟨(S344 ⟨(S315 x).1, !(S315 x).2⟩).1, (S344 u).1, X.1, Y.1⟩, true) := by
    rw [hS]; unfold rdPeer; rw [hread]
  have va := v344 ⟨(S315 x).1, !(S315 x).2⟩
  have vb := v344 u
  have vn := v344 u1
  show LOOP _ _
  revert hfin hX va vb vn
  generalize (S344 ⟨(S315 x).1, !(S315 x).2⟩).1 = a
  generalize (S344 u).1 = b
  generalize (S344 u1).1 = n0
  intro hX hfin va vb vn
  have f1 : ∀ r : row_reader, fuel r ≤ r.flist.length + 1 := fun r => by
    unfold fuel; cases r.fbad
    · exact Nat.le_refl _
    · exact Nat.le_succ _
  refine LOOP.of (In1 a b X u2.flist.length) (fun y => y.2.1.length + (bif y.2.2.1 then 0 else 1)) ⟨n0, u2, [], _, rfl, hp2, vn, f1 _, hX, fun _ => by simp, by simp, fun x hx => by cases hx⟩ ?_
  rintro _ ⟨n, r, ins, k, rfl, hpr, hn, hk, hX1, h6, hl, hok⟩ J hJ
  dsimp only
  have hb1 := bif1 r.fbad
  refine bif_of (fun hc => ?_) (fun hc => ?_)
  · have hs := step1 hpr hn hk hX1 h6 hl hok hc (a := a) (b := b)
    have hf := fuel_lt (r := r) (by simp only [Bool.and_eq_true, Bool.not_eq_true'] at hc; exact hc.2)
    have key : PR r ∧ ∀ w : row_reader, w = (S346 r).2 → ((ins.length = ins.length ∧ (ins.length + [(S346 r).1].length) * 48 ≤ 140737488355328) ∧ ∀ y : List api_Rule, y = ins ++ [(S346 r).1] → ((y.length = y.length ∧ ([] : List api_Rule).length = ([] : List api_Rule).length) ∧ J (IntKind.i64.wrap (n - 1), w.flist, w.fbad, a, b, y, [])) ∧ True) ∧ True := by
      refine ⟨hpr, fun w hw => ⟨⟨⟨rfl, ?_⟩, fun y hy => ⟨⟨⟨rfl, rfl⟩, ?_⟩, trivial⟩⟩, trivial⟩⟩
      · simp only [List.length_cons, List.length_nil]; omega
      · subst hw hy; exact hJ _ hs hf
    exact ⟨⟨key, trivial⟩, key, trivial⟩
  · rw [inF_end hc] at hX1
    have hX2 : X = (ins, r) := by rw [← hX1, List.append_nil]
    subst hX2
    refine ⟨⟨rfl, rfl⟩, LOOP.of (In2 a b ins Y u2.flist.length) (fun y => y.1.length + (bif y.2.1 then 0 else 1)) ⟨r, [], _, rfl, hpr, f1 _, hY, fun h => by simpa using h6 h, ?_, hok, fun x hx => by cases hx⟩ ?_⟩
    · simp only [List.length_nil]; omega
    rintro _ ⟨q, outs, k2, rfl, hpq, hk2, hY1, h62, hl2', hI, hok2⟩ J2 hJ2
    dsimp only
    have hb2 := bif1 q.fbad
    have e6 : decide ((6 : Int) ≤ (q.flist.length : Int)) = decide (6 ≤ q.flist.length) := decide_eq_decide.2 (by omega)
    rw [e6]
    refine bif_of (fun hc2 => ?_) (fun hc2 => ?_)
    · have hs := step2 hpq hk2 hY1 h62 hl2' hI hok2 hc2 (a := a) (b := b)
      have hf := fuel_lt (r := q) (by simp only [Bool.and_eq_true, Bool.not_eq_true'] at hc2; exact hc2.2)
      have key : PR q ∧ ∀ w : row_reader, w = (S346 q).2 → ((outs.length = outs.length ∧ (outs.length + [(S346 q).1].length) * 48 ≤ 140737488355328) ∧ ∀ y : List api_Rule, y = outs ++ [(S346 q).1] → ((ins.length = ins.length ∧ y.length = y.length) ∧ J2 (w.flist, w.fbad, a, b, ins, y)) ∧ True) ∧ True := by
        refine ⟨hpq, fun w hw => ⟨⟨⟨rfl, ?_⟩, fun y hy => ⟨⟨⟨rfl, rfl⟩, ?_⟩, trivial⟩⟩, trivial⟩⟩
        · simp only [List.length_cons, List.length_nil]; omega
        · subst hw hy; exact hJ2 _ hs hf
      exact ⟨⟨key, trivial⟩, key, trivial⟩
    · rw [outF_end hc2] at hY1
      have hY2 : Y = (outs, q) := by rw [← hY1, List.append_nil]
      subst hY2
      refine bif_of (fun hb => ?_) (fun hb => ⟨?_, ?_⟩)
      · show _ = S324 x
        rw [hfin, hb, Bool.true_or]; rfl
      · have h := h62 hb
        exact ⟨va, vb, by show ins.length ≤ 8000; omega, by show outs.length ≤ 8000; omega, hI, hok2⟩
      · rw [show S324 x = _ from hfin, hb, Bool.false_or]
        refine bif_of (fun h => ?_) (fun h => ?_)
        · show _ = (bif _ then _ else _)
          rw [h]; rfl
        · show _ = (bif _ then _ else _)
          rw [h]; rfl
theorem ok324 : Ok324 := con_ok (C := C324) (kok_cons ok315 (kok_cons ok322 (kok_cons ok344 (kok_cons ok346 kok_nil)))) mx7 (by kernel_rfl) run324
end Go.Rx
namespace Go.Rx
open Go.Ab Go.L21
set_option maxRecDepth 100000
set_option maxHeartbeats 20000000
set_option linter.unusedVariables false
/-- interregnum/script.step -/
noncomputable def C348 : Cfg S := { P := P7, inl := [], K := [(37, ctr P7 [9] [3, 67] (fun x0 => (some (P337 x0), S337 x0))), (57, ctr P7 [9, 3, 3] [59, 67] (fun x0 x1 x2 => (some (P357 x0 x1 x2), S357 x0 x1 x2))), (24, ctr P7 [9] [42, 4] (fun x0 => (some (P324 x0), S324 x0))), (61, ctr P7 [9, 9] [22] (fun x0 x1 => (some (P361 x0 x1), S361 x0 x1))), (62, ctr P7 [9] [9, 4] (fun x0 => (some (P362 x0), S362 x0))), (47, ctr P7 [61] [9] (fun x0 => (some (P347 x0), S347 x0)))], ann := [(48, [(7, .loop [(.tl 5, .run), (.sl 6, .bool), (.sl 32, .int .i64)])])] }
abbrev W348 : CT S [61, 4] [9] := (fun x0 => (some (P348 x0), S348 x0))
abbrev Ok348 : Prop := ConOk P7 48 (ctr P7 [9] [61, 4] W348) ∧ ConMon (ctr P7 [9] [61, 4] W348)
theorem q348 (x0 : ByteArray) (v : HR S [61, 4]) : (Xf C348 6 (emp 0) 48 (argsA C348 [⟨9, x0⟩]) (emp 0) (fun r _ => isR C348.P [61, 4] v r) (fun _ _ => False))
 = ((x0.size < nat_lit 4294967281 ∧ nat_lit 1 = nat_lit 1) ∧ bif !decide ((↑(S361 x0 (ByteArray.mk #[(32 : UInt8)])).length : Int) = (9 : Int)) then
 (api_Step.mk (0 : Int) (0 : Int) (0 : Int) [] (api_PeerConf.mk (0 : Int) (0 : Int) [] []) (api_Prefix.mk (0 : Int) (0 : Int)) (0 : Int) (0 : Int), false) = v
 else nat_lit 0 = nat_lit 0 ∧ LOOP (fun (h : List Int × Bool × Int) (J : List Int × Bool × Int → Prop) => bif decide (h.snd.snd < (↑(nat_lit 4) : Int)) then
 ((0 : Int) ≤ h.snd.snd ∧ h.snd.snd < (↑(nat_lit 4) : Int)) ∧ ((0 : Int) ≤ ix [(0 : Int), (1 : Int), (2 : Int), (5 : Int)] h.snd.snd ∧ ix [(0 : Int), (1 :
 Int), (2 : Int), (5 : Int)] h.snd.snd < (↑(S361 x0 (ByteArray.mk #[(32 : UInt8)])).length : Int)) ∧ (ix (S361 x0 (ByteArray.mk #[(32 : UInt8)])) (ix [(0 :
 Int), (1 : Int), (2 : Int), (5 : Int)] h.snd.snd)).size.le (nat_lit 281474976710656) ∧ ((0 : Int) ≤ h.snd.snd ∧ h.snd.snd < (↑(nat_lit 5) : Int)) ∧
 h.snd.snd.toNat < h.fst.length ∧ nat_lit 0 = nat_lit 0 ∧ J (h.fst.set h.snd.snd.toNat (S337 (ix (S361 x0 (ByteArray.mk #[(32 : UInt8)])) (ix [(0 : Int), (1 :
 Int), (2 : Int), (5 : Int)] h.snd.snd))).fst, h.snd.fst && !(S337 (ix (S361 x0 (ByteArray.mk #[(32 : UInt8)])) (ix [(0 : Int), (1 : Int), (2 : Int), (5 :
 Int)] h.snd.snd))).snd, IntKind.i64.wrap (h.snd.snd + (1 : Int))) else ((0 : Int) ≤ (3 : Int) ∧ (3 : Int) < (↑(S361 x0 (ByteArray.mk #[(32 : UInt8)])).length
 : Int)) ∧ ((ix (S361 x0 (ByteArray.mk #[(32 : UInt8)])) (3 : Int)).size ≤ nat_lit 281474976710656 ∧ (10 : Int) = (10 : Int) ∧ ((64 : Int) = (32 : Int) ∨ (64 :
 Int) = (64 : Int))) ∧ ((0 : Int) ≤ (4 : Int) ∧ (4 : Int) < (↑(S361 x0 (ByteArray.mk #[(32 : UInt8)])).length : Int)) ∧ ((ix (S361 x0 (ByteArray.mk #[(32 :
 UInt8)])) (4 : Int)).size ≤ nat_lit 281474976710656 ∧ (10 : Int) = (10 : Int) ∧ ((32 : Int) = (32 : Int) ∨ (32 : Int) = (64 : Int))) ∧ ((0 : Int) ≤ (6 : Int)
 ∧ (6 : Int) < (↑(S361 x0 (ByteArray.mk #[(32 : UInt8)])).length : Int)) ∧ ((ix (S361 x0 (ByteArray.mk #[(32 : UInt8)])) (6 : Int)).size ≤ nat_lit
 281474976710656 ∧ (10 : Int) = (10 : Int) ∧ ((32 : Int) = (32 : Int) ∨ (32 : Int) = (64 : Int))) ∧ ((0 : Int) ≤ (7 : Int) ∧ (7 : Int) < (↑(S361 x0
 (ByteArray.mk #[(32 : UInt8)])).length : Int)) ∧ (ix (S361 x0 (ByteArray.mk #[(32 : UInt8)])) (7 : Int)).size.le (nat_lit 1099511627776) ∧ ((0 : Int) ≤ (8 :
 Int) ∧ (8 : Int) < (↑(S361 x0 (ByteArray.mk #[(32 : UInt8)])).length : Int)) ∧ (ix (S361 x0 (ByteArray.mk #[(32 : UInt8)])) (8 : Int)).size.le (nat_lit
 1099511627776) ∧ IsP (S362 (ix (S361 x0 (ByteArray.mk #[(32 : UInt8)])) (8 : Int))).fst ∧ ((0 : Int) ≤ (0 : Int) ∧ (0 : Int) < (↑(nat_lit 5) : Int)) ∧ nat_lit
 0 < h.fst.length ∧ ((0 : Int) ≤ (1 : Int) ∧ (1 : Int) < (↑(nat_lit 5) : Int)) ∧ nat_lit 1 < h.fst.length ∧ ((0 : Int) ≤ (2 : Int) ∧ (2 : Int) < (↑(nat_lit 5)
 : Int)) ∧ nat_lit 2 < h.fst.length ∧ ((0 : Int) ≤ (3 : Int) ∧ (3 : Int) < (↑(nat_lit 5) : Int)) ∧ nat_lit 3 < h.fst.length ∧ (S362 (ix (S361 x0 (ByteArray.mk
 #[(32 : UInt8)])) (7 : Int))).fst.size ≤ nat_lit 9223372036854775807 ∧ ((h.snd.fst && !(S357 (ix (S361 x0 (ByteArray.mk #[(32 : UInt8)])) (3 : Int)) (10 :
 Int) (64 : Int)).snd && !(S357 (ix (S361 x0 (ByteArray.mk #[(32 : UInt8)])) (4 : Int)) (10 : Int) (32 : Int)).snd && !(S357 (ix (S361 x0 (ByteArray.mk #[(32 :
 UInt8)])) (6 : Int)) (10 : Int) (32 : Int)).snd && (S362 (ix (S361 x0 (ByteArray.mk #[(32 : UInt8)])) (7 : Int))).snd && (S362 (ix (S361 x0 (ByteArray.mk
 #[(32 : UInt8)])) (8 : Int))).snd && (S324 (S362 (ix (S361 x0 (ByteArray.mk #[(32 : UInt8)])) (8 : Int))).fst).snd) = true → x0.size + nat_lit 1 ≤ nat_lit
 9223372036854775807) ∧ bif h.snd.fst && !(S357 (ix (S361 x0 (ByteArray.mk #[(32 : UInt8)])) (3 : Int)) (10 : Int) (64 : Int)).snd && !(S357 (ix (S361 x0
 (ByteArray.mk #[(32 : UInt8)])) (4 : Int)) (10 : Int) (32 : Int)).snd && !(S357 (ix (S361 x0 (ByteArray.mk #[(32 : UInt8)])) (6 : Int)) (10 : Int) (32 :
 Int)).snd && (S362 (ix (S361 x0 (ByteArray.mk #[(32 : UInt8)])) (7 : Int))).snd && (S362 (ix (S361 x0 (ByteArray.mk #[(32 : UInt8)])) (8 : Int))).snd && (S324
 (S362 (ix (S361 x0 (ByteArray.mk #[(32 : UInt8)])) (8 : Int))).fst).snd then okStep (api_Step.mk (ix h.fst (0 : Int)) (ix h.fst (1 : Int)) (ix h.fst (2 :
 Int)) (List.map (fun (c : UInt8) => (↑c.toNat : Int)) (S362 (ix (S361 x0 (ByteArray.mk #[(32 : UInt8)])) (7 : Int))).fst.data.toList) (S324 (S362 (ix (S361 x0
 (ByteArray.mk #[(32 : UInt8)])) (8 : Int))).fst).fst (api_Prefix.mk (IntKind.u32.wrap (S357 (ix (S361 x0 (ByteArray.mk #[(32 : UInt8)])) (4 : Int)) (10 : Int)
 (32 : Int)).fst) (ix h.fst (3 : Int))) (IntKind.u32.wrap (S357 (ix (S361 x0 (ByteArray.mk #[(32 : UInt8)])) (6 : Int)) (10 : Int) (32 : Int)).fst) (S357 (ix
 (S361 x0 (ByteArray.mk #[(32 : UInt8)])) (3 : Int)) (10 : Int) (64 : Int)).fst) ∧ (api_Step.mk (ix h.fst (0 : Int)) (ix h.fst (1 : Int)) (ix h.fst (2 : Int))
 (List.map (fun (c : UInt8) => (↑c.toNat : Int)) (S362 (ix (S361 x0 (ByteArray.mk #[(32 : UInt8)])) (7 : Int))).fst.data.toList) (S324 (S362 (ix (S361 x0
 (ByteArray.mk #[(32 : UInt8)])) (8 : Int))).fst).fst (api_Prefix.mk (IntKind.u32.wrap (S357 (ix (S361 x0 (ByteArray.mk #[(32 : UInt8)])) (4 : Int)) (10 : Int)
 (32 : Int)).fst) (ix h.fst (3 : Int))) (IntKind.u32.wrap (S357 (ix (S361 x0 (ByteArray.mk #[(32 : UInt8)])) (6 : Int)) (10 : Int) (32 : Int)).fst) (S357 (ix
 (S361 x0 (ByteArray.mk #[(32 : UInt8)])) (3 : Int)) (10 : Int) (64 : Int)).fst, (S347 (api_Step.mk (ix h.fst (0 : Int)) (ix h.fst (1 : Int)) (ix h.fst (2 :
 Int)) (List.map (fun (c : UInt8) => (↑c.toNat : Int)) (S362 (ix (S361 x0 (ByteArray.mk #[(32 : UInt8)])) (7 : Int))).fst.data.toList) (S324 (S362 (ix (S361 x0
 (ByteArray.mk #[(32 : UInt8)])) (8 : Int))).fst).fst (api_Prefix.mk (IntKind.u32.wrap (S357 (ix (S361 x0 (ByteArray.mk #[(32 : UInt8)])) (4 : Int)) (10 : Int)
 (32 : Int)).fst) (ix h.fst (3 : Int))) (IntKind.u32.wrap (S357 (ix (S361 x0 (ByteArray.mk #[(32 : UInt8)])) (6 : Int)) (10 : Int) (32 : Int)).fst) (S357 (ix
 (S361 x0 (ByteArray.mk #[(32 : UInt8)])) (3 : Int)) (10 : Int) (64 : Int)).fst)).toList == (x0 ++ ByteArray.mk #[(10 : UInt8)]).toList) = v else (api_Step.mk
 (ix h.fst (0 : Int)) (ix h.fst (1 : Int)) (ix h.fst (2 : Int)) (List.map (fun (c : UInt8) => (↑c.toNat : Int)) (S362 (ix (S361 x0 (ByteArray.mk #[(32 :
 UInt8)])) (7 : Int))).fst.data.toList) (S324 (S362 (ix (S361 x0 (ByteArray.mk #[(32 : UInt8)])) (8 : Int))).fst).fst (api_Prefix.mk (IntKind.u32.wrap (S357
 (ix (S361 x0 (ByteArray.mk #[(32 : UInt8)])) (4 : Int)) (10 : Int) (32 : Int)).fst) (ix h.fst (3 : Int))) (IntKind.u32.wrap (S357 (ix (S361 x0 (ByteArray.mk
 #[(32 : UInt8)])) (6 : Int)) (10 : Int) (32 : Int)).fst) (S357 (ix (S361 x0 (ByteArray.mk #[(32 : UInt8)])) (3 : Int)) (10 : Int) (64 : Int)).fst, false) = v)
 ([(0 : Int), (0 : Int), (0 : Int), (0 : Int), (0 : Int)], true, (0 : Int))) := by kernel_rfl
end Go.Rx
/-! A step out of a line. -/
namespace Go.Rx
open Go.Ab Go.L21
set_option linter.unusedVariables false
set_option maxRecDepth 100000
theorem inF_ok : ∀ (k : Nat) (n : Int) (r : row_reader), (∀ x ∈ (inF k n r).1, okRule x) ∧ ((inF k n r).2.fbad = false → r.fbad = false ∧ 6 * (inF k n r).1.length + (inF k n r).2.flist.length = r.flist.length)
  | 0, n, r => ⟨fun x hx => (by cases hx), fun h => ⟨h, by show 6 * 0 + _ = _; rw [Nat.mul_zero, Nat.zero_add]; rfl⟩⟩
  | k + 1, n, r => by
    cases hc : (decide (0 < n) && !r.fbad) with
    | false => rw [inF_end hc]; exact ⟨fun x hx => (by cases hx), fun h => ⟨h, by show 6 * 0 + _ = _; rw [Nat.mul_zero, Nat.zero_add]⟩⟩
    | true =>
      rw [inF_go hc]
      obtain ⟨h1, h2⟩ := inF_ok k (n - 1) (S346 r).2
      obtain ⟨t1, t2, t3⟩ := t346 r
      refine ⟨fun x hx => ?_, fun h => ?_⟩
      · rcases List.mem_cons.1 hx with rfl | hx
        · exact t3
        · exact h1 x hx
      · obtain ⟨h3, h4⟩ := h2 h
        obtain ⟨h5, h6⟩ := t2 h3
        refine ⟨h5, ?_⟩
        rw [t1, List.length_drop] at h4
        dsimp only
        rw [List.length_cons]
        omega
theorem outF_ok : ∀ (k : Nat) (r : row_reader), (∀ x ∈ (outF k r).1, okRule x) ∧ ((outF k r).2.fbad = false → r.fbad = false ∧ 6 * (outF k r).1.length + (outF k r).2.flist.length = r.flist.length)
  | 0, r => ⟨fun x hx => (by cases hx), fun h => ⟨h, by show 6 * 0 + _ = _; rw [Nat.mul_zero, Nat.zero_add]; rfl⟩⟩
  | k + 1, r => by
    cases hc : (decide (6 ≤ r.flist.length) && !r.fbad) with
    | false => rw [outF_end hc]; exact ⟨fun x hx => (by cases hx), fun h => ⟨h, by show 6 * 0 + _ = _; rw [Nat.mul_zero, Nat.zero_add]⟩⟩
    | true =>
      rw [outF_go hc]
      obtain ⟨h1, h2⟩ := outF_ok k (S346 r).2
      obtain ⟨t1, t2, t3⟩ := t346 r
      refine ⟨fun x hx => ?_, fun h => ?_⟩
      · rcases List.mem_cons.1 hx with rfl | hx
        · exact t3
        · exact h1 x hx
      · obtain ⟨h3, h4⟩ := h2 h
        obtain ⟨h5, h6⟩ := t2 h3
        refine ⟨h5, ?_⟩
        rw [t1, List.length_drop] at h4
        dsimp only
        rw [List.length_cons]
        omega
theorem s324_ok {s : ByteArray} (hs : IsP s) (h : (S324 s).2 = true) : okPeer (S324 s).1 ∧ S322 (S324 s).1 = s := by
  obtain ⟨hsz⟩ := hs
  have hlen := s315_len s
  have hS : S324 s = rdPeer s := lk_eq _ _
  have hread := readPeer_eq ⟨(S315 s).1, !(S315 s).2⟩ _ _ _ rfl rfl rfl _ _ rfl rfl
  have va := v344 ⟨(S315 s).1, !(S315 s).2⟩
  have vb := v344 (S344 ⟨(S315 s).1, !(S315 s).2⟩).2
  generalize hr0 : (⟨(S315 s).1, !(S315 s).2⟩ : row_reader) = r0 at *
  have t0 := (t344 r0).1
  have t1 := (t344 (S344 r0).2).1
  have t2 := (t344 (S344 (S344 r0).2).2).1
  have hl0 : r0.flist.length ≤ 40000 := by rw [← hr0]; show (S315 s).1.length ≤ _; omega
  generalize (S344 r0).1 = a at *
  generalize (S344 (S344 r0).2).1 = b at *
  have hl2 : (S344 (S344 (S344 r0).2).2).2.flist.length ≤ 40000 := by
    rw [t2, t1, t0]; simp only [List.length_drop]; omega
  generalize (S344 (S344 (S344 r0).2).2).2 = q at *
  generalize (S344 (S344 (S344 r0).2).2).1 = n at *
  obtain ⟨i1, i2⟩ := inF_ok (q.flist.length + 1) n q
  generalize inF (q.flist.length + 1) n q = X at *
  obtain ⟨o1, o2⟩ := outF_ok (X.2.flist.length + 1) X.2
  generalize outF (X.2.flist.length + 1) X.2 = Y at *
  have hfin : S324 s = bif Y.2.fbad || !((S322 (⟨a, b, X.1, Y.1⟩)).toList == s.toList) then (⟨0, 0, [], []⟩, false) else (⟨a, b, X.1, Y.1⟩, true) := by
    rw [hS]; unfold rdPeer; rw [hr0, hread]
  cases hc : (Y.2.fbad || !((S322 (⟨a, b, X.1, Y.1⟩)).toList == s.toList)) with
  | true => rw [hfin, hc] at h; cases h
  | false =>
    rw [hfin, hc]
    rw [Bool.or_eq_false_iff, Bool.not_eq_false'] at hc
    obtain ⟨hb, he⟩ := hc
    obtain ⟨p1, p2⟩ := o2 hb
    obtain ⟨p3, p4⟩ := i2 p1
    refine ⟨⟨va, vb, by show X.1.length ≤ 8000; omega, by show Y.1.length ≤ 8000; omega, i1, o1⟩, ?_⟩
    have he := beq_iff_eq.1 he
    rw [Lib.toList_data, Lib.toList_data] at he
    exact ba_eq he
theorem splitC_len (c : UInt8) : ∀ (l : List UInt8), ∀ y ∈ splitC c l, y.length ≤ l.length
  | [], y, hy => by
    have : y = [] := by simpa [splitC] using hy
    rw [this]; exact Nat.le_refl _
  | b :: l, y, hy => by
    obtain ⟨x, r, h⟩ := splitC_eq c l
    have ih := splitC_len c l
    rw [h] at ih
    by_cases hb : b = c
    · subst hb
      rw [splitC_hit, h] at hy
      rcases List.mem_cons.1 hy with rfl | hy
      · exact Nat.zero_le _
      · have := ih y hy; rw [List.length_cons]; omega
    · rw [splitC_cons hb h] at hy
      rcases List.mem_cons.1 hy with rfl | hy
      · have := ih x List.mem_cons_self; rw [List.length_cons, List.length_cons]; omega
      · have := ih y (List.mem_cons_of_mem _ hy); rw [List.length_cons]; omega
theorem s361_size (x : ByteArray) : ∀ s ∈ S361 x sp, s.size ≤ x.size := by
  intro s hs
  rw [show sp = ⟨#[32]⟩ from rfl, s361] at hs
  obtain ⟨y, hy, rfl⟩ := List.mem_map.1 hs
  rw [size_bs, Lib.size_eq x]
  exact splitC_len 32 _ y hy
theorem unhex_len : ∀ (l t : List UInt8), unhex l = some t → 2 * t.length ≤ l.length
  | [], t, h => by cases h; exact Nat.le_refl _
  | [a], t, h => by cases h; exact Nat.zero_le _
  | a :: b :: r, t, h => by
    rw [unhex] at h
    cases hm : hexM 0 [a, b] with
    | none => rw [hm] at h; cases h
    | some v =>
      rw [hm] at h
      cases hu : unhex r with
      | none => rw [hu] at h; cases h
      | some u =>
        rw [hu] at h
        cases h
        have := unhex_len r u hu
        simp only [List.length_cons]; omega
theorem s362_size (s : ByteArray) : 2 * (S362 s).1.size ≤ s.size := by
  rw [s362, Lib.size_eq s]
  generalize s.data.toList = l
  cases l with
  | nil => exact Nat.le_refl _
  | cons c r =>
    show 2 * (bif (c == 120 && decide (r.length % 2 = 0)) then (match unhex r with | some l => ((bs l, true) : ByteArray × Bool) | none => (bs [], false)) else (bs [], false)).1.size ≤ (c :: r).length
    cases (c == 120 && decide (r.length % 2 = 0)) with
    | false => exact Nat.zero_le _
    | true =>
      rw [cond_true]
      cases hu : unhex r with
      | none => exact Nat.zero_le _
      | some t =>
        have := unhex_len r t hu
        show 2 * (bs t).size ≤ _
        rw [size_bs, List.length_cons]; omega
theorem s357_64 (s : ByteArray) : 0 ≤ (S357 s 10 64).1 ∧ (S357 s 10 64).1 < 18446744073709551616 := by
  show 0 ≤ (endN (Lib.parseUintB 64 s.data.toList) (2 ^ 64 - 1)).1 ∧ (endN (Lib.parseUintB 64 s.data.toList) (2 ^ 64 - 1)).1 < 18446744073709551616
  cases h : Lib.parseUintB 64 s.data.toList
  rotate_left
  · exact ⟨by show (0 : Int) ≤ 0; omega, by show (0 : Int) < _; omega⟩
  · exact ⟨by show (0 : Int) ≤ (2 ^ 64 - 1); omega, by show (2 ^ 64 - 1 : Int) < _; omega⟩
  · rename_i v
    have : v ≤ 2 ^ 64 - 1 := by
      unfold Lib.parseUintB at h
      split at h
      · cases h
      · exact parseM_le _ _ 0 v (Nat.zero_le _) h
    exact ⟨by show (0 : Int) ≤ (v : Int); omega, by show (v : Int) < _; omega⟩
theorem okStep_of {L : List ByteArray} {N : Nat} (hN : N ≤ 70000) (hL : ∀ s ∈ L, s.size ≤ N) (h9 : L.length = 9) (h : (S324 (S362 (L.getD 8 (bs []))).1).2 = true) : okStep (stepOf L) := by
  have m : ∀ i, i < 9 → (L.getD i (bs [])).size ≤ N := fun i hi => by
    have : L[i]? = some L[i] := List.getElem?_eq_getElem (by omega)
    rw [List.getD_eq_getElem?_getD, this]
    exact hL _ (List.getElem_mem (by omega))
  have h7 := s362_size (L.getD 7 (bs []))
  have h8 := s362_size (L.getD 8 (bs []))
  have m7 := m 7 (by omega)
  have m8 := m 8 (by omega)
  obtain ⟨hp, _⟩ := s324_ok (s := (S362 (L.getD 8 (bs []))).1) ⟨by omega⟩ h
  exact { k := valI_ok _, a := valI_ok _, b := valI_ok _, keep := s357_64 _, addr := s357_range _, len := valI_ok _, next := s357_range _,
          data := ⟨by show (List.map _ _).length ≤ 100000; rw [List.length_map, ← Lib.size_eq]; omega, fun c hc => by
            obtain ⟨u, _, rfl⟩ := List.mem_map.1 hc
            have := u.toNat_lt
            omega⟩, peer := hp }
theorem run348 : RunC C348 6 48 [61, 4] [9] W348 [] := by
  intro (x : ByteArray) hx hp
  obtain ⟨hsz⟩ : okLine x := hp _ rfl
  have hsize := s361_size x
  have hS : S348 x = readStep x := lk_eq _ _
  have e32 : (ByteArray.mk #[32]) = sp := rfl
  refine of_eq (q348 x _) ?_
  rw [e32]
  unfold readStep at hS
  generalize hL : S361 x sp = L at *
  refine ⟨⟨Nat.lt_of_le_of_lt hsz (by decide), rfl⟩, bif_of (fun h => ?_) (fun h => ⟨rfl, ?_⟩)⟩
  · show _ = S348 x
    have : decide (L.length = 9) = false := by
      have h := of_decide_eq_false (show decide ((L.length : Int) = 9) = false by simpa using h)
      exact decide_eq_false fun e => h (by omega)
    rw [hS, this]; rfl
  · have h9 : L.length = 9 := by
      have h := of_decide_eq_true (show decide ((L.length : Int) = 9) = true by simpa using h)
      omega
    rw [decide_eq_true h9] at hS
    have hok := okStep_of hsz hsize h9
    match L, h9, hsize, hS, hok with
    | [l0, l1, l2, l3, l4, l5, l6, l7, l8], _, hsize, hS, hok =>
    have s0 : l0.size ≤ x.size := hsize _ (by simp)
    have s1 : l1.size ≤ x.size := hsize _ (by simp)
    have s2 : l2.size ≤ x.size := hsize _ (by simp)
    have s3 : l3.size ≤ x.size := hsize _ (by simp)
    have s4 : l4.size ≤ x.size := hsize _ (by simp)
    have s5 : l5.size ≤ x.size := hsize _ (by simp)
    have s6 : l6.size ≤ x.size := hsize _ (by simp)
    have s7 : l7.size ≤ x.size := hsize _ (by simp)
    have s8 : l8.size ≤ x.size := hsize _ (by simp)
    have z7 := s362_size l7
    have z8 := s362_size l8
    have big : ∀ {n m : Nat}, n ≤ x.size → 70000 ≤ m → n ≤ m := fun h1 h2 => Nat.le_trans (Nat.le_trans h1 hsz) h2
    let st : Nat → List Int × Bool × Int := fun k => match k with
      | 0 => ([0, 0, 0, 0, 0], true, 0)
      | 1 => ([valI l0, 0, 0, 0, 0], true && !(S337 l0).2, 1)
      | 2 => ([valI l0, valI l1, 0, 0, 0], true && !(S337 l0).2 && !(S337 l1).2, 2)
      | 3 => ([valI l0, valI l1, valI l2, 0, 0], true && !(S337 l0).2 && !(S337 l1).2 && !(S337 l2).2, 3)
      | _ => ([valI l0, valI l1, valI l2, valI l5, 0], true && !(S337 l0).2 && !(S337 l1).2 && !(S337 l2).2 && !(S337 l5).2, 4)
    refine LOOP.of (fun y => y = st 0 ∨ y = st 1 ∨ y = st 2 ∨ y = st 3 ∨ y = st 4) (fun y => 4 - y.2.2.toNat) (.inl rfl) ?_
    rintro y hy J hJ
    rcases hy with rfl | rfl | rfl | rfl | rfl
    · refine bif_of (fun _ => ⟨(show (0 : Int) ≤ 0 ∧ (0 : Int) < 4 from by decide), ⟨by show (0 : Int) ≤ 0; omega, by show (0 : Int) < 9; omega⟩, ?_, (show (0 : Int) ≤ 0 ∧ (0 : Int) < 5 from by decide), by show 0 < 5; omega, rfl, hJ _ (.inr (.inl rfl)) ?_⟩) (fun h => absurd h (show ¬ (decide ((0 : Int) < 4) = false) from by decide))
      · exact big s0 (by decide)
      · show 4 - (1 : Int).toNat < 4 - (0 : Int).toNat; decide
    · refine bif_of (fun _ => ⟨(show (0 : Int) ≤ 1 ∧ (1 : Int) < 4 from by decide), ⟨by show (0 : Int) ≤ 1; omega, by show (1 : Int) < 9; omega⟩, ?_, (show (0 : Int) ≤ 1 ∧ (1 : Int) < 5 from by decide), by show 1 < 5; omega, rfl, hJ _ (.inr (.inr (.inl rfl))) ?_⟩) (fun h => absurd h (show ¬ (decide ((1 : Int) < 4) = false) from by decide))
      · exact big s1 (by decide)
      · show 4 - (2 : Int).toNat < 4 - (1 : Int).toNat; decide
    · refine bif_of (fun _ => ⟨(show (0 : Int) ≤ 2 ∧ (2 : Int) < 4 from by decide), ⟨by show (0 : Int) ≤ 2; omega, by show (2 : Int) < 9; omega⟩, ?_, (show (0 : Int) ≤ 2 ∧ (2 : Int) < 5 from by decide), by show 2 < 5; omega, rfl, hJ _ (.inr (.inr (.inr (.inl rfl)))) ?_⟩) (fun h => absurd h (show ¬ (decide ((2 : Int) < 4) = false) from by decide))
      · exact big s2 (by decide)
      · show 4 - (3 : Int).toNat < 4 - (2 : Int).toNat; decide
    · refine bif_of (fun _ => ⟨(show (0 : Int) ≤ 3 ∧ (3 : Int) < 4 from by decide), ⟨by show (0 : Int) ≤ 5; omega, by show (5 : Int) < 9; omega⟩, ?_, (show (0 : Int) ≤ 3 ∧ (3 : Int) < 5 from by decide), by show 3 < 5; omega, rfl, hJ _ (.inr (.inr (.inr (.inr rfl)))) ?_⟩) (fun h => absurd h (show ¬ (decide ((3 : Int) < 4) = false) from by decide))
      · exact big s5 (by decide)
      · show 4 - (4 : Int).toNat < 4 - (3 : Int).toNat; decide
    · refine bif_of (fun h => absurd h (show ¬ (decide ((4 : Int) < 4) = true) from by decide)) (fun _ => ?_)
      have w1 : IntKind.u32.wrap (S357 l4 10 32).1 = (S357 l4 10 32).1 := wrap32 (s357_range l4)
      have w2 : IntKind.u32.wrap (S357 l6 10 32).1 = (S357 l6 10 32).1 := wrap32 (s357_range l6)
      have g : ∀ i : Nat, i < 9 → (0 : Int) ≤ (i : Int) ∧ (i : Int) < (([l0, l1, l2, l3, l4, l5, l6, l7, l8].length : Nat) : Int) := fun i hi => by
        simp only [List.length_cons, List.length_nil]; omega
      have g5 : ∀ i : Nat, i < 5 → (0 : Int) ≤ (i : Int) ∧ (i : Int) < (((5 : Nat)) : Int) := fun i hi => by omega
      have e9 : stepOk [l0, l1, l2, l3, l4, l5, l6, l7, l8] = (true && !(S337 l0).2 && !(S337 l1).2 && !(S337 l2).2 && !(S337 l5).2 && !(S357 l3 10 64).2 && !(S357 l4 10 32).2 && !(S357 l6 10 32).2 && (S362 l7).2 && (S362 l8).2 && (S324 (S362 l8).1).2) := by
        simp only [Bool.true_and]
        rfl
      have e10 : (⟨valI l0, valI l1, valI l2, List.map (fun (c : UInt8) => (c.toNat : Int)) (S362 l7).1.data.toList, (S324 (S362 l8).1).1, ⟨IntKind.u32.wrap (S357 l4 10 32).1, valI l5⟩, IntKind.u32.wrap (S357 l6 10 32).1, (S357 l3 10 64).1⟩ : api_Step) = stepOf [l0, l1, l2, l3, l4, l5, l6, l7, l8] := by
        rw [w1, w2]; rfl
      have hx9 : (x ++ ByteArray.mk #[(10 : UInt8)]).toList = x.data.toList ++ [10] := by
        rw [Lib.toList_data]
        show (x ++ ByteArray.mk #[(10 : UInt8)]).data.toList = _
        simp
      refine ⟨g 3 (by omega), ⟨big s3 (by decide), rfl, .inr rfl⟩, g 4 (by omega), ⟨big s4 (by decide), rfl, .inl rfl⟩, g 6 (by omega), ⟨big s6 (by decide), rfl, .inl rfl⟩, g 7 (by omega), big s7 (by decide), g 8 (by omega), big s8 (by decide), ⟨?_⟩, g5 0 (by omega), by show 0 < 5; omega, g5 1 (by omega), by show 1 < 5; omega, g5 2 (by omega), by show 2 < 5; omega, g5 3 (by omega), by show 3 < 5; omega, ?_, ?_, ?_⟩
      · show (S362 l8).1.size ≤ 40000
        omega
      · exact Nat.le_trans (m := 70000) (by show (S362 l7).1.size ≤ 70000; omega) (by decide)
      · intro _
        exact Nat.le_trans (Nat.add_le_add_right hsz 1) (by decide)
      · change (bif (true && !(S337 l0).2 && !(S337 l1).2 && !(S337 l2).2 && !(S337 l5).2 && !(S357 l3 10 64).2 && !(S357 l4 10 32).2 && !(S357 l6 10 32).2 && (S362 l7).2 && (S362 l8).2 && (S324 (S362 l8).1).2) then okStep (⟨valI l0, valI l1, valI l2, List.map (fun (c : UInt8) => (c.toNat : Int)) (S362 l7).1.data.toList, (S324 (S362 l8).1).1, ⟨IntKind.u32.wrap (S357 l4 10 32).1, valI l5⟩, IntKind.u32.wrap (S357 l6 10 32).1, (S357 l3 10 64).1⟩ : api_Step) ∧ (((⟨valI l0, valI l1, valI l2, List.map (fun (c : UInt8) => (c.toNat : Int)) (S362 l7).1.data.toList, (S324 (S362 l8).1).1, ⟨IntKind.u32.wrap (S357 l4 10 32).1, valI l5⟩, IntKind.u32.wrap (S357 l6 10 32).1, (S357 l3 10 64).1⟩ : api_Step), (S347 (⟨valI l0, valI l1, valI l2, List.map (fun (c : UInt8) => (c.toNat : Int)) (S362 l7).1.data.toList, (S324 (S362 l8).1).1, ⟨IntKind.u32.wrap (S357 l4 10 32).1, valI l5⟩, IntKind.u32.wrap (S357 l6 10 32).1, (S357 l3 10 64).1⟩ : api_Step)).toList == (x ++ ByteArray.mk #[(10 : UInt8)]).toList) : api_Step × Bool) = S348 x else (((⟨valI l0, valI l1, valI l2, List.map (fun (c : UInt8) => (c.toNat : Int)) (S362 l7).1.data.toList, (S324 (S362 l8).1).1, ⟨IntKind.u32.wrap (S357 l4 10 32).1, valI l5⟩, IntKind.u32.wrap (S357 l6 10 32).1, (S357 l3 10 64).1⟩ : api_Step), false) : api_Step × Bool) = S348 x)
        rw [← e9, e10, hx9, hS, cond_true]
        refine bif_of (fun h => ⟨hok ?_, ?_⟩) (fun h => ?_)
        · rw [e9] at h
          simp only [Bool.and_eq_true] at h
          exact h.2
        · rw [h, Bool.true_and, show (S347 (stepOf [l0, l1, l2, l3, l4, l5, l6, l7, l8])).toList = lineL (stepOf [l0, l1, l2, l3, l4, l5, l6, l7, l8]) from toList_bs _]
        · rw [h, Bool.false_and]
theorem ok348 : Ok348 := by
  refine con_ok (C := C348) ?_ mx7 (by kernel_rfl) run348
  exact kok_cons ok337 (kok_cons ok357 (kok_cons ok324 (kok_cons ok361 (kok_cons ok362 (kk1 ok347)))))
end Go.Rx
namespace Go.Rx
open Go.Ab Go.L21
set_option maxRecDepth 100000
set_option maxHeartbeats 20000000
set_option linter.unusedVariables false
/-- interregnum/script.Parse -/
noncomputable def C329 : Cfg S := { P := P7, inl := [], K := [(65, ctr P7 [9, 9] [3] (fun x0 x1 => (some (P365 x0 x1), S365 x0 x1))), (48, ctr P7 [9] [61, 4] (fun x0 => (some (P348 x0), S348 x0)))], ann := [(29, [(3, .loop [(.sl 0, .str), (.sl 5, .own 61), (.sl 6, .int .i64)])])] }
abbrev W329 : CT S [49, 3, 52] [9] := (fun x0 => (some (P329 x0), S329 x0))
abbrev Ok329 : Prop := ConOk P7 29 (ctr P7 [9] [49, 3, 52] W329) ∧ ConMon (ctr P7 [9] [49, 3, 52] W329)
theorem q329 (x0 : ByteArray) (v : HR S [49, 3, 52]) : (Xf C329 6 (emp 0) 29 (argsA C329 [⟨9, x0⟩]) (emp 0) (fun r _ => isR C329.P [49, 3, 52] v r) (fun _ _ =>
 False)) = (LOOP (fun (h : ByteArray × List api_Step × Int) (J : ByteArray × List api_Step × Int → Prop) => bif !h.fst.toList == (ByteArray.mk #[]).toList then
 nat_lit 1 = nat_lit 1 ∧ bif decide ((0 : Int) ≤ S365 h.fst (ByteArray.mk #[(10 : UInt8)])) then ((0 : Int) ≤ (0 : Int) ∧ (0 : Int) ≤ S365 h.fst (ByteArray.mk
 #[(10 : UInt8)]) ∧ S365 h.fst (ByteArray.mk #[(10 : UInt8)]) ≤ (↑h.fst.size : Int)) ∧ ((0 : Int) ≤ IntKind.i64.wrap (S365 h.fst (ByteArray.mk #[(10 : UInt8)])
 + (↑(nat_lit 1) : Int)) ∧ IntKind.i64.wrap (S365 h.fst (ByteArray.mk #[(10 : UInt8)]) + (↑(nat_lit 1) : Int)) ≤ (↑h.fst.size : Int) ∧ (↑h.fst.size : Int) ≤
 (↑h.fst.size : Int)) ∧ okLine (h.fst.extract (nat_lit 0) (S365 h.fst (ByteArray.mk #[(10 : UInt8)])).toNat) ∧ bif !(S348 (h.fst.extract (nat_lit 0) (S365
 h.fst (ByteArray.mk #[(10 : UInt8)])).toNat)).snd && true then ([], h.snd.snd, (7 : Int)) = v else (h.snd.fst.length = h.snd.fst.length ∧ (h.snd.fst.length +
 [(S348 (h.fst.extract (nat_lit 0) (S365 h.fst (ByteArray.mk #[(10 : UInt8)])).toNat)).fst].length) * nat_lit 144 ≤ nat_lit 140737488355328) ∧ ∀ (y : List
 (api_Step)), y = h.snd.fst ++ [(S348 (h.fst.extract (nat_lit 0) (S365 h.fst (ByteArray.mk #[(10 : UInt8)])).toNat)).fst] → y.length = y.length ∧ J
 (h.fst.extract (IntKind.i64.wrap (S365 h.fst (ByteArray.mk #[(10 : UInt8)]) + (↑(nat_lit 1) : Int))).toNat (↑h.fst.size : Int).toNat, y, IntKind.i64.wrap
 (h.snd.snd + (1 : Int))) else okLine h.fst ∧ bif !(S348 h.fst).snd || true then ([], h.snd.snd, (7 : Int)) = v else (h.snd.fst.length = h.snd.fst.length ∧
 (h.snd.fst.length + [(S348 h.fst).fst].length) * nat_lit 144 ≤ nat_lit 140737488355328) ∧ ∀ (y : List (api_Step)), y = h.snd.fst ++ [(S348 h.fst).fst] →
 y.length = y.length ∧ J (ByteArray.mk #[], y, IntKind.i64.wrap (h.snd.snd + (1 : Int))) else (h.snd.fst, (0 : Int), (0 : Int)) = v) (x0, [], (1 : Int))) := by
 kernel_rfl
end Go.Rx
/-! Steps out of a text. -/
namespace Go.Rx
open Go.Ab Go.L21
set_option linter.unusedVariables false
set_option maxRecDepth 100000
def tk (l : List UInt8) : List UInt8 := l.takeWhile (· != 10)
theorem tk_le (l : List UInt8) : (tk l).length ≤ l.length := by
  have := List.takeWhile_append_dropWhile (p := (· != (10 : UInt8))) (l := l)
  have := congrArg List.length this
  rw [List.length_append] at this
  unfold tk; omega
theorem tk_take (l : List UInt8) : tk l = l.take (tk l).length := List.prefix_iff_eq_take.1 (List.takeWhile_prefix _)
theorem idx10 : ∀ l : List UInt8, Lib.indexByte l 10 = if (tk l).length < l.length then ((tk l).length : Int) else -1
  | [] => rfl
  | b :: l => by
    unfold Lib.indexByte tk
    by_cases hb : b = 10
    · subst hb
      rfl
    · have hb2 : (b == 10) = false := by simpa using hb
      have hb3 : (b != 10) = true := by simpa using hb
      rw [hb2, List.takeWhile_cons, hb3]
      have ih := idx10 l
      unfold tk at ih
      simp only [if_true, List.length_cons]
      split
      · rename_i h; cases h
      · split
        · rename_i h
          have h := beq_iff_eq.1 h
          rw [ih] at h
          split at h
          · omega
          · rw [if_neg (by omega)]
        · rename_i h
          have h : Lib.indexByte l 10 ≠ -1 := fun e => h (beq_iff_eq.2 e)
          rw [ih] at h ⊢
          split at h
          · rename_i h2
            rw [if_pos h2, if_pos (by omega)]
            omega
          · exact absurd rfl h
theorem readF_cons (k : Nat) (n : Int) (l : List UInt8) (out : List api_Step) (h : l ≠ []) : readF (k + 1) n l out = bif (S348 (bs (tk l))).2 && decide ((tk l).length < l.length) then readF k (n + 1) (l.drop ((tk l).length + 1)) (out ++ [(S348 (bs (tk l))).1]) else ([], n, 7) := by
  cases l with
  | nil => exact absurd rfl h
  | cons b r => rfl
theorem readF_nil (k : Nat) (n : Int) (out : List api_Step) : readF k n [] out = (out, 0, 0) := by cases k <;> rfl
theorem s329 (s : ByteArray) : S329 s = readF s.data.toList.length 1 s.data.toList [] := lk_eq _ _
theorem run329 : RunC C329 6 29 [49, 3, 52] [9] W329 [] := by
  intro (x : ByteArray) hx hp
  obtain ⟨hsz⟩ : okLine x := hp _ rfl
  obtain ⟨l, rfl⟩ : ∃ l, x = bs l := ⟨x.data.toList, rfl⟩
  have hS : S329 (bs l) = readF l.length 1 l [] := s329 (bs l)
  rw [size_bs] at hsz
  refine of_eq (q329 (bs l) _) ?_
  refine LOOP.of (fun y => ∃ (rest : List UInt8) (out : List api_Step) (n : Int) (k : Nat), y = (bs rest, out, n) ∧ rest.length ≤ k ∧ 1 ≤ n ∧ n + (rest.length : Int) ≤ l.length + 1 ∧ out.length + rest.length ≤ l.length ∧ readF k n rest out = readF l.length 1 l []) (fun y => y.1.size) ⟨l, [], 1, l.length, rfl, Nat.le_refl _, Int.le_refl _, by omega, by simp, rfl⟩ ?_
  rintro _ ⟨rest, out, n, k, rfl, hk, hn1, hn2, hlen, hfin⟩ J hJ
  dsimp only
  rw [beqL]
  cases hr : rest with
  | nil =>
    subst hr
    refine bif_of (fun h => by cases h) (fun _ => ?_)
    rw [readF_nil] at hfin
    show _ = S329 (bs l)
    rw [hS, ← hfin]
  | cons b r =>
    have hne : rest ≠ [] := fun e => by rw [e] at hr; cases hr
    rw [← hr]
    have hem : (!rest.isEmpty) = true := by rw [hr]; rfl
    have hpos : 0 < rest.length := by rw [hr]; simp
    have hz : (bs rest).size = rest.length := size_bs rest
    have htl := tk_le rest
    have hI : S365 (bs rest) (ByteArray.mk #[(10 : UInt8)]) = if (tk rest).length < rest.length then ((tk rest).length : Int) else -1 := idx10 rest
    obtain ⟨k, rfl⟩ : ∃ j, k = j + 1 := ⟨k - 1, by omega⟩
    rw [readF_cons k n rest out hne] at hfin
    refine bif_of (fun _ => ⟨rfl, ?_⟩) (fun h => by rw [hem] at h; cases h)
    rw [hI]
    by_cases ht : (tk rest).length < rest.length
    · rw [if_pos ht]
      rw [decide_eq_true ht, Bool.and_true] at hfin
      have hw : IntKind.i64.wrap (((tk rest).length : Int) + ((1 : Nat) : Int)) = (((tk rest).length + 1 : Nat) : Int) := wrap64 (by omega)
      have e1 : (bs rest).extract 0 (((tk rest).length : Nat) : Int).toNat = bs (tk rest) := by
        rw [Int.toNat_natCast, ext_bs, ← tk_take]
      have e2 : (bs rest).extract ((((tk rest).length + 1 : Nat) : Int)).toNat (((bs rest).size : Nat) : Int).toNat = bs (rest.drop ((tk rest).length + 1)) := by
        rw [Int.toNat_natCast]; exact ext_bsE _ _
      have hz1 : (bs (tk rest)).size = (tk rest).length := size_bs _
      rw [hw, e1, e2]
      refine bif_of (fun _ => ⟨⟨by omega, by omega, by omega⟩, ⟨by omega, by omega, by omega⟩, ⟨by omega⟩, bif_of (fun h => ?_) (fun h => ?_)⟩) (fun h => absurd (of_decide_eq_false h) (fun h => h (by omega)))
      · have h : (S348 (bs (tk rest))).2 = false := by simpa using h
        show _ = S329 (bs l)
        rw [hS, ← hfin, h]; rfl
      · have h : (S348 (bs (tk rest))).2 = true := by simpa using h
        rw [h] at hfin
        refine ⟨⟨rfl, ?_⟩, fun y hy => ⟨rfl, hJ _ ⟨rest.drop ((tk rest).length + 1), y, n + 1, k, ?_, ?_, by omega, ?_, ?_, ?_⟩ ?_⟩⟩
        · exact Nat.le_trans (m := 70001 * 144) (Nat.mul_le_mul_right 144 (by show out.length + 1 ≤ 70001; omega)) (by decide)
        · rw [wrap64 (by omega)]
        · rw [List.length_drop]; omega
        · rw [List.length_drop]; omega
        · rw [hy, List.length_append, List.length_drop]
          show out.length + 1 + _ ≤ _
          omega
        · rw [hy]; exact hfin
        · show (bs _).size < (bs rest).size
          rw [size_bs, hz, List.length_drop]; omega
    · rw [if_neg ht]
      rw [decide_eq_false ht, Bool.and_false] at hfin
      refine bif_of (fun h => absurd h (by decide)) (fun _ => ⟨⟨by omega⟩, bif_of (fun _ => ?_) (fun h => by rw [Bool.or_true] at h; cases h)⟩)
      show _ = S329 (bs l)
      rw [hS, ← hfin]; rfl
theorem ok329 : Ok329 := by
  refine con_ok (C := C329) ?_ mx7 (by kernel_rfl) run329
  exact kok_cons ok365 (kk1 ok348)
end Go.Rx
