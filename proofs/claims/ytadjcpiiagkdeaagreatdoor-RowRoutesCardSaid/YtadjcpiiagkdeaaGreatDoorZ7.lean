import Derived.Test.YtadjcpiiagkdeaaGreatDoorZ6
import Derived.Shelf.SlSortCmp.Insertion
import Derived.Shelf.GgSortFunc.RowK
import Derived.ProofKit
import Derived.Test.YtadjcpiiagkdeaaGreatDoorProg
import Derived.Shelf.SlLaysF0
import Derived.Ground.SlsfProg
import Derived.Shelf.SlSortCmp.WholeK
import Derived.Shelf.SlSortCmp.NoneTotal
set_option linter.unusedVariables false
set_option linter.unusedSimpArgs false
/-! What the document writes. -/
namespace Go.Rx
open Go.Ab Go.L7
set_option linter.unusedVariables false
set_option linter.unusedSimpArgs false
set_option maxRecDepth 100000
def oneB (fl t : Int) (d : List Int) : List Int := (if 255 < (d.length : Int) then [IntKind.u8.wrap (IntKind.i64.wrap (fl + 16)), IntKind.u8.wrap t, IntKind.u8.wrap (IntKind.i64.wrap ((d.length : Int).tdiv 256)), IntKind.u8.wrap ((d.length : Int).tmod 256)] else [IntKind.u8.wrap fl, IntKind.u8.wrap t, IntKind.u8.wrap d.length]) ++ d
theorem oneB_eq {fl t : Int} {d : List Int} (hd : d.length ≤ 4611686018427387904) (h : d.length ≤ 255 ∨ fl = 64) : oneB fl t d = putB fl t d := by
  unfold oneB putB
  by_cases hl : 255 < (d.length : Int)
  · rw [if_pos hl, if_pos hl]
    rcases h with h | rfl
    · omega
    · have e1 : IntKind.u8.wrap (IntKind.i64.wrap (64 + 16)) = IntKind.u8.wrap (ior IntKind.i64 64 16) := by decide
      have e2 : (d.length : Int).tdiv 256 = (d.length : Int).fdiv (2 ^ 8) := by
        rw [Int.tdiv_eq_ediv_of_nonneg (by omega), Int.fdiv_eq_ediv_of_nonneg _ (by decide)]; rfl
      have e3 : IntKind.i64.wrap ((d.length : Int).fdiv (2 ^ 8)) = (d.length : Int).fdiv (2 ^ 8) := by
        rw [Int.fdiv_eq_ediv_of_nonneg _ (by decide)]
        exact w64_id (by omega)
      have e4 : IntKind.u8.wrap ((d.length : Int).tmod 256) = IntKind.u8.wrap d.length := by
        rw [Int.tmod_eq_emod_of_nonneg (by omega)]
        show ((d.length : Int) % 256) % 256 = (d.length : Int) % 256
        omega
      rw [e1, e2, e3, e4]
  · rw [if_neg hl, if_neg hl]
theorem one_ap {o d : List Int} {fl t : Int} {J : List Int → Prop} (hb : o.length + d.length + 4 ≤ 140737488355328) (hJ : J (o ++ oneB fl t d)) :
    bif decide ((255 : Int) < (d.length : Int)) then ([IntKind.u8.wrap (IntKind.i64.wrap (fl + 16)), IntKind.u8.wrap t, IntKind.u8.wrap (IntKind.i64.wrap ((d.length : Int).tdiv 256)), IntKind.u8.wrap ((d.length : Int).tmod 256)].length = [IntKind.u8.wrap (IntKind.i64.wrap (fl + 16)), IntKind.u8.wrap t, IntKind.u8.wrap (IntKind.i64.wrap ((d.length : Int).tdiv 256)), IntKind.u8.wrap ((d.length : Int).tmod 256)].length ∧ ([IntKind.u8.wrap (IntKind.i64.wrap (fl + 16)), IntKind.u8.wrap t, IntKind.u8.wrap (IntKind.i64.wrap ((d.length : Int).tdiv 256)), IntKind.u8.wrap ((d.length : Int).tmod 256)].length + d.length) * 1 ≤ 140737488355328) ∧ ∀ y : List Int, y = [IntKind.u8.wrap (IntKind.i64.wrap (fl + 16)), IntKind.u8.wrap t, IntKind.u8.wrap (IntKind.i64.wrap ((d.length : Int).tdiv 256)), IntKind.u8.wrap ((d.length : Int).tmod 256)] ++ d → (o.length = o.length ∧ (o.length + y.length) * 1 ≤ 140737488355328) ∧ ∀ y1 : List Int, y1 = o ++ y → y1.length = y1.length ∧ J y1
    else ([IntKind.u8.wrap fl, IntKind.u8.wrap t, IntKind.u8.wrap (d.length : Int)].length = [IntKind.u8.wrap fl, IntKind.u8.wrap t, IntKind.u8.wrap (d.length : Int)].length ∧ ([IntKind.u8.wrap fl, IntKind.u8.wrap t, IntKind.u8.wrap (d.length : Int)].length + d.length) * 1 ≤ 140737488355328) ∧ ∀ y : List Int, y = [IntKind.u8.wrap fl, IntKind.u8.wrap t, IntKind.u8.wrap (d.length : Int)] ++ d → (o.length = o.length ∧ (o.length + y.length) * 1 ≤ 140737488355328) ∧ ∀ y1 : List Int, y1 = o ++ y → y1.length = y1.length ∧ J y1 := by
  unfold oneB at hJ
  refine bif_of (fun e => ⟨⟨rfl, by simp; omega⟩, fun y hy => ⟨⟨rfl, by subst hy; simp; omega⟩, fun y1 h1 => ⟨rfl, ?_⟩⟩⟩) (fun e => ⟨⟨rfl, by simp; omega⟩, fun y hy => ⟨⟨rfl, by subst hy; simp; omega⟩, fun y1 h1 => ⟨rfl, ?_⟩⟩⟩)
  · rw [if_pos (of_decide_eq_true e)] at hJ; rw [h1, hy]; exact hJ
  · rw [if_neg (of_decide_eq_false e)] at hJ; rw [h1, hy]; exact hJ
theorem one_ap3 {o d : List Int} {fl t : Int} {J : List Int → Prop} (hd : d.length ≤ 255) (hb : o.length + d.length + 4 ≤ 140737488355328) (hJ : J (o ++ oneB fl t d)) :
    ([IntKind.u8.wrap fl, IntKind.u8.wrap t, IntKind.u8.wrap (d.length : Int)].length = [IntKind.u8.wrap fl, IntKind.u8.wrap t, IntKind.u8.wrap (d.length : Int)].length ∧ ([IntKind.u8.wrap fl, IntKind.u8.wrap t, IntKind.u8.wrap (d.length : Int)].length + d.length) * 1 ≤ 140737488355328) ∧ ∀ y : List Int, y = [IntKind.u8.wrap fl, IntKind.u8.wrap t, IntKind.u8.wrap (d.length : Int)] ++ d → (o.length = o.length ∧ (o.length + y.length) * 1 ≤ 140737488355328) ∧ ∀ y1 : List Int, y1 = o ++ y → y1.length = y1.length ∧ J y1 := by
  unfold oneB at hJ
  refine ⟨⟨rfl, by simp; omega⟩, fun y hy => ⟨⟨rfl, by subst hy; simp; omega⟩, fun y1 h1 => ⟨rfl, ?_⟩⟩⟩
  rw [if_neg (show ¬ (255 : Int) < (d.length : Int) by omega)] at hJ; rw [h1, hy]; exact hJ
theorem put4_w64 (n : Int) : put4 (IntKind.i64.wrap n) = put4 n := by
  have h8 : ∀ m : Int, IntKind.u8.wrap m = m % 256 := fun m => rfl
  unfold put4
  rw [Go.Ab.wrap64]
  rw [show (2 : Int) ^ 8 = 256 from rfl, show (2 : Int) ^ 16 = 65536 from rfl, show (2 : Int) ^ 24 = 16777216 from rfl]
  simp only [h8]
  rw [Int.fdiv_eq_ediv_of_nonneg _ (by omega), Int.fdiv_eq_ediv_of_nonneg _ (by omega), Int.fdiv_eq_ediv_of_nonneg _ (by omega), Int.fdiv_eq_ediv_of_nonneg _ (by omega), Int.fdiv_eq_ediv_of_nonneg _ (by omega), Int.fdiv_eq_ediv_of_nonneg _ (by omega)]
  congr 1
  · omega
  congr 1
  · omega
  congr 1
  · omega
  congr 1
  omega
/-! ### Raws, ahead of the communities and behind -/
def rB (r : api_Raw) : List Int := putB r.fFlags r.fType r.fData
theorem rawsUp_gt : ∀ {l : List api_Raw} {t : Int}, rawsUp (some t) l = true → ∀ r ∈ l, t < r.fType
  | a :: l, t, h, r, hr => by
    simp only [rawsUp, Bool.and_eq_true, decide_eq_true_eq] at h
    rcases List.mem_cons.1 hr with rfl | hr
    · exact h.1.2
    · have := rawsUp_gt h.2 r hr
      omega
theorem S28_ne8 {r : api_Raw} (h : S28 r = true) : r.fType ≠ 8 := by
  intro e; unfold S28 at h; simp [e] at h
theorem rawsOut_hi (c : List Int) : ∀ {l : List api_Raw} (told : Bool), (∀ r ∈ l, 8 < r.fType) → rawsOut c told l = (if told then [] else putB 192 8 c) ++ l.flatMap rB
  | [], told, _ => by cases told <;> simp [rawsOut]
  | r :: l, told, h => by
    have h8 := h r (by simp)
    have ih := rawsOut_hi c (l := l) true (fun x hx => h x (by simp [hx]))
    rw [rawsOut]
    cases told
    · rw [if_pos ⟨h8, rfl⟩, ih]; simp [rB, List.append_assoc]
    · rw [if_neg (by simp), ih]; simp [rB]
theorem rawsOut_split (c : List Int) (told : Bool) : ∀ {l : List api_Raw} {p : Option Int}, rawsUp p l = true → rawsOut c told l = (l.filter fun r => decide (r.fType < 8)).flatMap rB ++ (if told then [] else putB 192 8 c) ++ (l.filter fun r => decide (8 < r.fType)).flatMap rB
  | [], p, h => by cases told <;> simp [rawsOut]
  | r :: l, p, h => by
    have h' := h
    simp only [rawsUp, Bool.and_eq_true] at h
    have h8 := S28_ne8 h.1.1
    by_cases hlt : r.fType < 8
    · rw [rawsOut, if_neg (by omega), rawsOut_split c told h.2]
      rw [List.filter_cons_of_pos (by simpa using hlt), List.filter_cons_of_neg (by simp; omega)]
      simp [rB, List.append_assoc]
    · have hgt : 8 < r.fType := by omega
      have hall : ∀ x ∈ r :: l, 8 < x.fType := fun x hx => by
        rcases List.mem_cons.1 hx with rfl | hx
        · exact hgt
        · have := rawsUp_gt h.2 x hx; omega
      rw [rawsOut_hi c told hall]
      have e1 : (r :: l).filter (fun r => decide (r.fType < 8)) = [] := List.filter_eq_nil_iff.2 fun x hx => by have := hall x hx; simp; omega
      have e2 : (r :: l).filter (fun r => decide (8 < r.fType)) = r :: l := List.filter_eq_self.2 fun x hx => by simpa using hall x hx
      rw [e1, e2]; simp
theorem commB_len : ∀ (l : List Int), (commB l).length = 4 * l.length
  | [] => rfl
  | a :: l => by
    have := commB_len l
    unfold commB at *
    rw [List.flatMap_cons, List.length_append, this]; simp [put4]; omega
theorem flat_len {l : List api_Raw} (h : ∀ r ∈ l, r.fData.length ≤ 255) : (l.flatMap rB).length ≤ 259 * l.length := by
  induction l with
  | nil => simp
  | cons r l ih =>
    have h1 := ih fun x hx => h x (by simp [hx])
    have h2 := h r (by simp)
    have h3 := putB_len r.fFlags r.fType r.fData
    rw [List.flatMap_cons, List.length_append, List.length_cons]
    simp only [rB] at *
    omega
theorem S23_len {p : List api_Segment} (hp : p.length ≤ 1099511627776) : (S23 p).length ≤ 384 := by
  unfold S23
  split
  · rename_i h
    obtain ⟨g1, g2⟩ := goodP_spec p 0 h (Int.le_refl _) (by omega)
    rw [seg_len]
    have := asSum_len p fun s hs => (g2 s hs).1
    omega
  · simp
theorem run16 : RunC C16 6 25 [35] [29] W16 [] := by
  intro (x : api_Attrs) hx hp
  obtain ⟨p1, p2⟩ : P12 x := hp _ rfl
  have hr : x.fRaws.length ≤ 9223372036854775807 := by omega
  refine of_eq (q16 x (S12 x)) ?_
  refine bif_of (fun h => ?_) (fun h => ?_)
  · simp only [Bool.not_eq_true'] at h; change S13 x = false at h; simp [S12, h]
  simp only [Bool.not_eq_false'] at h
  change S13 x = true at h
  have h' := h
  simp only [S13, Bool.and_eq_true] at h'
  have hup : rawsUp none x.fRaws = true := h'.1.2
  have hcm : x.fComms.length ≤ 32 := by have := h'.1.1.2; simp at this; omega
  have hrl : ∀ r ∈ x.fRaws, r.fData.length ≤ 255 := rawsUp_len hup
  have hpl := S23_len p1
  have hF : S12 x = oneB 64 1 [IntKind.u8.wrap x.fOrigin] ++ oneB 64 2 (S23 x.fPath) ++ oneB 64 3 (put4 x.fNext) ++ (if 0 ≤ x.fMed then oneB 128 4 (put4 x.fMed) else []) ++ (if 0 ≤ x.fPref then oneB 64 5 (put4 x.fPref) else []) ++ (x.fRaws.filter fun r => decide (r.fType < 8)).flatMap rB ++ (if (commB x.fComms).length = 0 then [] else putB 192 8 (commB x.fComms)) ++ (x.fRaws.filter fun r => decide (8 < r.fType)).flatMap rB := by
    unfold S12
    rw [if_pos h, rawsOut_split _ _ hup, oneB_eq (by simp) (by simp), oneB_eq (by omega) (by simp), oneB_eq (by simp [put4]) (by simp [put4]), oneB_eq (by simp [put4]) (by simp [put4]), oneB_eq (by simp [put4]) (by simp [put4])]
    simp only [S25, put4_u32, decide_eq_true_eq, List.append_assoc]
  generalize hA : (x.fRaws.filter fun r => decide (r.fType < 8)).flatMap rB = A at hF
  generalize hC : (if (commB x.fComms).length = 0 then [] else putB 192 8 (commB x.fComms)) = C at hF
  generalize hB : (x.fRaws.filter fun r => decide (8 < r.fType)).flatMap rB = B at hF
  have hAl : A.length ≤ 278099132416 := by
    rw [← hA]
    have h1 := flat_len (l := x.fRaws.filter fun r => decide (r.fType < 8)) fun r hr => hrl r (List.mem_filter.1 hr).1
    have h2 := List.length_filter_le (fun r : api_Raw => decide (r.fType < 8)) x.fRaws
    omega
  have hBl : B.length ≤ 278099132416 := by
    rw [← hB]
    have h1 := flat_len (l := x.fRaws.filter fun r => decide (8 < r.fType)) fun r hr => hrl r (List.mem_filter.1 hr).1
    have h2 := List.length_filter_le (fun r : api_Raw => decide (8 < r.fType)) x.fRaws
    omega
  have hCl : C.length ≤ 200 := by
    rw [← hC]
    have := commB_len x.fComms
    have h3 := putB_len 192 8 (commB x.fComms)
    split
    · simp
    · omega
  have hFl : (S12 x).length ≤ 600000000000 := by
    have l1 := putB_len 64 1 [IntKind.u8.wrap x.fOrigin]
    have l2 := putB_len 64 2 (S23 x.fPath)
    have l3 := putB_len 64 3 (put4 x.fNext)
    have l4 := putB_len 128 4 (put4 x.fMed)
    have l5 := putB_len 64 5 (put4 x.fPref)
    rw [hF, oneB_eq (by simp) (by simp), oneB_eq (by omega) (by simp), oneB_eq (by simp [put4]) (by simp [put4]), oneB_eq (by simp [put4]) (by simp [put4]), oneB_eq (by simp [put4]) (by simp [put4])]
    have p4 : ∀ n, (put4 n).length = 4 := fun _ => rfl
    rw [p4] at l3 l4 l5
    have q1 : ([IntKind.u8.wrap x.fOrigin] : List Int).length = 1 := rfl
    rw [q1] at l1
    simp only [List.length_append]
    split <;> split <;> (try simp only [List.length_nil]) <;> omega
  revert hFl
  generalize S12 x = F at hF
  intro hFl
  have big : ∀ {a b : List Int}, a ++ b = F → a.length ≤ 600000000000 := fun e => by have := congrArg List.length e; rw [List.length_append] at this; omega
  refine ⟨⟨by trivial, by show (3 + 1) * 1 ≤ 140737488355328; decide⟩, fun (y0 : List Int) hy0 => ⟨by trivial, ?_⟩⟩
  have hy0' : y0 = oneB 64 1 [IntKind.u8.wrap x.fOrigin] := hy0
  refine JP.of (fun o => o ++ (oneB 64 3 (put4 x.fNext) ++ (if 0 ≤ x.fMed then oneB 128 4 (put4 x.fMed) else []) ++ (if 0 ≤ x.fPref then oneB 64 5 (put4 x.fPref) else []) ++ A ++ C ++ B) = F) (fun J hJ => ⟨Nat.le_trans p1 (by decide), one_ap (by rw [hy0']; show (4 : Nat) + (S23 x.fPath).length + 4 ≤ _; omega) (hJ _ ?_)⟩) fun o1 ho1 => ⟨by trivial, ?_⟩
  · rw [hF, hy0']; simp only [List.append_assoc]; rfl
  refine JP.of (fun o => o ++ ((if 0 ≤ x.fMed then oneB 128 4 (put4 x.fMed) else []) ++ (if 0 ≤ x.fPref then oneB 64 5 (put4 x.fPref) else []) ++ A ++ C ++ B) = F) (fun J hJ => one_ap3 (d := S33 (IntKind.i64.wrap x.fNext)) (by simp [S33, put4]) (by have := big ho1; simp [S33, put4]; omega) (hJ _ ?_)) fun o2 ho2 => ⟨by trivial, ?_⟩
  · rw [← ho1]; simp only [S33, put4_w64, List.append_assoc]
  refine JP.of (fun o => o ++ ((if 0 ≤ x.fPref then oneB 64 5 (put4 x.fPref) else []) ++ A ++ C ++ B) = F) (fun J hJ => bif_of (fun e => one_ap3 (d := S33 x.fMed) (by simp [S33, put4]) (by have := big ho2; simp [S33, put4]; omega) (hJ _ ?_)) (fun e => ⟨by trivial, hJ _ ?_⟩)) fun o3 ho3 => ⟨by trivial, ?_⟩
  · rw [← ho2, if_pos (of_decide_eq_true e)]; simp only [S33, List.append_assoc]
  · rw [← ho2, if_neg (of_decide_eq_false e)]; simp only [List.nil_append]
  refine JP.of (fun o => o ++ (A ++ C ++ B) = F) (fun J hJ => bif_of (fun e => one_ap3 (d := S33 x.fPref) (by simp [S33, put4]) (by have := big ho3; simp [S33, put4]; omega) (hJ _ ?_)) (fun e => ⟨by trivial, hJ _ ?_⟩)) fun o4 ho4 => ⟨by trivial, ?_⟩
  · rw [← ho3, if_pos (of_decide_eq_true e)]; simp only [S33, List.append_assoc]
  · rw [← ho3, if_neg (of_decide_eq_false e)]; simp only [List.nil_append]
  refine listLoop (l := x.fRaws) hr (fun (o : List Int) i => (o, i)) (fun y => y.2) (fun _ _ => rfl) (fun i r o => o ++ ((r.filter fun r => decide (r.fType < 8)).flatMap rB ++ C ++ B) = F) (s0 := o4) (by rw [hA]; exact ho4) ?_ ?_
  · rintro o i s r J k1 k2 k3 k4 k5 k6 hJ
    have hs := hrl s k4
    refine bif_of (fun _ => ⟨by trivial, JP.of (fun o' => o' ++ ((r.filter fun r => decide (r.fType < 8)).flatMap rB ++ C ++ B) = F) (fun J' hJ' => ⟨⟨k1, k2⟩, ?_⟩) (fun y hy => ⟨by trivial, hJ _ hy⟩)⟩) (fun h => absurd k2 (of_decide_eq_false h))
    refine bif_of (fun e => ⟨⟨k1, k2⟩, ⟨k1, k2⟩, ⟨k1, k2⟩, one_ap (o := o) (fl := (ix x.fRaws i).fFlags) (t := (ix x.fRaws i).fType) (d := (ix x.fRaws i).fData) (by have := big k6; rw [k3]; omega) (hJ' _ ?_)⟩) (fun e => ⟨by trivial, hJ' _ ?_⟩)
    · have e : decide (s.fType < 8) = true := by rw [← k3]; exact e
      rw [← k6, List.filter_cons_of_pos (by simpa using e), k3, oneB_eq (by omega) (.inl hs)]; simp only [rB, List.flatMap_cons, List.append_assoc]
    · have e : decide (s.fType < 8) = false := by rw [← k3]; exact e
      rw [← k6, List.filter_cons_of_neg (by simpa using e)]
  rintro o5 i5 J5 rfl k6
  refine bif_of (fun h => absurd (of_decide_eq_true h) (by simp)) (fun _ => ?_)
  refine listLoop (l := x.fComms) (by omega) (fun (o : List Int) i => (o, i)) (fun y => y.2) (fun _ _ => rfl) (fun i r o => o ++ commB r = commB x.fComms) (s0 := []) (by simp) ?_ ?_
  · rintro o i s r J k1 k2 k3 k4 k5 k7 hJ
    have hcl := commB_len x.fComms
    have hol := congrArg List.length k7
    rw [List.length_append] at hol
    refine bif_of (fun _ => ⟨⟨k1, k2⟩, ⟨by trivial, by show (o.length + 4) * 1 ≤ 140737488355328; omega⟩, fun (z : List Int) hz => ⟨by trivial, hJ z ?_⟩⟩) (fun h => absurd k2 (of_decide_eq_false h))
    rw [← k7, hz]
    simp only [k3, S33, put4_w64, commB, List.flatMap_cons, List.append_assoc]
  rintro c i6 J6 rfl k7
  have hc : c = commB x.fComms := by simpa [commB] using k7
  have hcl := commB_len x.fComms
  refine bif_of (fun h => absurd (of_decide_eq_true h) (by simp)) (fun _ => ⟨by trivial, ?_⟩)
  have k8 : o5 ++ (C ++ B) = F := by simpa using k6
  refine JP.of (fun o => o ++ B = F) (fun J hJ => bif_of (fun e => one_ap (by have := big k8; simp only [hc]; omega) (hJ _ ?_)) (fun e => ⟨by trivial, hJ _ ?_⟩)) fun o7 ho7 => ⟨by trivial, ?_⟩
  · have e := of_decide_eq_true e
    simp only [hc] at e
    subst hc; rw [← k8, ← hC, if_neg (by omega), oneB_eq (d := commB x.fComms) (by omega) (.inl (by omega))]; simp only [List.append_assoc]
  · have e := of_decide_eq_false e
    simp only [hc] at e
    subst hc; rw [← k8, ← hC, if_pos (by omega)]; simp only [List.nil_append]
  refine listLoop (l := x.fRaws) hr (fun (o : List Int) i => (o, i)) (fun y => y.2) (fun _ _ => rfl) (fun i r o => o ++ (r.filter fun r => decide (8 < r.fType)).flatMap rB = F) (s0 := o7) (by rw [hB]; exact ho7) ?_ ?_
  · rintro o i s r J k1 k2 k3 k4 k5 k6 hJ
    have hs := hrl s k4
    refine bif_of (fun _ => ⟨by trivial, JP.of (fun o' => o' ++ (r.filter fun r => decide (8 < r.fType)).flatMap rB = F) (fun J' hJ' => ⟨⟨k1, k2⟩, ?_⟩) (fun y hy => ⟨by trivial, hJ _ hy⟩)⟩) (fun h => absurd k2 (of_decide_eq_false h))
    refine bif_of (fun e => ⟨⟨k1, k2⟩, ⟨k1, k2⟩, ⟨k1, k2⟩, one_ap (o := o) (fl := (ix x.fRaws i).fFlags) (t := (ix x.fRaws i).fType) (d := (ix x.fRaws i).fData) (by have := big k6; rw [k3]; omega) (hJ' _ ?_)⟩) (fun e => ⟨by trivial, hJ' _ ?_⟩)
    · have e : decide (8 < s.fType) = true := by rw [← k3]; exact e
      rw [← k6, List.filter_cons_of_pos (by simpa using e), k3, oneB_eq (by omega) (.inl hs)]; simp only [rB, List.flatMap_cons, List.append_assoc]
    · have e : decide (8 < s.fType) = false := by rw [← k3]; exact e
      rw [← k6, List.filter_cons_of_neg (by simpa using e)]
  · rintro o i J rfl h
    exact bif_of (fun h => absurd (of_decide_eq_true h) (by simp)) (fun _ => by simpa using h)
theorem ok16 : Ok16 := con_ok (C := C16) (kok_cons ok33 (kok_cons ok14 (kk1 ok32))) mx7 (by kernel_rfl) run16
end Go.Rx
namespace Go.Rx
open Go.Ab Go.L7 Go.L21
set_option maxRecDepth 100000
set_option maxHeartbeats 20000000
set_option linter.unusedVariables false
noncomputable def C17 : Cfg S := { P := P7, inl := [], K := [(110, ctr P7 [35] [22] (fun x0 => (none, S66 x0))), (109, ctr P7 [35] [25, 4] (fun x0 => (some (P65 x0), S65 x0))), (70, ctr P7 [35] [35] (fun x0 => (some (P62 x0), S62 x0))), (59, ctr P7 [22] [4] (fun x0 => (none, S27 x0))), (65, .srt 37 66 Q52 R52)], ann := [(43, [(0, .loop [(.ce 0 0, .sl 5), (.ce 0 1, .int .i64), (.ce 0 2, .sl 34), (.ce 0 3, .int .u32), (.ce 0 4, .int .i64), (.ce 0 5, .int .i64), (.ce 0 6, .own 22), (.ce 0 7, .prv 37), (.tl 0, .run)]), (6, .loop [(.sl 29, .int .i64)])]),
  (111, [(4, .loop [(.sl 4, .sl 5), (.ce 0 0, .sl 5), (.ce 0 1, .int .i64), (.ce 0 2, .sl 34), (.ce 0 3, .int .u32), (.ce 0 4, .int .i64), (.ce 0 5, .int .i64), (.ce 0 6, .own 22), (.ce 0 7, .prv 37), (.tl 0, .run)])]),
  (89, [(1, .mt [37])]), (61, [(4, .join [(.sl 3, .int .i64)]), (9, .join [(.sl 4, .int .i64)])]), (62, [(5, .join [(.sl 5, .int .i64)]), (9, .join [(.sl 27, .bool)])]), (88, [(21, .join [(.sl 81, .bool)])]), (20, [(4, .frz [.ce 4 7])]), (42, [(2, .all)])] }
def dfrOf : Code → Option Dfr
  | .seq A (.seq Bc (.seq (.region rid ⟨[mk, df]⟩ false) rest)) => match mk.op, mk.dst with
    | .makeFunc (.func fd) _ caps, some d => some ⟨A, Bc, rid, mk, df, rest, fd, d, caps.toList⟩
    | _, _ => none
  | _ => none
noncomputable def fn17 : Func := (P7.funcs[20]?).getD default
noncomputable def D17 : Dfr := ((fn17.body).bind dfrOf).getD ⟨.skip, .skip, 0, default, default, .skip, 0, 0, []⟩
theorem q17 (x0 : List Int) (v : HR S [29, 62]) : (Xg C17 8 ((Ab.look C17.ann 20).getD []) fn17 D17 (argsA C17 [⟨35, x0⟩]) (isR C17.P [29, 62] v)) = (nat_lit 0
 = nat_lit 0 ∧ LOOP (fun (h : List Int × Int × List api_Segment × Int × Int × Int × List Int × List api_Raw × List Bool) (J : List Int × Int × List api_Segment
 × Int × Int × Int × List Int × List api_Raw × List Bool → Prop) => bif decide ((0 : Int) < (↑h.fst.length : Int)) then JP (fun (h_1 : Int) => bif decide
 ((↑h.fst.length : Int) < h_1) then Nat.le (nat_lit 0) (nat_lit 140737488355328) ∧ (((api_Attrs.mk (0 : Int) [] (0 : Int) (0 : Int) (0 : Int) [] [],
 api_Note.mk (3 : Int) (1 : Int) (S62 [])) = v ∧ (api_Attrs.mk (0 : Int) [] (0 : Int) (0 : Int) (0 : Int) [] [], api_Note.mk (3 : Int) (1 : Int) (S62 [])) = v)
 ∧ (api_Attrs.mk (0 : Int) [] (0 : Int) (0 : Int) (0 : Int) [] [], api_Note.mk (3 : Int) (1 : Int) (S62 [])) = v) ∧ ((api_Attrs.mk (0 : Int) [] (0 : Int) (0 :
 Int) (0 : Int) [] [], api_Note.mk (3 : Int) (1 : Int) (S62 [])) = v ∧ (api_Attrs.mk (0 : Int) [] (0 : Int) (0 : Int) (0 : Int) [] [], api_Note.mk (3 : Int) (1
 : Int) (S62 [])) = v) ∧ (api_Attrs.mk (0 : Int) [] (0 : Int) (0 : Int) (0 : Int) [] [], api_Note.mk (3 : Int) (1 : Int) (S62 [])) = v else ((0 : Int) ≤ (2 :
 Int) ∧ (2 : Int) < (↑h.fst.length : Int)) ∧ JP (fun (h_2 : Int) => bif decide (IntKind.i64.wrap ((↑h.fst.length : Int) - h_1) < h_2) then Nat.le (nat_lit 0)
 (nat_lit 140737488355328) ∧ (((api_Attrs.mk (0 : Int) [] (0 : Int) (0 : Int) (0 : Int) [] [], api_Note.mk (3 : Int) (1 : Int) (S62 [])) = v ∧ (api_Attrs.mk (0
 : Int) [] (0 : Int) (0 : Int) (0 : Int) [] [], api_Note.mk (3 : Int) (1 : Int) (S62 [])) = v) ∧ (api_Attrs.mk (0 : Int) [] (0 : Int) (0 : Int) (0 : Int) []
 [], api_Note.mk (3 : Int) (1 : Int) (S62 [])) = v) ∧ ((api_Attrs.mk (0 : Int) [] (0 : Int) (0 : Int) (0 : Int) [] [], api_Note.mk (3 : Int) (1 : Int) (S62
 [])) = v ∧ (api_Attrs.mk (0 : Int) [] (0 : Int) (0 : Int) (0 : Int) [] [], api_Note.mk (3 : Int) (1 : Int) (S62 [])) = v) ∧ (api_Attrs.mk (0 : Int) [] (0 :
 Int) (0 : Int) (0 : Int) [] [], api_Note.mk (3 : Int) (1 : Int) (S62 [])) = v else ((0 : Int) ≤ (0 : Int) ∧ (0 : Int) < (↑h.fst.length : Int)) ∧ ((0 : Int) ≤
 (1 : Int) ∧ (1 : Int) < (↑h.fst.length : Int)) ∧ ((0 : Int) ≤ (0 : Int) ∧ (0 : Int) ≤ IntKind.i64.wrap (h_1 + h_2) ∧ IntKind.i64.wrap (h_1 + h_2) ≤
 (↑h.fst.length : Int)) ∧ ((0 : Int) ≤ h_1 ∧ h_1 ≤ IntKind.i64.wrap (h_1 + h_2) ∧ IntKind.i64.wrap (h_1 + h_2) ≤ (↑h.fst.length : Int)) ∧ ((0 : Int) ≤
 IntKind.i64.wrap (h_1 + h_2) ∧ IntKind.i64.wrap (h_1 + h_2) ≤ (↑h.fst.length : Int) ∧ (↑h.fst.length : Int) ≤ (↑h.fst.length : Int)) ∧ ((0 : Int) ≤
 IntKind.i64.wrap (ix h.fst (1 : Int)) ∧ IntKind.i64.wrap (ix h.fst (1 : Int)) < (↑(nat_lit 256) : Int)) ∧ (IntKind.i64.wrap (ix h.fst (1 : Int))).toNat <
 h.snd.snd.snd.snd.snd.snd.snd.snd.length ∧ bif ix h.snd.snd.snd.snd.snd.snd.snd.snd (IntKind.i64.wrap (ix h.fst (1 : Int))) then Nat.le (nat_lit 0) (nat_lit
 140737488355328) ∧ (((api_Attrs.mk (0 : Int) [] (0 : Int) (0 : Int) (0 : Int) [] [], api_Note.mk (3 : Int) (1 : Int) (S62 [])) = v ∧ (api_Attrs.mk (0 : Int)
 [] (0 : Int) (0 : Int) (0 : Int) [] [], api_Note.mk (3 : Int) (1 : Int) (S62 [])) = v) ∧ (api_Attrs.mk (0 : Int) [] (0 : Int) (0 : Int) (0 : Int) [] [],
 api_Note.mk (3 : Int) (1 : Int) (S62 [])) = v) ∧ ((api_Attrs.mk (0 : Int) [] (0 : Int) (0 : Int) (0 : Int) [] [], api_Note.mk (3 : Int) (1 : Int) (S62 [])) =
 v ∧ (api_Attrs.mk (0 : Int) [] (0 : Int) (0 : Int) (0 : Int) [] [], api_Note.mk (3 : Int) (1 : Int) (S62 [])) = v) ∧ (api_Attrs.mk (0 : Int) [] (0 : Int) (0 :
 Int) (0 : Int) [] [], api_Note.mk (3 : Int) (1 : Int) (S62 [])) = v else ((0 : Int) ≤ IntKind.i64.wrap (ix h.fst (1 : Int)) ∧ IntKind.i64.wrap (ix h.fst (1 :
 Int)) < (↑(nat_lit 256) : Int)) ∧ (IntKind.i64.wrap (ix h.fst (1 : Int))).toNat < h.snd.snd.snd.snd.snd.snd.snd.snd.length ∧ bif decide ((1 : Int) ≤
 IntKind.i64.wrap (ix h.fst (1 : Int))) && decide (IntKind.i64.wrap (ix h.fst (1 : Int)) ≤ (8 : Int)) then ((0 : Int) ≤ IntKind.i64.wrap (ix h.fst (1 : Int)) ∧
 IntKind.i64.wrap (ix h.fst (1 : Int)) < (↑(nat_lit 9) : Int)) ∧ JP (fun (h_3 : Int) => bif !decide (iand IntKind.i64 (IntKind.i64.wrap (ix h.fst (0 : Int)))
 h_3 = (ix [attr_kind.mk (0 : Int) (0 : Int), attr_kind.mk (64 : Int) (1 : Int), attr_kind.mk (64 : Int) (-1 : Int), attr_kind.mk (64 : Int) (4 : Int),
 attr_kind.mk (128 : Int) (4 : Int), attr_kind.mk (64 : Int) (4 : Int), attr_kind.mk (64 : Int) (0 : Int), attr_kind.mk (192 : Int) (8 : Int), attr_kind.mk
 (192 : Int) (-1 : Int)] (IntKind.i64.wrap (ix h.fst (1 : Int)))).fflags) then (sub h.fst (0 : Int) (IntKind.i64.wrap (h_1 + h_2))).length.le (nat_lit
 140737488355328) ∧ (((api_Attrs.mk (0 : Int) [] (0 : Int) (0 : Int) (0 : Int) [] [], api_Note.mk (3 : Int) (4 : Int) (S62 (sub h.fst (0 : Int)
 (IntKind.i64.wrap (h_1 + h_2))))) = v ∧ (api_Attrs.mk (0 : Int) [] (0 : Int) (0 : Int) (0 : Int) [] [], api_Note.mk (3 : Int) (4 : Int) (S62 (sub h.fst (0 :
 Int) (IntKind.i64.wrap (h_1 + h_2))))) = v) ∧ (api_Attrs.mk (0 : Int) [] (0 : Int) (0 : Int) (0 : Int) [] [], api_Note.mk (3 : Int) (4 : Int) (S62 (sub h.fst
 (0 : Int) (IntKind.i64.wrap (h_1 + h_2))))) = v) ∧ ((api_Attrs.mk (0 : Int) [] (0 : Int) (0 : Int) (0 : Int) [] [], api_Note.mk (3 : Int) (4 : Int) (S62 (sub
 h.fst (0 : Int) (IntKind.i64.wrap (h_1 + h_2))))) = v ∧ (api_Attrs.mk (0 : Int) [] (0 : Int) (0 : Int) (0 : Int) [] [], api_Note.mk (3 : Int) (4 : Int) (S62
 (sub h.fst (0 : Int) (IntKind.i64.wrap (h_1 + h_2))))) = v) ∧ (api_Attrs.mk (0 : Int) [] (0 : Int) (0 : Int) (0 : Int) [] [], api_Note.mk (3 : Int) (4 : Int)
 (S62 (sub h.fst (0 : Int) (IntKind.i64.wrap (h_1 + h_2))))) = v else JP (fun (h_4 : Bool) => bif h_4 then (sub h.fst (0 : Int) (IntKind.i64.wrap (h_1 +
 h_2))).length.le (nat_lit 140737488355328) ∧ (((api_Attrs.mk (0 : Int) [] (0 : Int) (0 : Int) (0 : Int) [] [], api_Note.mk (3 : Int) (5 : Int) (S62 (sub h.fst
 (0 : Int) (IntKind.i64.wrap (h_1 + h_2))))) = v ∧ (api_Attrs.mk (0 : Int) [] (0 : Int) (0 : Int) (0 : Int) [] [], api_Note.mk (3 : Int) (5 : Int) (S62 (sub
 h.fst (0 : Int) (IntKind.i64.wrap (h_1 + h_2))))) = v) ∧ (api_Attrs.mk (0 : Int) [] (0 : Int) (0 : Int) (0 : Int) [] [], api_Note.mk (3 : Int) (5 : Int) (S62
 (sub h.fst (0 : Int) (IntKind.i64.wrap (h_1 + h_2))))) = v) ∧ ((api_Attrs.mk (0 : Int) [] (0 : Int) (0 : Int) (0 : Int) [] [], api_Note.mk (3 : Int) (5 : Int)
 (S62 (sub h.fst (0 : Int) (IntKind.i64.wrap (h_1 + h_2))))) = v ∧ (api_Attrs.mk (0 : Int) [] (0 : Int) (0 : Int) (0 : Int) [] [], api_Note.mk (3 : Int) (5 :
 Int) (S62 (sub h.fst (0 : Int) (IntKind.i64.wrap (h_1 + h_2))))) = v) ∧ (api_Attrs.mk (0 : Int) [] (0 : Int) (0 : Int) (0 : Int) [] [], api_Note.mk (3 : Int)
 (5 : Int) (S62 (sub h.fst (0 : Int) (IntKind.i64.wrap (h_1 + h_2))))) = v else bif decide (IntKind.i64.wrap (ix h.fst (1 : Int)) = (1 : Int)) then ((0 : Int)
 ≤ (0 : Int) ∧ (0 : Int) < (↑(sub h.fst h_1 (IntKind.i64.wrap (h_1 + h_2))).length : Int)) ∧ bif decide ((2 : Int) < IntKind.i64.wrap (ix (sub h.fst h_1
 (IntKind.i64.wrap (h_1 + h_2))) (0 : Int))) then (sub h.fst (0 : Int) (IntKind.i64.wrap (h_1 + h_2))).length.le (nat_lit 140737488355328) ∧ (((api_Attrs.mk (0
 : Int) [] (0 : Int) (0 : Int) (0 : Int) [] [], api_Note.mk (3 : Int) (6 : Int) (S62 (sub h.fst (0 : Int) (IntKind.i64.wrap (h_1 + h_2))))) = v ∧ (api_Attrs.mk
 (0 : Int) [] (0 : Int) (0 : Int) (0 : Int) [] [], api_Note.mk (3 : Int) (6 : Int) (S62 (sub h.fst (0 : Int) (IntKind.i64.wrap (h_1 + h_2))))) = v) ∧
 (api_Attrs.mk (0 : Int) [] (0 : Int) (0 : Int) (0 : Int) [] [], api_Note.mk (3 : Int) (6 : Int) (S62 (sub h.fst (0 : Int) (IntKind.i64.wrap (h_1 + h_2))))) =
 v) ∧ ((api_Attrs.mk (0 : Int) [] (0 : Int) (0 : Int) (0 : Int) [] [], api_Note.mk (3 : Int) (6 : Int) (S62 (sub h.fst (0 : Int) (IntKind.i64.wrap (h_1 +
 h_2))))) = v ∧ (api_Attrs.mk (0 : Int) [] (0 : Int) (0 : Int) (0 : Int) [] [], api_Note.mk (3 : Int) (6 : Int) (S62 (sub h.fst (0 : Int) (IntKind.i64.wrap
 (h_1 + h_2))))) = v) ∧ (api_Attrs.mk (0 : Int) [] (0 : Int) (0 : Int) (0 : Int) [] [], api_Note.mk (3 : Int) (6 : Int) (S62 (sub h.fst (0 : Int)
 (IntKind.i64.wrap (h_1 + h_2))))) = v else (h.snd.snd.snd.snd.snd.snd.fst.length = h.snd.snd.snd.snd.snd.snd.fst.length ∧
 (h.snd.snd.snd.snd.snd.snd.snd.fst.length = h.snd.snd.snd.snd.snd.snd.snd.fst.length ∧ h.snd.snd.snd.snd.snd.snd.snd.fst.length =
 h.snd.snd.snd.snd.snd.snd.snd.fst.length) ∧ nat_lit 0 = nat_lit 0) ∧ J (sub h.fst (IntKind.i64.wrap (h_1 + h_2)) (↑h.fst.length : Int), IntKind.i64.wrap (ix
 (sub h.fst h_1 (IntKind.i64.wrap (h_1 + h_2))) (0 : Int)), h.snd.snd.fst, h.snd.snd.snd.fst, h.snd.snd.snd.snd.fst, h.snd.snd.snd.snd.snd.fst,
 h.snd.snd.snd.snd.snd.snd.fst, h.snd.snd.snd.snd.snd.snd.snd.fst, h.snd.snd.snd.snd.snd.snd.snd.snd.set (IntKind.i64.wrap (ix h.fst (1 : Int))).toNat true)
 else bif decide (IntKind.i64.wrap (ix h.fst (1 : Int)) = (2 : Int)) then ((sub h.fst h_1 (IntKind.i64.wrap (h_1 + h_2))).length ≤ nat_lit 1099511627776 ∧ ∀ (c
 : Int), List.Mem c (sub h.fst h_1 (IntKind.i64.wrap (h_1 + h_2))) → (0 : Int) ≤ c ∧ c ≤ (255 : Int)) ∧ bif !(S65 (sub h.fst h_1 (IntKind.i64.wrap (h_1 +
 h_2)))).snd then Nat.le (nat_lit 0) (nat_lit 140737488355328) ∧ (((api_Attrs.mk (0 : Int) [] (0 : Int) (0 : Int) (0 : Int) [] [], api_Note.mk (3 : Int) (11 :
 Int) (S62 [])) = v ∧ (api_Attrs.mk (0 : Int) [] (0 : Int) (0 : Int) (0 : Int) [] [], api_Note.mk (3 : Int) (11 : Int) (S62 [])) = v) ∧ (api_Attrs.mk (0 : Int)
 [] (0 : Int) (0 : Int) (0 : Int) [] [], api_Note.mk (3 : Int) (11 : Int) (S62 [])) = v) ∧ ((api_Attrs.mk (0 : Int) [] (0 : Int) (0 : Int) (0 : Int) [] [],
 api_Note.mk (3 : Int) (11 : Int) (S62 [])) = v ∧ (api_Attrs.mk (0 : Int) [] (0 : Int) (0 : Int) (0 : Int) [] [], api_Note.mk (3 : Int) (11 : Int) (S62 [])) =
 v) ∧ (api_Attrs.mk (0 : Int) [] (0 : Int) (0 : Int) (0 : Int) [] [], api_Note.mk (3 : Int) (11 : Int) (S62 [])) = v else (h.snd.snd.snd.snd.snd.snd.fst.length
 = h.snd.snd.snd.snd.snd.snd.fst.length ∧ (h.snd.snd.snd.snd.snd.snd.snd.fst.length = h.snd.snd.snd.snd.snd.snd.snd.fst.length ∧
 h.snd.snd.snd.snd.snd.snd.snd.fst.length = h.snd.snd.snd.snd.snd.snd.snd.fst.length) ∧ nat_lit 0 = nat_lit 0) ∧ J (sub h.fst (IntKind.i64.wrap (h_1 + h_2))
 (↑h.fst.length : Int), h.snd.fst, (S65 (sub h.fst h_1 (IntKind.i64.wrap (h_1 + h_2)))).fst, h.snd.snd.snd.fst, h.snd.snd.snd.snd.fst,
 h.snd.snd.snd.snd.snd.fst, h.snd.snd.snd.snd.snd.snd.fst, h.snd.snd.snd.snd.snd.snd.snd.fst, h.snd.snd.snd.snd.snd.snd.snd.snd.set (IntKind.i64.wrap (ix h.fst
 (1 : Int))).toNat true) else bif decide (IntKind.i64.wrap (ix h.fst (1 : Int)) = (3 : Int)) then bif !S27 (S66 (sub h.fst h_1 (IntKind.i64.wrap (h_1 + h_2))))
 then (sub h.fst (0 : Int) (IntKind.i64.wrap (h_1 + h_2))).length.le (nat_lit 140737488355328) ∧ (((api_Attrs.mk (0 : Int) [] (0 : Int) (0 : Int) (0 : Int) []
 [], api_Note.mk (3 : Int) (8 : Int) (S62 (sub h.fst (0 : Int) (IntKind.i64.wrap (h_1 + h_2))))) = v ∧ (api_Attrs.mk (0 : Int) [] (0 : Int) (0 : Int) (0 : Int)
 [] [], api_Note.mk (3 : Int) (8 : Int) (S62 (sub h.fst (0 : Int) (IntKind.i64.wrap (h_1 + h_2))))) = v) ∧ (api_Attrs.mk (0 : Int) [] (0 : Int) (0 : Int) (0 :
 Int) [] [], api_Note.mk (3 : Int) (8 : Int) (S62 (sub h.fst (0 : Int) (IntKind.i64.wrap (h_1 + h_2))))) = v) ∧ ((api_Attrs.mk (0 : Int) [] (0 : Int) (0 : Int)
 (0 : Int) [] [], api_Note.mk (3 : Int) (8 : Int) (S62 (sub h.fst (0 : Int) (IntKind.i64.wrap (h_1 + h_2))))) = v ∧ (api_Attrs.mk (0 : Int) [] (0 : Int) (0 :
 Int) (0 : Int) [] [], api_Note.mk (3 : Int) (8 : Int) (S62 (sub h.fst (0 : Int) (IntKind.i64.wrap (h_1 + h_2))))) = v) ∧ (api_Attrs.mk (0 : Int) [] (0 : Int)
 (0 : Int) (0 : Int) [] [], api_Note.mk (3 : Int) (8 : Int) (S62 (sub h.fst (0 : Int) (IntKind.i64.wrap (h_1 + h_2))))) = v else
 (h.snd.snd.snd.snd.snd.snd.fst.length = h.snd.snd.snd.snd.snd.snd.fst.length ∧ (h.snd.snd.snd.snd.snd.snd.snd.fst.length =
 h.snd.snd.snd.snd.snd.snd.snd.fst.length ∧ h.snd.snd.snd.snd.snd.snd.snd.fst.length = h.snd.snd.snd.snd.snd.snd.snd.fst.length) ∧ nat_lit 0 = nat_lit 0) ∧ J
 (sub h.fst (IntKind.i64.wrap (h_1 + h_2)) (↑h.fst.length : Int), h.snd.fst, h.snd.snd.fst, S66 (sub h.fst h_1 (IntKind.i64.wrap (h_1 + h_2))),
 h.snd.snd.snd.snd.fst, h.snd.snd.snd.snd.snd.fst, h.snd.snd.snd.snd.snd.snd.fst, h.snd.snd.snd.snd.snd.snd.snd.fst, h.snd.snd.snd.snd.snd.snd.snd.snd.set
 (IntKind.i64.wrap (ix h.fst (1 : Int))).toNat true) else bif decide (IntKind.i64.wrap (ix h.fst (1 : Int)) = (4 : Int)) then
 (h.snd.snd.snd.snd.snd.snd.fst.length = h.snd.snd.snd.snd.snd.snd.fst.length ∧ (h.snd.snd.snd.snd.snd.snd.snd.fst.length =
 h.snd.snd.snd.snd.snd.snd.snd.fst.length ∧ h.snd.snd.snd.snd.snd.snd.snd.fst.length = h.snd.snd.snd.snd.snd.snd.snd.fst.length) ∧ nat_lit 0 = nat_lit 0) ∧ J
 (sub h.fst (IntKind.i64.wrap (h_1 + h_2)) (↑h.fst.length : Int), h.snd.fst, h.snd.snd.fst, h.snd.snd.snd.fst, IntKind.i64.wrap (S66 (sub h.fst h_1
 (IntKind.i64.wrap (h_1 + h_2)))), h.snd.snd.snd.snd.snd.fst, h.snd.snd.snd.snd.snd.snd.fst, h.snd.snd.snd.snd.snd.snd.snd.fst,
 h.snd.snd.snd.snd.snd.snd.snd.snd.set (IntKind.i64.wrap (ix h.fst (1 : Int))).toNat true) else bif decide (IntKind.i64.wrap (ix h.fst (1 : Int)) = (5 : Int))
 then (h.snd.snd.snd.snd.snd.snd.fst.length = h.snd.snd.snd.snd.snd.snd.fst.length ∧ (h.snd.snd.snd.snd.snd.snd.snd.fst.length =
 h.snd.snd.snd.snd.snd.snd.snd.fst.length ∧ h.snd.snd.snd.snd.snd.snd.snd.fst.length = h.snd.snd.snd.snd.snd.snd.snd.fst.length) ∧ nat_lit 0 = nat_lit 0) ∧ J
 (sub h.fst (IntKind.i64.wrap (h_1 + h_2)) (↑h.fst.length : Int), h.snd.fst, h.snd.snd.fst, h.snd.snd.snd.fst, h.snd.snd.snd.snd.fst, IntKind.i64.wrap (S66
 (sub h.fst h_1 (IntKind.i64.wrap (h_1 + h_2)))), h.snd.snd.snd.snd.snd.snd.fst, h.snd.snd.snd.snd.snd.snd.snd.fst, h.snd.snd.snd.snd.snd.snd.snd.snd.set
 (IntKind.i64.wrap (ix h.fst (1 : Int))).toNat true) else JP (fun (h_5 : Bool) => bif h_5 then ((0 : Int) ≤ IntKind.i64.wrap (ix h.fst (1 : Int)) ∧
 IntKind.i64.wrap (ix h.fst (1 : Int)) < (↑(nat_lit 9) : Int)) ∧ (sub h.fst h_1 (IntKind.i64.wrap (h_1 + h_2))).length.le (nat_lit 140737488355328) ∧
 (h.snd.snd.snd.snd.snd.snd.snd.fst.length = h.snd.snd.snd.snd.snd.snd.snd.fst.length ∧ h.snd.snd.snd.snd.snd.snd.snd.fst.length =
 h.snd.snd.snd.snd.snd.snd.snd.fst.length ∧ (h.snd.snd.snd.snd.snd.snd.snd.fst.length + [api_Raw.mk (ix [attr_kind.mk (0 : Int) (0 : Int), attr_kind.mk (64 :
 Int) (1 : Int), attr_kind.mk (64 : Int) (-1 : Int), attr_kind.mk (64 : Int) (4 : Int), attr_kind.mk (128 : Int) (4 : Int), attr_kind.mk (64 : Int) (4 : Int),
 attr_kind.mk (64 : Int) (0 : Int), attr_kind.mk (192 : Int) (8 : Int), attr_kind.mk (192 : Int) (-1 : Int)] (IntKind.i64.wrap (ix h.fst (1 : Int)))).fflags
 (IntKind.i64.wrap (ix h.fst (1 : Int))) (S62 (sub h.fst h_1 (IntKind.i64.wrap (h_1 + h_2))))].length) * nat_lit 40 ≤ nat_lit 140737488355328) ∧ ∀ (y : List
 (api_Raw)), y = h.snd.snd.snd.snd.snd.snd.snd.fst ++ [api_Raw.mk (ix [attr_kind.mk (0 : Int) (0 : Int), attr_kind.mk (64 : Int) (1 : Int), attr_kind.mk (64 :
 Int) (-1 : Int), attr_kind.mk (64 : Int) (4 : Int), attr_kind.mk (128 : Int) (4 : Int), attr_kind.mk (64 : Int) (4 : Int), attr_kind.mk (64 : Int) (0 : Int),
 attr_kind.mk (192 : Int) (8 : Int), attr_kind.mk (192 : Int) (-1 : Int)] (IntKind.i64.wrap (ix h.fst (1 : Int)))).fflags (IntKind.i64.wrap (ix h.fst (1 :
 Int))) (S62 (sub h.fst h_1 (IntKind.i64.wrap (h_1 + h_2))))] → (h.snd.snd.snd.snd.snd.snd.fst.length = h.snd.snd.snd.snd.snd.snd.fst.length ∧ (y.length =
 y.length ∧ y.length = y.length) ∧ nat_lit 0 = nat_lit 0) ∧ J (sub h.fst (IntKind.i64.wrap (h_1 + h_2)) (↑h.fst.length : Int), h.snd.fst, h.snd.snd.fst,
 h.snd.snd.snd.fst, h.snd.snd.snd.snd.fst, h.snd.snd.snd.snd.snd.fst, h.snd.snd.snd.snd.snd.snd.fst, y, h.snd.snd.snd.snd.snd.snd.snd.snd.set (IntKind.i64.wrap
 (ix h.fst (1 : Int))).toNat true) else bif decide (IntKind.i64.wrap (ix h.fst (1 : Int)) = (8 : Int)) then bif decide ((128 : Int) < (↑(sub h.fst h_1
 (IntKind.i64.wrap (h_1 + h_2))).length : Int)) then (sub h.fst (0 : Int) (IntKind.i64.wrap (h_1 + h_2))).length.le (nat_lit 140737488355328) ∧ (((api_Attrs.mk
 (0 : Int) [] (0 : Int) (0 : Int) (0 : Int) [] [], api_Note.mk (3 : Int) (9 : Int) (S62 (sub h.fst (0 : Int) (IntKind.i64.wrap (h_1 + h_2))))) = v ∧
 (api_Attrs.mk (0 : Int) [] (0 : Int) (0 : Int) (0 : Int) [] [], api_Note.mk (3 : Int) (9 : Int) (S62 (sub h.fst (0 : Int) (IntKind.i64.wrap (h_1 + h_2))))) =
 v) ∧ (api_Attrs.mk (0 : Int) [] (0 : Int) (0 : Int) (0 : Int) [] [], api_Note.mk (3 : Int) (9 : Int) (S62 (sub h.fst (0 : Int) (IntKind.i64.wrap (h_1 +
 h_2))))) = v) ∧ ((api_Attrs.mk (0 : Int) [] (0 : Int) (0 : Int) (0 : Int) [] [], api_Note.mk (3 : Int) (9 : Int) (S62 (sub h.fst (0 : Int) (IntKind.i64.wrap
 (h_1 + h_2))))) = v ∧ (api_Attrs.mk (0 : Int) [] (0 : Int) (0 : Int) (0 : Int) [] [], api_Note.mk (3 : Int) (9 : Int) (S62 (sub h.fst (0 : Int)
 (IntKind.i64.wrap (h_1 + h_2))))) = v) ∧ (api_Attrs.mk (0 : Int) [] (0 : Int) (0 : Int) (0 : Int) [] [], api_Note.mk (3 : Int) (9 : Int) (S62 (sub h.fst (0 :
 Int) (IntKind.i64.wrap (h_1 + h_2))))) = v else (h.snd.snd.snd.snd.snd.snd.fst.length = h.snd.snd.snd.snd.snd.snd.fst.length ∧
 (h.snd.snd.snd.snd.snd.snd.snd.fst.length = h.snd.snd.snd.snd.snd.snd.snd.fst.length ∧ h.snd.snd.snd.snd.snd.snd.snd.fst.length =
 h.snd.snd.snd.snd.snd.snd.snd.fst.length) ∧ nat_lit 0 = nat_lit 0) ∧ LOOP (fun (h : List Int × List Int × Int × List api_Segment × Int × Int × Int × List Int
 × List api_Raw × List Bool) (J_1 : List Int × List Int × Int × List api_Segment × Int × Int × Int × List Int × List api_Raw × List Bool → Prop) => bif decide
 ((0 : Int) < (↑h.fst.length : Int)) then (h.snd.snd.snd.snd.snd.snd.snd.fst.length = h.snd.snd.snd.snd.snd.snd.snd.fst.length ∧
 (h.snd.snd.snd.snd.snd.snd.snd.fst.length + [S66 h.fst].length) * nat_lit 4 ≤ nat_lit 140737488355328) ∧ ∀ (y : List (Int)), y =
 h.snd.snd.snd.snd.snd.snd.snd.fst ++ [S66 h.fst] → ((0 : Int) ≤ (4 : Int) ∧ (4 : Int) ≤ (↑h.fst.length : Int) ∧ (↑h.fst.length : Int) ≤ (↑h.fst.length : Int))
 ∧ (y.length = y.length ∧ (h.snd.snd.snd.snd.snd.snd.snd.snd.fst.length = h.snd.snd.snd.snd.snd.snd.snd.snd.fst.length ∧
 h.snd.snd.snd.snd.snd.snd.snd.snd.fst.length = h.snd.snd.snd.snd.snd.snd.snd.snd.fst.length) ∧ nat_lit 0 = nat_lit 0) ∧ J_1 (sub h.fst (4 : Int)
 (↑h.fst.length : Int), h.snd.fst, h.snd.snd.fst, h.snd.snd.snd.fst, h.snd.snd.snd.snd.fst, h.snd.snd.snd.snd.snd.fst, h.snd.snd.snd.snd.snd.snd.fst, y,
 h.snd.snd.snd.snd.snd.snd.snd.snd) else (h.snd.snd.snd.snd.snd.snd.snd.fst.length = h.snd.snd.snd.snd.snd.snd.snd.fst.length ∧
 (h.snd.snd.snd.snd.snd.snd.snd.snd.fst.length = h.snd.snd.snd.snd.snd.snd.snd.snd.fst.length ∧ h.snd.snd.snd.snd.snd.snd.snd.snd.fst.length =
 h.snd.snd.snd.snd.snd.snd.snd.snd.fst.length) ∧ nat_lit 0 = nat_lit 0) ∧ J h.snd) (sub h.fst h_1 (IntKind.i64.wrap (h_1 + h_2)), sub h.fst (IntKind.i64.wrap
 (h_1 + h_2)) (↑h.fst.length : Int), h.snd.fst, h.snd.snd.fst, h.snd.snd.snd.fst, h.snd.snd.snd.snd.fst, h.snd.snd.snd.snd.snd.fst,
 h.snd.snd.snd.snd.snd.snd.fst, h.snd.snd.snd.snd.snd.snd.snd.fst, h.snd.snd.snd.snd.snd.snd.snd.snd.set (IntKind.i64.wrap (ix h.fst (1 : Int))).toNat true)
 else (h.snd.snd.snd.snd.snd.snd.fst.length = h.snd.snd.snd.snd.snd.snd.fst.length ∧ (h.snd.snd.snd.snd.snd.snd.snd.fst.length =
 h.snd.snd.snd.snd.snd.snd.snd.fst.length ∧ h.snd.snd.snd.snd.snd.snd.snd.fst.length = h.snd.snd.snd.snd.snd.snd.snd.fst.length) ∧ nat_lit 0 = nat_lit 0) ∧ J
 (sub h.fst (IntKind.i64.wrap (h_1 + h_2)) (↑h.fst.length : Int), h.snd.fst, h.snd.snd.fst, h.snd.snd.snd.fst, h.snd.snd.snd.snd.fst,
 h.snd.snd.snd.snd.snd.fst, h.snd.snd.snd.snd.snd.snd.fst, h.snd.snd.snd.snd.snd.snd.snd.fst, h.snd.snd.snd.snd.snd.snd.snd.snd.set (IntKind.i64.wrap (ix h.fst
 (1 : Int))).toNat true)) fun (J : Bool → Prop) => bif decide (IntKind.i64.wrap (ix h.fst (1 : Int)) = (6 : Int)) then J (decide (IntKind.i64.wrap (ix h.fst (1
 : Int)) = (6 : Int))) else J (decide (IntKind.i64.wrap (ix h.fst (1 : Int)) = (7 : Int)))) fun (J : Bool → Prop) => bif decide ((0 : Int) ≤ (ix [attr_kind.mk
 (0 : Int) (0 : Int), attr_kind.mk (64 : Int) (1 : Int), attr_kind.mk (64 : Int) (-1 : Int), attr_kind.mk (64 : Int) (4 : Int), attr_kind.mk (128 : Int) (4 :
 Int), attr_kind.mk (64 : Int) (4 : Int), attr_kind.mk (64 : Int) (0 : Int), attr_kind.mk (192 : Int) (8 : Int), attr_kind.mk (192 : Int) (-1 : Int)]
 (IntKind.i64.wrap (ix h.fst (1 : Int)))).fsize) && !decide ((↑(sub h.fst h_1 (IntKind.i64.wrap (h_1 + h_2))).length : Int) = (ix [attr_kind.mk (0 : Int) (0 :
 Int), attr_kind.mk (64 : Int) (1 : Int), attr_kind.mk (64 : Int) (-1 : Int), attr_kind.mk (64 : Int) (4 : Int), attr_kind.mk (128 : Int) (4 : Int),
 attr_kind.mk (64 : Int) (4 : Int), attr_kind.mk (64 : Int) (0 : Int), attr_kind.mk (192 : Int) (8 : Int), attr_kind.mk (192 : Int) (-1 : Int)]
 (IntKind.i64.wrap (ix h.fst (1 : Int)))).fsize) then J (decide ((0 : Int) ≤ (ix [attr_kind.mk (0 : Int) (0 : Int), attr_kind.mk (64 : Int) (1 : Int),
 attr_kind.mk (64 : Int) (-1 : Int), attr_kind.mk (64 : Int) (4 : Int), attr_kind.mk (128 : Int) (4 : Int), attr_kind.mk (64 : Int) (4 : Int), attr_kind.mk (64
 : Int) (0 : Int), attr_kind.mk (192 : Int) (8 : Int), attr_kind.mk (192 : Int) (-1 : Int)] (IntKind.i64.wrap (ix h.fst (1 : Int)))).fsize) && !decide ((↑(sub
 h.fst h_1 (IntKind.i64.wrap (h_1 + h_2))).length : Int) = (ix [attr_kind.mk (0 : Int) (0 : Int), attr_kind.mk (64 : Int) (1 : Int), attr_kind.mk (64 : Int)
 (-1 : Int), attr_kind.mk (64 : Int) (4 : Int), attr_kind.mk (128 : Int) (4 : Int), attr_kind.mk (64 : Int) (4 : Int), attr_kind.mk (64 : Int) (0 : Int),
 attr_kind.mk (192 : Int) (8 : Int), attr_kind.mk (192 : Int) (-1 : Int)] (IntKind.i64.wrap (ix h.fst (1 : Int)))).fsize)) else J (decide (IntKind.i64.wrap (ix
 h.fst (1 : Int)) = (8 : Int)) && (decide ((↑(sub h.fst h_1 (IntKind.i64.wrap (h_1 + h_2))).length : Int) = (0 : Int)) || !decide ((↑(sub h.fst h_1
 (IntKind.i64.wrap (h_1 + h_2))).length : Int).tmod (4 : Int) = (0 : Int))))) fun (J : Int → Prop) => bif !decide ((ix [attr_kind.mk (0 : Int) (0 : Int),
 attr_kind.mk (64 : Int) (1 : Int), attr_kind.mk (64 : Int) (-1 : Int), attr_kind.mk (64 : Int) (4 : Int), attr_kind.mk (128 : Int) (4 : Int), attr_kind.mk (64
 : Int) (4 : Int), attr_kind.mk (64 : Int) (0 : Int), attr_kind.mk (192 : Int) (8 : Int), attr_kind.mk (192 : Int) (-1 : Int)] (IntKind.i64.wrap (ix h.fst (1 :
 Int)))).fflags = (192 : Int)) then J (ior IntKind.i64 (192 : Int) (32 : Int)) else J (192 : Int) else bif decide (iand IntKind.i64 (IntKind.i64.wrap (ix h.fst
 (0 : Int))) (128 : Int) = (0 : Int)) then (sub h.fst (0 : Int) (IntKind.i64.wrap (h_1 + h_2))).length.le (nat_lit 140737488355328) ∧ (((api_Attrs.mk (0 : Int)
 [] (0 : Int) (0 : Int) (0 : Int) [] [], api_Note.mk (3 : Int) (2 : Int) (S62 (sub h.fst (0 : Int) (IntKind.i64.wrap (h_1 + h_2))))) = v ∧ (api_Attrs.mk (0 :
 Int) [] (0 : Int) (0 : Int) (0 : Int) [] [], api_Note.mk (3 : Int) (2 : Int) (S62 (sub h.fst (0 : Int) (IntKind.i64.wrap (h_1 + h_2))))) = v) ∧ (api_Attrs.mk
 (0 : Int) [] (0 : Int) (0 : Int) (0 : Int) [] [], api_Note.mk (3 : Int) (2 : Int) (S62 (sub h.fst (0 : Int) (IntKind.i64.wrap (h_1 + h_2))))) = v) ∧
 ((api_Attrs.mk (0 : Int) [] (0 : Int) (0 : Int) (0 : Int) [] [], api_Note.mk (3 : Int) (2 : Int) (S62 (sub h.fst (0 : Int) (IntKind.i64.wrap (h_1 + h_2))))) =
 v ∧ (api_Attrs.mk (0 : Int) [] (0 : Int) (0 : Int) (0 : Int) [] [], api_Note.mk (3 : Int) (2 : Int) (S62 (sub h.fst (0 : Int) (IntKind.i64.wrap (h_1 +
 h_2))))) = v) ∧ (api_Attrs.mk (0 : Int) [] (0 : Int) (0 : Int) (0 : Int) [] [], api_Note.mk (3 : Int) (2 : Int) (S62 (sub h.fst (0 : Int) (IntKind.i64.wrap
 (h_1 + h_2))))) = v else bif decide (iand IntKind.i64 (IntKind.i64.wrap (ix h.fst (0 : Int))) (64 : Int) = (0 : Int)) then
 (h.snd.snd.snd.snd.snd.snd.fst.length = h.snd.snd.snd.snd.snd.snd.fst.length ∧ (h.snd.snd.snd.snd.snd.snd.snd.fst.length =
 h.snd.snd.snd.snd.snd.snd.snd.fst.length ∧ h.snd.snd.snd.snd.snd.snd.snd.fst.length = h.snd.snd.snd.snd.snd.snd.snd.fst.length) ∧ nat_lit 0 = nat_lit 0) ∧ J
 (sub h.fst (IntKind.i64.wrap (h_1 + h_2)) (↑h.fst.length : Int), h.snd.fst, h.snd.snd.fst, h.snd.snd.snd.fst, h.snd.snd.snd.snd.fst,
 h.snd.snd.snd.snd.snd.fst, h.snd.snd.snd.snd.snd.snd.fst, h.snd.snd.snd.snd.snd.snd.snd.fst, h.snd.snd.snd.snd.snd.snd.snd.snd.set (IntKind.i64.wrap (ix h.fst
 (1 : Int))).toNat true) else bif decide ((255 : Int) < (↑(sub h.fst h_1 (IntKind.i64.wrap (h_1 + h_2))).length : Int)) then (sub h.fst (0 : Int)
 (IntKind.i64.wrap (h_1 + h_2))).length.le (nat_lit 140737488355328) ∧ (((api_Attrs.mk (0 : Int) [] (0 : Int) (0 : Int) (0 : Int) [] [], api_Note.mk (3 : Int)
 (9 : Int) (S62 (sub h.fst (0 : Int) (IntKind.i64.wrap (h_1 + h_2))))) = v ∧ (api_Attrs.mk (0 : Int) [] (0 : Int) (0 : Int) (0 : Int) [] [], api_Note.mk (3 :
 Int) (9 : Int) (S62 (sub h.fst (0 : Int) (IntKind.i64.wrap (h_1 + h_2))))) = v) ∧ (api_Attrs.mk (0 : Int) [] (0 : Int) (0 : Int) (0 : Int) [] [], api_Note.mk
 (3 : Int) (9 : Int) (S62 (sub h.fst (0 : Int) (IntKind.i64.wrap (h_1 + h_2))))) = v) ∧ ((api_Attrs.mk (0 : Int) [] (0 : Int) (0 : Int) (0 : Int) [] [],
 api_Note.mk (3 : Int) (9 : Int) (S62 (sub h.fst (0 : Int) (IntKind.i64.wrap (h_1 + h_2))))) = v ∧ (api_Attrs.mk (0 : Int) [] (0 : Int) (0 : Int) (0 : Int) []
 [], api_Note.mk (3 : Int) (9 : Int) (S62 (sub h.fst (0 : Int) (IntKind.i64.wrap (h_1 + h_2))))) = v) ∧ (api_Attrs.mk (0 : Int) [] (0 : Int) (0 : Int) (0 :
 Int) [] [], api_Note.mk (3 : Int) (9 : Int) (S62 (sub h.fst (0 : Int) (IntKind.i64.wrap (h_1 + h_2))))) = v else bif decide ((8 : Int) < IntKind.i64.wrap (ix
 h.fst (1 : Int))) then (sub h.fst h_1 (IntKind.i64.wrap (h_1 + h_2))).length.le (nat_lit 140737488355328) ∧ (h.snd.snd.snd.snd.snd.snd.snd.fst.length =
 h.snd.snd.snd.snd.snd.snd.snd.fst.length ∧ h.snd.snd.snd.snd.snd.snd.snd.fst.length = h.snd.snd.snd.snd.snd.snd.snd.fst.length ∧
 (h.snd.snd.snd.snd.snd.snd.snd.fst.length + [api_Raw.mk (224 : Int) (IntKind.i64.wrap (ix h.fst (1 : Int))) (S62 (sub h.fst h_1 (IntKind.i64.wrap (h_1 +
 h_2))))].length) * nat_lit 40 ≤ nat_lit 140737488355328) ∧ ∀ (y : List (api_Raw)), y = h.snd.snd.snd.snd.snd.snd.snd.fst ++ [api_Raw.mk (224 : Int)
 (IntKind.i64.wrap (ix h.fst (1 : Int))) (S62 (sub h.fst h_1 (IntKind.i64.wrap (h_1 + h_2))))] → (h.snd.snd.snd.snd.snd.snd.fst.length =
 h.snd.snd.snd.snd.snd.snd.fst.length ∧ (y.length = y.length ∧ y.length = y.length) ∧ nat_lit 0 = nat_lit 0) ∧ J (sub h.fst (IntKind.i64.wrap (h_1 + h_2))
 (↑h.fst.length : Int), h.snd.fst, h.snd.snd.fst, h.snd.snd.snd.fst, h.snd.snd.snd.snd.fst, h.snd.snd.snd.snd.snd.fst, h.snd.snd.snd.snd.snd.snd.fst, y,
 h.snd.snd.snd.snd.snd.snd.snd.snd.set (IntKind.i64.wrap (ix h.fst (1 : Int))).toNat true) else (h.snd.snd.snd.snd.snd.snd.fst.length =
 h.snd.snd.snd.snd.snd.snd.fst.length ∧ (h.snd.snd.snd.snd.snd.snd.snd.fst.length = h.snd.snd.snd.snd.snd.snd.snd.fst.length ∧
 h.snd.snd.snd.snd.snd.snd.snd.fst.length = h.snd.snd.snd.snd.snd.snd.snd.fst.length) ∧ nat_lit 0 = nat_lit 0) ∧ J (sub h.fst (IntKind.i64.wrap (h_1 + h_2))
 (↑h.fst.length : Int), h.snd.fst, h.snd.snd.fst, h.snd.snd.snd.fst, h.snd.snd.snd.snd.fst, h.snd.snd.snd.snd.snd.fst, h.snd.snd.snd.snd.snd.snd.fst,
 h.snd.snd.snd.snd.snd.snd.snd.fst, h.snd.snd.snd.snd.snd.snd.snd.snd.set (IntKind.i64.wrap (ix h.fst (1 : Int))).toNat true)) fun (J : Int → Prop) => bif
 decide ((3 : Int) < h_1) then ((0 : Int) ≤ (3 : Int) ∧ (3 : Int) < (↑h.fst.length : Int)) ∧ J (ior IntKind.i64 (IntKind.i64.wrap (IntKind.i64.wrap (ix h.fst
 (2 : Int)) * (2 : Int) ^ nat_lit 8)) (IntKind.i64.wrap (ix h.fst (3 : Int)))) else J (IntKind.i64.wrap (ix h.fst (2 : Int)))) fun (J : Int → Prop) => (decide
 ((0 : Int) < (↑h.fst.length : Int)) = true → (0 : Int) ≤ (0 : Int) ∧ (0 : Int) < (↑h.fst.length : Int)) ∧ bif decide ((0 : Int) < (↑h.fst.length : Int)) &&
 !decide (iand IntKind.u8 (ix h.fst (0 : Int)) (16 : Int) = (0 : Int)) then J (IntKind.i64.wrap ((3 : Int) + (1 : Int))) else J (3 : Int) else LOOP (fun (h_1 :
 Int) (J : Int → Prop) => bif decide (h_1 < (↑(nat_lit 3) : Int)) then ((0 : Int) ≤ h_1 ∧ h_1 < (↑(nat_lit 3) : Int)) ∧ ((0 : Int) ≤ ix [(1 : Int), (2 : Int),
 (3 : Int)] h_1 ∧ ix [(1 : Int), (2 : Int), (3 : Int)] h_1 < (↑(nat_lit 256) : Int)) ∧ (ix [(1 : Int), (2 : Int), (3 : Int)] h_1).toNat <
 h.snd.snd.snd.snd.snd.snd.snd.snd.length ∧ bif !ix h.snd.snd.snd.snd.snd.snd.snd.snd (ix [(1 : Int), (2 : Int), (3 : Int)] h_1) then [IntKind.u8.wrap (ix [(1
 : Int), (2 : Int), (3 : Int)] h_1)].length.le (nat_lit 140737488355328) ∧ (((api_Attrs.mk (0 : Int) [] (0 : Int) (0 : Int) (0 : Int) [] [], api_Note.mk (3 :
 Int) (3 : Int) (S62 [IntKind.u8.wrap (ix [(1 : Int), (2 : Int), (3 : Int)] h_1)])) = v ∧ (api_Attrs.mk (0 : Int) [] (0 : Int) (0 : Int) (0 : Int) [] [],
 api_Note.mk (3 : Int) (3 : Int) (S62 [IntKind.u8.wrap (ix [(1 : Int), (2 : Int), (3 : Int)] h_1)])) = v) ∧ (api_Attrs.mk (0 : Int) [] (0 : Int) (0 : Int) (0 :
 Int) [] [], api_Note.mk (3 : Int) (3 : Int) (S62 [IntKind.u8.wrap (ix [(1 : Int), (2 : Int), (3 : Int)] h_1)])) = v) ∧ ((api_Attrs.mk (0 : Int) [] (0 : Int)
 (0 : Int) (0 : Int) [] [], api_Note.mk (3 : Int) (3 : Int) (S62 [IntKind.u8.wrap (ix [(1 : Int), (2 : Int), (3 : Int)] h_1)])) = v ∧ (api_Attrs.mk (0 : Int)
 [] (0 : Int) (0 : Int) (0 : Int) [] [], api_Note.mk (3 : Int) (3 : Int) (S62 [IntKind.u8.wrap (ix [(1 : Int), (2 : Int), (3 : Int)] h_1)])) = v) ∧
 (api_Attrs.mk (0 : Int) [] (0 : Int) (0 : Int) (0 : Int) [] [], api_Note.mk (3 : Int) (3 : Int) (S62 [IntKind.u8.wrap (ix [(1 : Int), (2 : Int), (3 : Int)]
 h_1)])) = v else J (IntKind.i64.wrap (h_1 + (1 : Int))) else ((h.snd.snd.snd.snd.snd.snd.snd.fst.length = h.snd.snd.snd.snd.snd.snd.snd.fst.length ∧
 h.snd.snd.snd.snd.snd.snd.snd.fst.length = h.snd.snd.snd.snd.snd.snd.snd.fst.length) ∧ h.snd.snd.snd.snd.snd.snd.snd.fst.length ≤ nat_lit 1000 ∧ ∀ (r :
 api_Raw), List.Mem r h.snd.snd.snd.snd.snd.snd.snd.fst → (0 : Int) ≤ r.fType ∧ r.fType ≤ (255 : Int)) ∧ ∀ (y : List (api_Raw)), y.Perm
 h.snd.snd.snd.snd.snd.snd.snd.fst → List.Pairwise (fun (x y : api_Raw) => x.fType ≤ y.fType) y → (h.snd.snd.snd.snd.snd.snd.snd.fst.length = y.length ∧
 y.length = y.length) ∧ (api_Attrs.mk h.snd.fst h.snd.snd.fst h.snd.snd.snd.fst h.snd.snd.snd.snd.fst h.snd.snd.snd.snd.snd.fst h.snd.snd.snd.snd.snd.snd.fst
 y, api_Note.mk (0 : Int) (0 : Int) []) = v) (0 : Int)) (x0, (0 : Int), [], (0 : Int), (-1 : Int), (-1 : Int), [], [], (List.replicate 256 false))) := by
 kernel_rfl
end Go.Rx
/-! What attr.Decode reads. -/
namespace Go.Rx
open Go.Ab Go.L7
set_option linter.unusedVariables false
set_option maxRecDepth 100000
theorem six {p : Prop} (h : p) : ((p ∧ p) ∧ p) ∧ (p ∧ p) ∧ p := ⟨⟨⟨h, h⟩, h⟩, ⟨h, h⟩, h⟩
theorem ior_shift {x y : Int} (hx : 0 ≤ x ∧ x ≤ 255) (hy : 0 ≤ y ∧ y ≤ 255) : ior .i64 (x * 256) y = x * 256 + y := by
  rw [ior64 (by omega) (by omega)]
  have h := Nat.shiftLeft_add_eq_or_of_lt (i := 8) (b := y.toNat) (by omega) x.toNat
  rw [Nat.shiftLeft_eq] at h
  have e : (x * 256).toNat = x.toNat * 2 ^ 8 := by omega
  rw [e, ← h]
  omega
theorem words_fuel : ∀ (f g : Nat) (d : List Int), d.length ≤ f → d.length ≤ g → words f d = words g d
  | 0, g, d, h1, h2 => by
    have : d = [] := List.eq_nil_of_length_eq_zero (by omega)
    cases g <;> simp [words, this]
  | f + 1, 0, d, h1, h2 => by
    have : d = [] := List.eq_nil_of_length_eq_zero (by omega)
    simp [words, this]
  | f + 1, g + 1, d, h1, h2 => by
    simp only [words]
    split
    · rfl
    · rename_i h
      have : 0 < d.length := List.length_pos_iff.2 h
      rw [words_fuel f g _ (by rw [List.length_drop]; omega) (by rw [List.length_drop]; omega)]
theorem words_len : ∀ (f : Nat) (d : List Int), (words f d).length ≤ d.length
  | 0, d => by simp [words]
  | f + 1, d => by
    simp only [words]
    split
    · simp
    · rename_i h
      have : 0 < d.length := List.length_pos_iff.2 h
      have := words_len f (d.drop 4)
      rw [List.length_drop] at this
      simp
      omega
theorem count_set_true {l : List Bool} {i : Nat} (h : i < l.length) (hf : l[i] = false) : (l.set i true).count true = l.count true + 1 := by
  rw [List.count_set h, hf]; simp
/-- The list that a sort comes to, where no two are alike. -/
theorem sortR_eq {l y : List api_Raw} (hp : y.Perm l) (hs : y.Pairwise R52) (hn : (l.map (·.fType)).Nodup) : y = sortR l := by
  refine List.Perm.eq_of_pairwise (le := fun (a b : api_Raw) => a.fType ≤ b.fType) (fun a b ha hb h1 h2 => ?_) hs ?_ (hp.trans (List.mergeSort_perm _ _).symm)
  · have ha := hp.mem_iff.1 ha
    have hb := (List.mergeSort_perm _ _).mem_iff.1 hb
    have he : a.fType = b.fType := by omega
    obtain ⟨i, hi, rfl⟩ := List.getElem_of_mem ha
    obtain ⟨j, hj, rfl⟩ := List.getElem_of_mem hb
    have := (List.nodup_iff_pairwise_ne.1 hn)
    by_cases hij : i = j
    · subst hij; rfl
    · exfalso
      have key : ∀ i j (hi : i < l.length) (hj : j < l.length), i < j → l[i].fType ≠ l[j].fType := by
        intro i j hi hj hlt
        have := List.pairwise_iff_getElem.1 this i j (by simpa using hi) (by simpa using hj) hlt
        simpa using this
      rcases Nat.lt_or_gt_of_ne hij with h | h
      · exact key i j hi hj h he
      · exact key j i hj hi h he.symm
  · have := List.pairwise_mergeSort (le := fun (x y : api_Raw) => decide (x.fType ≤ y.fType)) (fun a b c h1 h2 => by simp at *; omega) (fun a b => by simp; omega) l
    exact this.imp fun h => by simpa using h
/-- What is so of the reader, ahead of every attribute. -/
structure RdI (v : api_Attrs × api_Note) (b : List Int) (a : api_Attrs) (seen : List Bool) : Prop where
  by_ : By b
  len : b.length ≤ 549755813888
  cm : a.fComms.length + b.length ≤ 549755813888
  sn : seen.length = 256
  rl : a.fRaws.length ≤ seen.count true
  rt : ∀ r ∈ a.fRaws, 0 ≤ r.fType ∧ r.fType ≤ 255 ∧ ix seen r.fType = true
  nd : (a.fRaws.map (·.fType)).Nodup
  dec : ∃ f, b.length ≤ f ∧ decA f b a seen = v
theorem ix_set_ne {l : List Bool} {i : Nat} {j : Int} {x : Bool} (h : j.toNat ≠ i) : ix (l.set i x) j = ix l j := by
  unfold ix; rw [List.getD_eq_getElem?_getD, List.getD_eq_getElem?_getD, List.getElem?_set_ne (Ne.symm h)]
theorem ix_set_eq {l : List Bool} {i : Nat} {j : Int} {x : Bool} (h : j.toNat = i) (hi : i < l.length) : ix (l.set i x) j = x := by
  unfold ix; subst h; rw [List.getD_eq_getElem?_getD, List.getElem?_set_self hi]; rfl
/-- A step forth. -/
theorem RdI.next {v : api_Attrs × api_Note} {b : List Int} {a a' : api_Attrs} {seen : List Bool} (h : RdI v b a seen) {t : Int} {k f : Nat} {d : List Int} (hk : 1 ≤ k) (hkl : k ≤ b.length) (hd : d.length ≤ k) (ht : 0 ≤ t ∧ t ≤ 255) (hs : ix seen t = false) (hcm : a'.fComms.length ≤ a.fComms.length + d.length)
    (hrw : a'.fRaws = a.fRaws ∨ ∃ fl, a'.fRaws = a.fRaws ++ [⟨fl, t, d⟩]) (hf : (b.drop k).length ≤ f) (hv : decA f (b.drop k) a' (seen.set t.toNat true) = v) : RdI v (b.drop k) a' (seen.set t.toNat true) := by
  have hlt : t.toNat < seen.length := by rw [h.sn]; omega
  have hs' : seen[t.toNat] = false := by
    unfold ix at hs; rw [List.getD_eq_getElem?_getD, List.getElem?_eq_getElem hlt] at hs; exact hs
  have hc := count_set_true hlt hs'
  refine ⟨By.drop h.by_ _, by rw [List.length_drop]; have := h.len; omega, by rw [List.length_drop]; have := h.cm; omega, by simp [h.sn], ?_, ?_, ?_, f, hf, hv⟩
  · rw [hc]
    have := h.rl
    rcases hrw with e | ⟨fl, e⟩ <;> rw [e]
    · omega
    · simp; omega
  · have old : ∀ r ∈ a.fRaws, 0 ≤ r.fType ∧ r.fType ≤ 255 ∧ ix (seen.set t.toNat true) r.fType = true := by
      intro r hr
      obtain ⟨h1, h2, h3⟩ := h.rt r hr
      refine ⟨h1, h2, ?_⟩
      by_cases he : r.fType.toNat = t.toNat
      · exact ix_set_eq he hlt
      · rw [ix_set_ne he]; exact h3
    rcases hrw with e | ⟨fl, e⟩ <;> rw [e]
    · exact old
    · intro r hr
      rcases List.mem_append.1 hr with hr | hr
      · exact old r hr
      · obtain rfl := List.mem_singleton.1 hr
        exact ⟨ht.1, ht.2, ix_set_eq rfl hlt⟩
  · rcases hrw with e | ⟨fl, e⟩ <;> rw [e]
    · exact h.nd
    · rw [List.map_append, List.nodup_append]
      refine ⟨h.nd, by simp, fun x hx y hy e => ?_⟩
      obtain ⟨r, hr, rfl⟩ := List.mem_map.1 hx
      have : y = t := by simpa using hy
      have h3 := (h.rt r hr).2.2
      rw [e, this, hs] at h3
      cases h3
end Go.Rx
/-! Attributes one by one: what bytes of them are read as. -/
namespace Go.Rx
open Go.Ab Go.L7
set_option linter.unusedVariables false
set_option linter.unusedSimpArgs false
set_option maxRecDepth 100000
/-! ### Numbers of four bytes -/
theorem getB_eq {v c : Int} (hv : 0 ≤ v ∧ v < 16777216) (hc : 0 ≤ c ∧ c ≤ 255) : getB v c = v * 256 + c := by
  unfold getB
  have e1 : IntKind.u32.wrap (v * 2 ^ 8) = v * 256 := by
    show (v * 2 ^ 8) % 4294967296 = _
    omega
  have e2 : IntKind.u32.wrap c = c := by
    show c % 4294967296 = _
    omega
  rw [e1, e2, ior32 (by omega) (by omega)]
  have h := Nat.shiftLeft_add_eq_or_of_lt (i := 8) (b := c.toNat) (by omega) v.toNat
  rw [Nat.shiftLeft_eq] at h
  have e : (v * 256).toNat = v.toNat * 2 ^ 8 := by omega
  rw [e, ← h]
  omega
theorem S66_four {a b c d : Int} (r : List Int) (ha : 0 ≤ a ∧ a ≤ 255) (hb : 0 ≤ b ∧ b ≤ 255) (hc : 0 ≤ c ∧ c ≤ 255) (hd : 0 ≤ d ∧ d ≤ 255) : S66 (a :: b :: c :: d :: r) = a * 16777216 + b * 65536 + c * 256 + d := by
  show getB (getB (getB (getB 0 a) b) c) d = _
  rw [getB_eq (v := 0) (by omega) ha, getB_eq (by omega) hb, getB_eq (by omega) hc, getB_eq (by omega) hd]
  omega
theorem u8_range (n : Int) : 0 ≤ IntKind.u8.wrap n ∧ IntKind.u8.wrap n ≤ 255 := by
  show 0 ≤ n % 256 ∧ n % 256 ≤ 255
  omega
theorem S66_put4 {n : Int} (r : List Int) (h : 0 ≤ n ∧ n ≤ 4294967295) : S66 (put4 n ++ r) = n := by
  have h8 : ∀ m : Int, IntKind.u8.wrap m = m % 256 := fun m => rfl
  show S66 (_ :: _ :: _ :: _ :: r) = n
  rw [S66_four r (u8_range _) (u8_range _) (u8_range _) (u8_range _)]
  rw [show (2 : Int) ^ 8 = 256 from rfl, show (2 : Int) ^ 16 = 65536 from rfl, show (2 : Int) ^ 24 = 16777216 from rfl]
  rw [Int.fdiv_eq_ediv_of_nonneg _ (by omega), Int.fdiv_eq_ediv_of_nonneg _ (by omega), Int.fdiv_eq_ediv_of_nonneg _ (by omega)]
  simp only [h8]
  omega
theorem _root_.Go.L7.By.append {a b : List Int} (ha : By a) (hb : By b) : By (a ++ b) := fun c hc => (List.mem_append.1 hc).elim (ha c) (hb c)
theorem _root_.Go.L7.By.nil : By [] := fun c hc => by cases hc
theorem _root_.Go.L7.By.cons {a : Int} {b : List Int} (ha : 0 ≤ a ∧ a ≤ 255) (hb : By b) : By (a :: b) := fun c hc => by
  rcases List.mem_cons.1 hc with rfl | hc
  · exact ha
  · exact hb c hc
theorem _root_.Go.L7.By.put4 (n : Int) : By (put4 n) := .cons (u8_range _) (.cons (u8_range _) (.cons (u8_range _) (.cons (u8_range _) .nil)))
theorem _root_.Go.L7.By.flat {α : Type} {l : List α} {f : α → List Int} (h : ∀ x ∈ l, By (f x)) : By (l.flatMap f) := fun c hc => by
  obtain ⟨x, h1, h2⟩ := List.mem_flatMap.1 hc
  exact h x h1 c h2
theorem _root_.Go.L7.By.seg (s : api_Segment) : By (segB s) := .cons (by split <;> omega) (.cons (u8_range _) (.flat fun n _ => .put4 _))
/-! ### A path, written and read -/
theorem asN_flat : ∀ (l : List Int) (r : List Int), l.all asOk = true → asN l.length ((l.flatMap fun n => put4 (IntKind.u32.wrap n)) ++ r) = l
  | [], r, _ => rfl
  | n :: l, r, h => by
    simp only [List.all_cons, Bool.and_eq_true] at h
    have hn : 1 ≤ n ∧ n ≤ 4294967295 := by have := h.1; unfold asOk at this; simpa using this
    have e : IntKind.u32.wrap n = n := by show n % 4294967296 = n; omega
    rw [List.flatMap_cons, List.length_cons, asN, List.append_assoc, e, S66_put4 _ (by omega)]
    rw [show (put4 n ++ ((l.flatMap fun n => put4 (IntKind.u32.wrap n)) ++ r)).drop 4 = (l.flatMap fun n => put4 (IntKind.u32.wrap n)) ++ r from rfl, asN_flat l r h.2]
    rw [show w64 n = n from w64_id (by omega)]
theorem decP_flat : ∀ (p : List api_Segment) (f : Nat), (∀ s ∈ p, 1 ≤ s.fAS.length ∧ s.fAS.length ≤ 255 ∧ s.fAS.all asOk = true) → p.length ≤ f → decP f (p.flatMap segB) = some p
  | [], 0, _, _ => rfl
  | [], f + 1, _, _ => rfl
  | s :: p, 0, _, h => by simp at h
  | s :: p, f + 1, hg, h => by
    obtain ⟨g1, g2, g3⟩ := hg s (by simp)
    have ih := decP_flat p f (fun t ht => hg t (by simp [ht])) (by simpa using h)
    have e8 : IntKind.u8.wrap (s.fAS.length : Int) = s.fAS.length := by show (s.fAS.length : Int) % 256 = _; omega
    have hb : (s :: p).flatMap segB = (if s.fSet then 1 else 2) :: (s.fAS.length : Int) :: ((s.fAS.flatMap fun n => put4 (IntKind.u32.wrap n)) ++ p.flatMap segB) := by
      rw [List.flatMap_cons]; unfold segB; rw [e8]; rfl
    have hpl := put_len s.fAS
    have h0 : ix ((s :: p).flatMap segB) 0 = if s.fSet then 1 else 2 := by rw [hb]; rfl
    have h1 : ix ((s :: p).flatMap segB) 1 = s.fAS.length := by rw [hb]; rfl
    have hl : ((s :: p).flatMap segB).length = 2 + 4 * s.fAS.length + (p.flatMap segB).length := by rw [hb]; simp only [List.length_cons, List.length_append, hpl]; omega
    have hd2 : ((s :: p).flatMap segB).drop 2 = (s.fAS.flatMap fun n => put4 (IntKind.u32.wrap n)) ++ p.flatMap segB := by rw [hb]; rfl
    have hd : ((s :: p).flatMap segB).drop (2 + 4 * s.fAS.length) = p.flatMap segB := by
      rw [← List.drop_drop, hd2, ← hpl, List.drop_left]
    have hne : (s :: p).flatMap segB ≠ [] := by rw [hb]; simp
    unfold decP
    rw [if_neg hne, h0, h1, hl, if_neg (by have e : ¬ (2 + 4 * s.fAS.length + (p.flatMap segB).length < 2) := (by omega); cases s.fSet <;> simp only [e, false_or] <;> decide), if_neg (by omega), hd2]
    rw [show ((s.fAS.length : Int)).toNat = s.fAS.length from Int.toNat_natCast _, hd, ih, asN_flat _ _ g3]
    show some _ = some _
    congr 1
    congr 1
    cases s with
    | mk b l => cases b <;> simp
theorem S65_S23 {p : List api_Segment} (hp : p.length ≤ 1099511627776) (h : S26 p = true) : S65 (S23 p) = (p, true) := by
  obtain ⟨g1, g2⟩ := goodP_spec p 0 h (Int.le_refl _) (by omega)
  have hv : S23 p = p.flatMap segB := by simp [S23, h]
  have hl := seg_len p
  unfold S65
  rw [hv, decP_flat p _ g2 (by omega)]
  show (if S26 p then (p, true) else ([], false)) = _
  rw [if_pos h]
/-! ### Communities -/
theorem words_comm : ∀ (l : List Int) (f : Nat), (∀ n ∈ l, 0 ≤ n ∧ n ≤ 4294967295) → l.length ≤ f → words f (commB l) = l
  | [], 0, _, _ => rfl
  | [], f + 1, _, _ => rfl
  | n :: l, 0, _, h => by simp at h
  | n :: l, f + 1, hg, h => by
    have ih := words_comm l f (fun t ht => hg t (by simp [ht])) (by simpa using h)
    have hb : commB (n :: l) = put4 n ++ commB l := rfl
    have hne : commB (n :: l) ≠ [] := by rw [hb]; simp [put4]
    unfold words
    rw [if_neg hne, hb, S66_put4 _ (hg n (by simp))]
    rw [show (put4 n ++ commB l).drop 4 = commB l from rfl, ih]
/-! ### An attribute's bytes -/
structure It where
  f : Int
  t : Int
  d : List Int
structure It.ok (i : It) : Prop where
  hf : 0 ≤ i.f ∧ i.f ≤ 255
  ht : 0 ≤ i.t ∧ i.t ≤ 255
  hb : By i.d
  hl : i.d.length ≤ 65535
  hs : iand .u8 i.f 16 = 0 → i.d.length ≤ 255
def itB (i : It) : List Int := (if iand .u8 i.f 16 = 0 then [i.f, i.t, (i.d.length : Int)] else [i.f, i.t, (i.d.length : Int) / 256, (i.d.length : Int) % 256]) ++ i.d
theorem It.ok.by_ {i : It} (h : i.ok) : By (itB i) := by
  have h1 := h.hl
  have h2 := h.hs
  unfold itB
  refine .append ?_ h.hb
  split
  · rename_i e; have := h2 e; exact .cons h.hf (.cons h.ht (.cons (by omega) .nil))
  · exact .cons h.hf (.cons h.ht (.cons (by omega) (.cons (by omega) .nil)))
theorem itB_len (i : It) : 3 ≤ (itB i).length ∧ (itB i).length ≤ i.d.length + 4 := by unfold itB; split <;> simp <;> omega
theorem decA_step {i : It} (h : i.ok) (n : Nat) (rest : List Int) (a : api_Attrs) (seen : List Bool) : decA (n + 1) (itB i ++ rest) a seen = if ix seen i.t then throwN 1 [] else match attrA i.f i.t (itB i) i.d a with
    | .inl (s, x) => throwN s x
    | .inr a' => decA n rest a' (seen.set i.t.toNat true) := by
  have hlen := h.hl
  by_cases hz : iand .u8 i.f 16 = 0
  · have hb : itB i ++ rest = i.f :: i.t :: (i.d.length : Int) :: (i.d ++ rest) := by unfold itB; rw [if_pos hz]; rfl
    have h0 : ix (itB i ++ rest) 0 = i.f := by rw [hb]; rfl
    have h1 : ix (itB i ++ rest) 1 = i.t := by rw [hb]; rfl
    have h2 : ix (itB i ++ rest) 2 = i.d.length := by rw [hb]; rfl
    have hh : headL (itB i ++ rest) = 3 := by unfold headL; rw [h0, if_pos hz]
    have hs : sizeL (itB i ++ rest) = i.d.length := by unfold sizeL; rw [h0, if_pos hz, h2]
    have hl : (itB i).length = 3 + i.d.length := by unfold itB; rw [if_pos hz]; simp; omega
    have hd : (itB i).drop 3 = i.d := by unfold itB; rw [if_pos hz]; rfl
    have ht : (itB i ++ rest).take (3 + i.d.length) = itB i := by rw [← hl, List.take_left]
    have hr : (itB i ++ rest).drop (3 + i.d.length) = rest := by rw [← hl, List.drop_left]
    have hne : itB i ++ rest ≠ [] := by rw [hb]; simp
    have hll : (itB i ++ rest).length = 3 + i.d.length + rest.length := by rw [List.length_append, hl]
    conv => lhs; unfold decA
    rw [if_neg hne, hh, hs, hll, if_neg (by omega), if_neg (by omega), h0, h1, Int.toNat_natCast, ht, hr, hd]
    rfl
  · have hb : itB i ++ rest = i.f :: i.t :: ((i.d.length : Int) / 256) :: ((i.d.length : Int) % 256) :: (i.d ++ rest) := by unfold itB; rw [if_neg hz]; rfl
    have h0 : ix (itB i ++ rest) 0 = i.f := by rw [hb]; rfl
    have h1 : ix (itB i ++ rest) 1 = i.t := by rw [hb]; rfl
    have h2 : ix (itB i ++ rest) 2 = (i.d.length : Int) / 256 := by rw [hb]; rfl
    have h3 : ix (itB i ++ rest) 3 = (i.d.length : Int) % 256 := by rw [hb]; rfl
    have hh : headL (itB i ++ rest) = 4 := by unfold headL; rw [h0, if_neg hz]
    have hs : sizeL (itB i ++ rest) = i.d.length := by unfold sizeL; rw [h0, if_neg hz, h2, h3]; omega
    have hl : (itB i).length = 4 + i.d.length := by unfold itB; rw [if_neg hz]; simp; omega
    have hd : (itB i).drop 4 = i.d := by unfold itB; rw [if_neg hz]; rfl
    have ht : (itB i ++ rest).take (4 + i.d.length) = itB i := by rw [← hl, List.take_left]
    have hr : (itB i ++ rest).drop (4 + i.d.length) = rest := by rw [← hl, List.drop_left]
    have hne : itB i ++ rest ≠ [] := by rw [hb]; simp
    have hll : (itB i ++ rest).length = 4 + i.d.length + rest.length := by rw [List.length_append, hl]
    conv => lhs; unfold decA
    rw [if_neg hne, hh, hs, hll, if_neg (by omega), if_neg (by omega), h0, h1, Int.toNat_natCast, ht, hr, hd]
    rfl
/-- Attributes, read one by one. -/
def foldI : List It → api_Attrs → List Bool → api_Attrs × api_Note
  | [], a, seen => finA a seen
  | i :: l, a, seen => if ix seen i.t then throwN 1 [] else match attrA i.f i.t (itB i) i.d a with
    | .inl (s, x) => throwN s x
    | .inr a' => foldI l a' (seen.set i.t.toNat true)
theorem decA_nil (n : Nat) (a : api_Attrs) (seen : List Bool) : decA n [] a seen = finA a seen := by cases n <;> rfl
theorem decA_items : ∀ (l : List It) (n : Nat) (a : api_Attrs) (seen : List Bool), (∀ i ∈ l, i.ok) → l.length ≤ n → decA n (l.flatMap itB) a seen = foldI l a seen
  | [], n, a, seen, _, _ => decA_nil n a seen
  | i :: l, 0, a, seen, _, h => by simp at h
  | i :: l, n + 1, a, seen, hg, h => by
    rw [List.flatMap_cons, decA_step (hg i (by simp)), foldI]
    split
    · rfl
    · split
      · rfl
      · exact decA_items l n _ _ (fun j hj => hg j (by simp [hj])) (by simpa using h)
theorem items_len : ∀ (l : List It), l.length ≤ (l.flatMap itB).length
  | [] => by simp
  | i :: l => by
    have := items_len l
    have := (itB_len i).1
    rw [List.flatMap_cons, List.length_append, List.length_cons]; omega
theorem S17_items {l : List It} (h : ∀ i ∈ l, i.ok) : S17 (l.flatMap itB) = foldI l a0 (List.replicate 256 false) := decA_items l _ _ _ h (items_len l)
theorem items_by {l : List It} (h : ∀ i ∈ l, i.ok) : By (l.flatMap itB) := .flat fun i hi => (h i hi).by_
end Go.Rx
/-! Attributes in any order. -/
namespace Go.Rx
open Go.Ab Go.L7
set_option linter.unusedVariables false
set_option linter.unusedSimpArgs false
set_option maxRecDepth 100000
/-- What an attribute adds to the raws. -/
def rawOf (i : It) : List api_Raw := if i.t = 6 then [⟨64, 6, i.d⟩] else if i.t = 7 then [⟨192, 7, i.d⟩] else if 9 ≤ i.t ∧ iand .i64 i.f 64 ≠ 0 then [⟨224, i.t, i.d⟩] else []
/-- What an attribute that is right makes of what was read. -/
def upd (i : It) (a : api_Attrs) : api_Attrs where
  fOrigin := if i.t = 1 then ix i.d 0 else a.fOrigin
  fPath := if i.t = 2 then (S65 i.d).1 else a.fPath
  fNext := if i.t = 3 then S66 i.d else a.fNext
  fMed := if i.t = 4 then w64 (S66 i.d) else a.fMed
  fPref := if i.t = 5 then w64 (S66 i.d) else a.fPref
  fComms := a.fComms ++ (if i.t = 8 then words i.d.length i.d else [])
  fRaws := a.fRaws ++ rawOf i
structure Acc (i : It) : Prop where
  ok : i.ok
  at_ : ∀ a, attrA i.f i.t (itB i) i.d a = .inr (upd i a)
def updL (l : List It) (a : api_Attrs) : api_Attrs := l.foldl (fun a i => upd i a) a
def seenL (l : List It) (s : List Bool) : List Bool := l.foldl (fun s i => s.set i.t.toNat true) s
theorem seenL_len : ∀ (l : List It) (s : List Bool), (seenL l s).length = s.length
  | [], s => rfl
  | i :: l, s => by show (seenL l _).length = _; rw [seenL_len l, List.length_set]
theorem ix_set {s : List Bool} (hs : s.length = 256) {t u : Int} (ht : 0 ≤ t ∧ t ≤ 255) (hu : 0 ≤ u ∧ u ≤ 255) : ix (s.set t.toNat true) u = (ix s u || decide (t = u)) := by
  by_cases h : t = u
  · subst h; rw [ix_set_eq rfl (by omega)]; simp
  · rw [ix_set_ne (by omega)]; simp [h]
theorem seenL_ix : ∀ (l : List It) (s : List Bool) (u : Int), s.length = 256 → (∀ i ∈ l, i.ok) → 0 ≤ u ∧ u ≤ 255 → ix (seenL l s) u = (ix s u || l.any fun i => decide (i.t = u))
  | [], s, u, hs, hg, hu => by show ix s u = _; simp
  | i :: l, s, u, hs, hg, hu => by
    show ix (seenL l _) u = _
    rw [seenL_ix l _ u (by rw [List.length_set]; exact hs) (fun j hj => hg j (by simp [hj])) hu, ix_set hs (hg i (by simp)).ht hu]
    simp [Bool.or_assoc]
/-- Attributes that are right, no type twice, then others. -/
theorem foldI_acc : ∀ (l r : List It) (a : api_Attrs) (s : List Bool), s.length = 256 → (∀ i ∈ l, Acc i) → (l.map It.t).Nodup → (∀ i ∈ l, ix s i.t = false) → foldI (l ++ r) a s = foldI r (updL l a) (seenL l s)
  | [], r, a, s, hs, hg, hn, hu => rfl
  | i :: l, r, a, s, hs, hg, hn, hu => by
    have hi := hg i (by simp)
    rw [List.map_cons, List.nodup_cons] at hn
    rw [List.cons_append, foldI, if_neg (by rw [hu i (by simp)]; simp), hi.at_]
    show foldI (l ++ r) _ _ = _
    rw [foldI_acc l r _ _ (by rw [List.length_set]; exact hs) (fun j hj => hg j (by simp [hj])) hn.2 (fun j hj => ?_)]
    · rfl
    · rw [ix_set hs hi.ok.ht (hg j (by simp [hj])).ok.ht, hu j (by simp [hj])]
      have : i.t ≠ j.t := fun e => hn.1 (e ▸ List.mem_map_of_mem hj)
      simp [this]
/-! ### The order is of no meaning -/
structure Eqv (a b : api_Attrs) : Prop where
  o : a.fOrigin = b.fOrigin
  p : a.fPath = b.fPath
  n : a.fNext = b.fNext
  m : a.fMed = b.fMed
  q : a.fPref = b.fPref
  c : a.fComms = b.fComms
  r : a.fRaws.Perm b.fRaws
theorem Eqv.refl (a : api_Attrs) : Eqv a a := ⟨rfl, rfl, rfl, rfl, rfl, rfl, .refl _⟩
theorem Eqv.trans {a b c : api_Attrs} (h : Eqv a b) (k : Eqv b c) : Eqv a c := ⟨h.o.trans k.o, h.p.trans k.p, h.n.trans k.n, h.m.trans k.m, h.q.trans k.q, h.c.trans k.c, h.r.trans k.r⟩
theorem Eqv.upd {a b : api_Attrs} (i : It) (h : Eqv a b) : Eqv (upd i a) (upd i b) := by
  unfold Go.Rx.upd
  exact ⟨by simp only [h.o], by simp only [h.p], by simp only [h.n], by simp only [h.m], by simp only [h.q], by simp only [h.c], h.r.append_right _⟩
theorem Eqv.updL {a b : api_Attrs} : ∀ (l : List It), Eqv a b → Eqv (updL l a) (updL l b)
  | [], h => h
  | i :: l, h => Eqv.updL l (h.upd i)
theorem Eqv.swap (i j : It) (a : api_Attrs) (h : i.t ≠ j.t) : Eqv (Go.Rx.upd i (Go.Rx.upd j a)) (Go.Rx.upd j (Go.Rx.upd i a)) := by
  have two : ∀ {α : Type} (k : Int) (x y z : α), (if i.t = k then x else if j.t = k then y else z) = (if j.t = k then y else if i.t = k then x else z) := by
    intro α k x y z
    by_cases h1 : i.t = k
    · rw [if_pos h1, if_neg (fun e => h (h1.trans e.symm)), if_pos h1]
    · rw [if_neg h1, if_neg h1]
  refine ⟨two _ _ _ _, two _ _ _ _, two _ _ _ _, two _ _ _ _, two _ _ _ _, ?_, ?_⟩
  · show (a.fComms ++ _) ++ _ = (a.fComms ++ _) ++ _
    by_cases h1 : i.t = 8
    · have h2 : j.t ≠ 8 := fun e => h (h1.trans e.symm)
      simp [h1, h2]
    · simp [h1]
  · show ((a.fRaws ++ _) ++ _).Perm ((a.fRaws ++ _) ++ _)
    rw [List.append_assoc, List.append_assoc]
    exact (List.perm_append_comm).append_left _
theorem Eqv.perm {l l' : List It} (h : l.Perm l') : (l.map It.t).Nodup → ∀ {a b : api_Attrs}, Eqv a b → Eqv (Go.Rx.updL l a) (Go.Rx.updL l' b) := by
  induction h with
  | nil => exact fun _ _ _ h => h
  | cons x _ ih =>
    intro hn a b h
    rw [List.map_cons, List.nodup_cons] at hn
    exact ih hn.2 (h.upd x)
  | swap x y l =>
    intro hn a b h
    rw [List.map_cons, List.map_cons, List.nodup_cons] at hn
    refine Eqv.updL l ((Eqv.swap x y a fun e => hn.1 (by simp [e])).trans ((h.upd x).upd y))
  | trans h1 h2 ih1 ih2 =>
    intro hn a b h
    exact (ih1 hn (.refl a)).trans (ih2 ((h1.map It.t).nodup_iff.1 hn) h)
/-! ### Raws in their order -/
theorem rawsUp_pair : ∀ {l : List api_Raw} {p : Option Int}, rawsUp p l = true → l.Pairwise fun x y => x.fType < y.fType
  | [], p, h => .nil
  | r :: l, p, h => by
    simp only [rawsUp, Bool.and_eq_true] at h
    exact .cons (fun x hx => rawsUp_gt h.2 x hx) (rawsUp_pair h.2)
theorem sortR_of {l m : List api_Raw} (h : m.Pairwise fun x y => x.fType < y.fType) (hp : l.Perm m) : sortR l = m := by
  have hn : (l.map (·.fType)).Nodup := by
    rw [(hp.map (·.fType)).nodup_iff, List.nodup_iff_pairwise_ne, List.pairwise_map]
    exact h.imp fun h e => by omega
  exact (sortR_eq hp.symm (h.imp fun h => by show _ ≤ _; omega) hn).symm
/-- What all attributes that are right, no type twice, with the first three, are read as. -/
theorem read_acc {l : List It} {a : api_Attrs} (hg : ∀ i ∈ l, Acc i) (hn : (l.map It.t).Nodup) (h1 : l.any (fun i => decide (i.t = 1)) = true) (h2 : l.any (fun i => decide (i.t = 2)) = true) (h3 : l.any (fun i => decide (i.t = 3)) = true)
    (hE : Eqv (updL l a0) a) (hs : a.fRaws.Pairwise fun x y => x.fType < y.fType) : S17 (l.flatMap itB) = (a, ⟨0, 0, []⟩) := by
  have hok : ∀ i ∈ l, i.ok := fun i hi => (hg i hi).ok
  have hz : ∀ t : Int, ix (List.replicate 256 false) t = false := fun t => by unfold ix; rw [List.getD_eq_getElem?_getD, List.getElem?_replicate]; split <;> rfl
  rw [S17_items hok]
  have := foldI_acc l [] a0 (List.replicate 256 false) (by simp) hg hn fun i _ => hz _
  rw [List.append_nil] at this
  rw [this]
  show finA _ _ = _
  unfold finA
  rw [seenL_ix l _ 1 (by simp) hok (by omega), seenL_ix l _ 2 (by simp) hok (by omega), seenL_ix l _ 3 (by simp) hok (by omega), h1, h2, h3]
  rw [sortR_of hs hE.r]
  simp only [Bool.or_true, Bool.not_true]
  show (_, _) = _
  have := hE.o; have := hE.p; have := hE.n; have := hE.m; have := hE.q; have := hE.c
  generalize updL l a0 = u at *
  cases u; cases a; simp_all
/-! ### The attributes of what is good -/
def pit (f t : Int) (d : List Int) : It := ⟨if 255 < d.length then f + 16 else f, t, d⟩
theorem pit_f {f t : Int} {d : List Int} (hf : f = 64 ∨ f = 128 ∨ f = 192 ∨ f = 224) : ((pit f t d).f = f ∨ (pit f t d).f = f + 16 ∧ f + 16 = ior .i64 f 16) ∧ (iand .u8 (pit f t d).f 16 = 0 ↔ d.length ≤ 255) := by
  by_cases h : 255 < d.length
  · have e : (pit f t d).f = f + 16 := by show (if _ then _ else _) = _; rw [if_pos h]
    rw [e]
    rcases hf with rfl | rfl | rfl | rfl
    · exact ⟨.inr ⟨rfl, by decide⟩, ⟨fun h => absurd h (by decide), fun h' => by omega⟩⟩
    · exact ⟨.inr ⟨rfl, by decide⟩, ⟨fun h => absurd h (by decide), fun h' => by omega⟩⟩
    · exact ⟨.inr ⟨rfl, by decide⟩, ⟨fun h => absurd h (by decide), fun h' => by omega⟩⟩
    · exact ⟨.inr ⟨rfl, by decide⟩, ⟨fun h => absurd h (by decide), fun h' => by omega⟩⟩
  · have e : (pit f t d).f = f := by show (if _ then _ else _) = _; rw [if_neg h]
    rw [e]
    rcases hf with rfl | rfl | rfl | rfl
    · exact ⟨.inl rfl, ⟨fun _ => by omega, fun _ => by decide⟩⟩
    · exact ⟨.inl rfl, ⟨fun _ => by omega, fun _ => by decide⟩⟩
    · exact ⟨.inl rfl, ⟨fun _ => by omega, fun _ => by decide⟩⟩
    · exact ⟨.inl rfl, ⟨fun _ => by omega, fun _ => by decide⟩⟩
theorem pit_ok {f t : Int} {d : List Int} (hf : f = 64 ∨ f = 128 ∨ f = 192 ∨ f = 224) (ht : 0 ≤ t ∧ t ≤ 255) (hd : By d) (hl : d.length ≤ 65535) : (pit f t d).ok := by
  obtain ⟨h1, h2⟩ := pit_f (t := t) (d := d) hf
  exact ⟨by rcases h1 with h1 | h1 <;> omega, ht, hd, hl, h2.1⟩
theorem pit_putB {f t : Int} {d : List Int} (hf : f = 64 ∨ f = 128 ∨ f = 192 ∨ f = 224) (ht : 0 ≤ t ∧ t ≤ 255) (hl : d.length ≤ 65535) : itB (pit f t d) = putB f t d := by
  have h8 : ∀ m : Int, IntKind.u8.wrap m = m % 256 := fun m => rfl
  obtain ⟨h1, h2⟩ := pit_f (t := t) (d := d) hf
  unfold itB putB
  by_cases h : 255 < (d.length : Int)
  · have e : (pit f t d).f = f + 16 := by show (if _ then _ else _) = _; rw [if_pos (by omega)]
    rw [if_pos h, if_neg (fun hc => by have := h2.1 hc; omega), e]
    have e2 : f + 16 = ior .i64 f 16 := by
      rcases hf with rfl | rfl | rfl | rfl <;> decide
    have e3 : f + 16 ≤ 255 ∧ 0 ≤ f + 16 := by omega
    rw [← e2]
    show ([_, t, (d.length : Int) / 256, (d.length : Int) % 256] : List Int) ++ d = _
    rw [show (2 : Int) ^ 8 = 256 from rfl, Int.fdiv_eq_ediv_of_nonneg _ (by omega)]
    simp only [h8]
    rw [Int.emod_eq_of_lt (a := f + 16) (by omega) (by omega), Int.emod_eq_of_lt (a := t) (by omega) (by omega), Int.emod_eq_of_lt (a := (d.length : Int) / 256) (by omega) (by omega)]
  · have e : (pit f t d).f = f := by show (if _ then _ else _) = _; rw [if_neg (by omega)]
    rw [if_neg h, if_pos (h2.2 (by omega)), e]
    show ([f, t, (d.length : Int)] : List Int) ++ d = _
    simp only [h8]
    rw [Int.emod_eq_of_lt (a := f) (by omega) (by omega), Int.emod_eq_of_lt (a := t) (by omega) (by omega), Int.emod_eq_of_lt (a := (d.length : Int)) (by omega) (by omega)]
end Go.Rx
/-! The attributes that are written of what is good. -/
namespace Go.Rx
open Go.Ab Go.L7
set_option linter.unusedVariables false
set_option linter.unusedSimpArgs false
set_option maxRecDepth 100000
theorem acc1 {o : Int} (h : 0 ≤ o ∧ o ≤ 2) : Acc (pit 64 1 [o]) := by
  refine ⟨pit_ok (by simp) (by omega) (.cons (by omega) .nil) (by simp), fun a => ?_⟩
  show attrA 64 1 (itB (pit 64 1 [o])) [o] a = _
  generalize itB _ = all
  have sz : (decide (0 ≤ (ix kinds 1).fsize) && !decide ((([o] : List Int).length : Int) = (ix kinds 1).fsize) || (decide ((1 : Int) = 8) && (decide ((([o] : List Int).length : Int) = 0) || !decide (((([o] : List Int).length : Int)).tmod 4 = 0)))) = false := rfl
  unfold attrA knownA
  rw [if_pos (by decide), if_neg (by decide), sz, if_neg (by simp), if_pos (by decide), if_neg (show ¬ 2 < ix [o] 0 from by show ¬ 2 < o; omega)]
  simp [upd, rawOf, pit]
theorem acc2 {p : List api_Segment} (hp : p.length ≤ 1099511627776) (h : S26 p = true) : Acc (pit 64 2 (S23 p)) := by
  have hl := S23_len hp
  have hv : S23 p = p.flatMap segB := by simp [S23, h]
  refine ⟨pit_ok (by simp) (by omega) (by rw [hv]; exact .flat fun s _ => .seg s) (by omega), fun a => ?_⟩
  have hf := (pit_f (f := 64) (t := 2) (d := S23 p) (by simp)).1
  show attrA (pit 64 2 (S23 p)).f 2 (itB (pit 64 2 (S23 p))) (S23 p) a = _
  generalize itB _ = all
  have e : iand .i64 (pit 64 2 (S23 p)).f (if (ix kinds 2).fflags = 192 then 192 else 224) = (ix kinds 2).fflags := by
    rcases hf with hf | ⟨hf, _⟩ <;> rw [hf] <;> decide
  have sz : (decide (0 ≤ (ix kinds 2).fsize) && !decide (((S23 p).length : Int) = (ix kinds 2).fsize) || (decide ((2 : Int) = 8) && (decide (((S23 p).length : Int) = 0) || !decide ((((S23 p).length : Int)).tmod 4 = 0)))) = false := rfl
  unfold attrA knownA
  rw [if_pos (by decide), if_neg (fun h => h e), sz, if_neg (by simp), if_neg (by decide), if_pos (by decide), S65_S23 hp h]
  simp [upd, rawOf, pit, S65_S23 hp h]
theorem acc3 {n : Int} (hn : 0 ≤ n ∧ n ≤ 4294967295) (h : S27 n = true) : Acc (pit 64 3 (put4 n)) := by
  refine ⟨pit_ok (by simp) (by omega) (.put4 n) (by simp [put4]), fun a => ?_⟩
  have e := S66_put4 (n := n) [] hn
  rw [List.append_nil] at e
  show attrA 64 3 (itB (pit 64 3 (put4 n))) (put4 n) a = _
  generalize itB _ = all
  have sz : (decide (0 ≤ (ix kinds 3).fsize) && !decide (((put4 n).length : Int) = (ix kinds 3).fsize) || (decide ((3 : Int) = 8) && (decide (((put4 n).length : Int) = 0) || !decide ((((put4 n).length : Int)).tmod 4 = 0)))) = false := rfl
  unfold attrA knownA
  rw [if_pos (by decide), if_neg (by decide), sz, if_neg (by simp), if_neg (by decide), if_neg (by decide), if_pos (by decide), e, if_pos h]
  simp [upd, rawOf, pit, e]
theorem acc4 {n : Int} (hn : 0 ≤ n ∧ n ≤ 4294967295) : Acc (pit 128 4 (put4 n)) := by
  refine ⟨pit_ok (by simp) (by omega) (.put4 n) (by simp [put4]), fun a => ?_⟩
  show attrA 128 4 (itB (pit 128 4 (put4 n))) (put4 n) a = _
  generalize itB _ = all
  have sz : (decide (0 ≤ (ix kinds 4).fsize) && !decide (((put4 n).length : Int) = (ix kinds 4).fsize) || (decide ((4 : Int) = 8) && (decide (((put4 n).length : Int) = 0) || !decide ((((put4 n).length : Int)).tmod 4 = 0)))) = false := rfl
  unfold attrA knownA
  rw [if_pos (by decide), if_neg (by decide), sz, if_neg (by simp), if_neg (by decide), if_neg (by decide), if_neg (by decide), if_pos (by decide)]
  simp [upd, rawOf, pit]
theorem acc5 {n : Int} (hn : 0 ≤ n ∧ n ≤ 4294967295) : Acc (pit 64 5 (put4 n)) := by
  refine ⟨pit_ok (by simp) (by omega) (.put4 n) (by simp [put4]), fun a => ?_⟩
  show attrA 64 5 (itB (pit 64 5 (put4 n))) (put4 n) a = _
  generalize itB _ = all
  have sz : (decide (0 ≤ (ix kinds 5).fsize) && !decide (((put4 n).length : Int) = (ix kinds 5).fsize) || (decide ((5 : Int) = 8) && (decide (((put4 n).length : Int) = 0) || !decide ((((put4 n).length : Int)).tmod 4 = 0)))) = false := rfl
  unfold attrA knownA
  rw [if_pos (by decide), if_neg (by decide), sz, if_neg (by simp), if_neg (by decide), if_neg (by decide), if_neg (by decide), if_neg (by decide), if_pos (by decide)]
  simp [upd, rawOf, pit]
theorem acc8 {c : List Int} (hc : 1 ≤ c.length ∧ c.length ≤ 32) : Acc (pit 192 8 (commB c)) := by
  have hl := commB_len c
  refine ⟨pit_ok (by simp) (by omega) (.flat fun n _ => .put4 n) (by omega), fun a => ?_⟩
  have hf : (pit 192 8 (commB c)).f = 192 := if_neg (by omega)
  show attrA (pit 192 8 (commB c)).f 8 (itB (pit 192 8 (commB c))) (commB c) a = _
  generalize itB _ = all
  rw [hf]
  have e : (decide (0 ≤ (ix kinds 8).fsize) && !decide (((commB c).length : Int) = (ix kinds 8).fsize) || (decide ((8 : Int) = 8) && (decide (((commB c).length : Int) = 0) || !decide (((commB c).length : Int).tmod 4 = 0)))) = false := by
    have e1 : ((commB c).length : Int).tmod 4 = 0 := by rw [Int.tmod_eq_emod_of_nonneg (by omega)]; omega
    have e2 : ¬ ((commB c).length : Int) = 0 := by omega
    rw [e1, decide_eq_false e2]; rfl
  unfold attrA knownA
  rw [if_pos (by decide), if_neg (by decide), e, if_neg (by simp), if_neg (by decide), if_neg (by decide), if_neg (by decide), if_neg (by decide), if_neg (by decide), if_pos (by decide), if_neg (by omega)]
  simp [upd, rawOf, pit]
def rit (r : api_Raw) : It := ⟨r.fFlags, r.fType, r.fData⟩
theorem rit_pit {r : api_Raw} (h : r.fData.length ≤ 255) : rit r = pit r.fFlags r.fType r.fData := by
  unfold rit pit; rw [if_neg (by omega)]
theorem S28_cases {r : api_Raw} (h : S28 r = true) : (r.fType = 6 ∧ r.fFlags = 64 ∧ r.fData = []) ∨ (r.fType = 7 ∧ r.fFlags = 192 ∧ r.fData.length = 8) ∨ (8 < r.fType ∧ r.fType ≤ 255 ∧ r.fFlags = 224 ∧ r.fData.length ≤ 255) := by
  unfold S28 at h
  split at h
  · rename_i e; simp only [Bool.and_eq_true, decide_eq_true_eq] at h
    exact .inl ⟨e, h.1, List.eq_nil_of_length_eq_zero (by omega)⟩
  · split at h
    · rename_i e; simp only [Bool.and_eq_true, decide_eq_true_eq] at h
      exact .inr (.inl ⟨e, h.1, by omega⟩)
    · simp only [Bool.and_eq_true, decide_eq_true_eq] at h
      exact .inr (.inr ⟨h.1.1.1, h.1.1.2, h.1.2, by omega⟩)
theorem rit_upd {r : api_Raw} (h : S28 r = true) (a : api_Attrs) : upd (rit r) a = { a with fRaws := a.fRaws ++ [r] } := by
  have hr : rawOf (rit r) = [r] := by
    rcases S28_cases h with ⟨h1, h2, h3⟩ | ⟨h1, h2, h3⟩ | ⟨h1, h2, h3, h4⟩
    · cases r; simp only at h1 h2 h3; subst h1 h2 h3; rfl
    · cases r; simp only at h1 h2 h3; subst h1 h2; rfl
    · cases r; simp only at h1 h2 h3; subst h3
      unfold rawOf rit
      simp only
      rw [if_neg (by omega), if_neg (by omega), if_pos ⟨by omega, by decide⟩]
  have ht : (rit r).t ≠ 1 ∧ (rit r).t ≠ 2 ∧ (rit r).t ≠ 3 ∧ (rit r).t ≠ 4 ∧ (rit r).t ≠ 5 ∧ (rit r).t ≠ 8 := by
    have : (rit r).t = r.fType := rfl
    rw [this]
    rcases S28_cases h with ⟨h1, h2, h3⟩ | ⟨h1, h2, h3⟩ | ⟨h1, h2, h3, h4⟩ <;> omega
  unfold upd
  rw [hr, if_neg ht.1, if_neg ht.2.1, if_neg ht.2.2.1, if_neg ht.2.2.2.1, if_neg ht.2.2.2.2.1, if_neg ht.2.2.2.2.2, List.append_nil]
theorem accR {r : api_Raw} (h : S28 r = true) (hb : By r.fData) : Acc (rit r) := by
  have hc := S28_cases h
  have hl : r.fData.length ≤ 255 := by
    rcases hc with ⟨h1, h2, h3⟩ | ⟨h1, h2, h3⟩ | ⟨h1, h2, h3, h4⟩
    · rw [h3]; simp
    · omega
    · exact h4
  refine ⟨?_, fun a => ?_⟩
  · rw [rit_pit hl]
    refine pit_ok ?_ ?_ hb (by omega)
    · rcases hc with ⟨h1, h2, h3⟩ | ⟨h1, h2, h3⟩ | ⟨h1, h2, h3, h4⟩
      · exact .inl h2
      · exact .inr (.inr (.inl h2))
      · exact .inr (.inr (.inr h3))
    · rcases hc with ⟨h1, h2, h3⟩ | ⟨h1, h2, h3⟩ | ⟨h1, h2, h3, h4⟩ <;> omega
  · rw [rit_upd h]
    generalize itB _ = all
    show attrA r.fFlags r.fType all r.fData a = _
    rcases hc with ⟨h1, h2, h3⟩ | ⟨h1, h2, h3⟩ | ⟨h1, h2, h3, h4⟩
    · cases r; simp only at h1 h2 h3; subst h1 h2 h3; rfl
    · cases r
      simp only at h1 h2 h3
      subst h1 h2
      change attrA 192 7 all _ a = _
      unfold attrA knownA
      have e : ∀ n : Int, n = 8 → (decide (0 ≤ (ix kinds 7).fsize) && !decide (n = (ix kinds 7).fsize) || (decide ((7 : Int) = 8) && (decide (n = 0) || !decide (n.tmod 4 = 0)))) = false := by rintro _ rfl; rfl
      rw [if_pos (by decide), if_neg (by decide), e _ (by exact_mod_cast h3), if_neg (by simp), if_neg (by decide), if_neg (by decide), if_neg (by decide), if_neg (by decide), if_neg (by decide), if_neg (by decide)]
      rfl
    · cases r
      simp only at h1 h2 h3 h4
      subst h3
      unfold attrA otherA
      simp only
      rw [if_neg (by omega), if_neg (by decide), if_neg (by decide), if_neg (by omega), if_pos h1]
/-- The attributes of what is good, in their order. -/
def its (a : api_Attrs) : List It := [pit 64 1 [a.fOrigin], pit 64 2 (S23 a.fPath), pit 64 3 (put4 a.fNext)] ++ ((if 0 ≤ a.fMed then [pit 128 4 (put4 a.fMed)] else []) ++ ((if 0 ≤ a.fPref then [pit 64 5 (put4 a.fPref)] else []) ++ ((a.fRaws.filter fun r => decide (r.fType < 8)).map rit ++ ((if a.fComms = [] then [] else [pit 192 8 (commB a.fComms)]) ++ (a.fRaws.filter fun r => decide (8 < r.fType)).map rit))))
structure Gd7 (a : api_Attrs) : Prop where
  o : 0 ≤ a.fOrigin ∧ a.fOrigin ≤ 2
  pl : a.fPath.length ≤ 1099511627776
  p : S26 a.fPath = true
  nr : 0 ≤ a.fNext ∧ a.fNext ≤ 4294967295
  n : S27 a.fNext = true
  m : -1 ≤ a.fMed ∧ a.fMed ≤ 4294967295
  q : -1 ≤ a.fPref ∧ a.fPref ≤ 4294967295
  cl : a.fComms.length ≤ 32
  cr : ∀ n ∈ a.fComms, 0 ≤ n ∧ n ≤ 4294967295
  r : rawsUp none a.fRaws = true
  rb : ∀ r ∈ a.fRaws, By r.fData
theorem rawsUp_all : ∀ {l : List api_Raw} {p : Option Int}, rawsUp p l = true → ∀ r ∈ l, S28 r = true
  | a :: l, p, h, r, hr => by
    simp only [rawsUp, Bool.and_eq_true] at h
    rcases List.mem_cons.1 hr with rfl | hr
    · exact h.1.1
    · exact rawsUp_all h.2 r hr
theorem its_acc {a : api_Attrs} (h : Gd7 a) : ∀ i ∈ its a, Acc i := by
  intro i hi
  unfold its at hi
  simp only [List.mem_append, List.mem_cons, List.not_mem_nil, or_false] at hi
  have hm := h.m
  have hq := h.q
  rcases hi with (rfl | rfl | rfl) | hi | hi | hi | hi | hi
  · exact acc1 h.o
  · exact acc2 h.pl h.p
  · exact acc3 h.nr h.n
  · split at hi
    · rw [List.mem_singleton] at hi; subst hi; exact acc4 (by omega)
    · cases hi
  · split at hi
    · rw [List.mem_singleton] at hi; subst hi; exact acc5 (by omega)
    · cases hi
  · obtain ⟨r, hr, rfl⟩ := List.mem_map.1 hi
    have hr := (List.mem_filter.1 hr).1
    exact accR (rawsUp_all h.r r hr) (h.rb r hr)
  · split at hi
    · cases hi
    · rename_i hne
      rw [List.mem_singleton] at hi; subst hi
      exact acc8 ⟨List.length_pos_iff.2 hne, h.cl⟩
  · obtain ⟨r, hr, rfl⟩ := List.mem_map.1 hi
    have hr := (List.mem_filter.1 hr).1
    exact accR (rawsUp_all h.r r hr) (h.rb r hr)
theorem updL_append (l m : List It) (a : api_Attrs) : updL (l ++ m) a = updL m (updL l a) := List.foldl_append
theorem updL_raws : ∀ (l : List api_Raw) (a : api_Attrs), (∀ r ∈ l, S28 r = true) → updL (l.map rit) a = { a with fRaws := a.fRaws ++ l }
  | [], a, _ => by show a = _; cases a; simp
  | r :: l, a, h => by
    show updL (l.map rit) (upd (rit r) a) = _
    rw [rit_upd (h r (by simp)), updL_raws l _ fun x hx => h x (by simp [hx])]
    simp
theorem filter_split : ∀ {l : List api_Raw} {p : Option Int}, rawsUp p l = true → (l.filter fun r => decide (r.fType < 8)) ++ (l.filter fun r => decide (8 < r.fType)) = l
  | [], p, h => rfl
  | r :: l, p, h => by
    simp only [rawsUp, Bool.and_eq_true] at h
    have h8 := S28_ne8 h.1.1
    by_cases hlt : r.fType < 8
    · rw [List.filter_cons_of_pos (by simpa using hlt), List.filter_cons_of_neg (by simp; omega), List.cons_append, filter_split h.2]
    · have hall : ∀ x ∈ r :: l, 8 < x.fType := fun x hx => by
        rcases List.mem_cons.1 hx with rfl | hx
        · omega
        · have := rawsUp_gt h.2 x hx; omega
      have e1 : (r :: l).filter (fun r => decide (r.fType < 8)) = [] := List.filter_eq_nil_iff.2 fun x hx => by have := hall x hx; simp; omega
      have e2 : (r :: l).filter (fun r => decide (8 < r.fType)) = r :: l := List.filter_eq_self.2 fun x hx => by simpa using hall x hx
      rw [e1, e2]; rfl
theorem its_upd {a : api_Attrs} (h : Gd7 a) : updL (its a) a0 = a := by
  have e3 := S66_put4 (n := a.fNext) [] h.nr
  rw [List.append_nil] at e3
  have hm := h.m
  have hq := h.q
  have hS : ∀ (q : api_Raw → Bool), ∀ r ∈ a.fRaws.filter q, S28 r = true := fun q r hr => rawsUp_all h.r r (List.mem_filter.1 hr).1
  unfold its
  rw [updL_append, updL_append, updL_append, updL_append, updL_append, updL_raws _ _ (hS _), updL_raws _ _ (hS _)]
  have s1 : updL [pit 64 1 [a.fOrigin], pit 64 2 (S23 a.fPath), pit 64 3 (put4 a.fNext)] a0 = { a0 with fOrigin := a.fOrigin, fPath := a.fPath, fNext := a.fNext } := by
    show upd _ (upd _ (upd _ a0)) = _
    simp [upd, rawOf, pit, S65_S23 h.pl h.p, e3, ix, a0]
  have s2 : ∀ b : api_Attrs, b.fMed = -1 → updL (if 0 ≤ a.fMed then [pit 128 4 (put4 a.fMed)] else []) b = { b with fMed := a.fMed } := by
    intro b hb
    split
    · have e4 := S66_put4 (n := a.fMed) [] (by omega)
      rw [List.append_nil] at e4
      have e4' : w64 a.fMed = a.fMed := w64_id (by omega)
      show upd _ b = _
      simp [upd, rawOf, pit, e4, e4']
    · have : a.fMed = -1 := by omega
      rw [this, ← hb]; rfl
  have s3 : ∀ b : api_Attrs, b.fPref = -1 → updL (if 0 ≤ a.fPref then [pit 64 5 (put4 a.fPref)] else []) b = { b with fPref := a.fPref } := by
    intro b hb
    split
    · have e4 := S66_put4 (n := a.fPref) [] (by omega)
      rw [List.append_nil] at e4
      have e4' : w64 a.fPref = a.fPref := w64_id (by omega)
      show upd _ b = _
      simp [upd, rawOf, pit, e4, e4']
    · have : a.fPref = -1 := by omega
      rw [this, ← hb]; rfl
  have s4 : ∀ b : api_Attrs, b.fComms = [] → updL (if a.fComms = [] then [] else [pit 192 8 (commB a.fComms)]) b = { b with fComms := a.fComms } := by
    intro b hb
    split
    · rename_i e; rw [e, ← hb]; rfl
    · have e4 := words_comm a.fComms (commB a.fComms).length h.cr (by rw [commB_len]; omega)
      show upd _ b = _
      simp [upd, rawOf, pit, e4, hb]
  rw [s1, s2 _ rfl, s3 _ rfl, s4 _ rfl]
  show (⟨_, _, _, _, _, _, _⟩ : api_Attrs) = a
  have := filter_split h.r
  cases a
  simp only at *
  simp only [a0, List.nil_append, this]
theorem its_pair {a : api_Attrs} (h : Gd7 a) : (its a).Pairwise fun i j => i.t < j.t := by
  have hr := rawsUp_pair h.r
  have hS := rawsUp_all h.r
  have hmap : ∀ (q : api_Raw → Bool), ((a.fRaws.filter q).map rit).Pairwise fun i j => i.t < j.t := fun q => by
    rw [List.pairwise_map]; exact hr.filter q
  have t4 : ∀ i ∈ (if 0 ≤ a.fMed then [pit 128 4 (put4 a.fMed)] else []), i.t = 4 := fun i hi => by
    split at hi
    · rw [List.mem_singleton] at hi; subst hi; rfl
    · cases hi
  have t5 : ∀ i ∈ (if 0 ≤ a.fPref then [pit 64 5 (put4 a.fPref)] else []), i.t = 5 := fun i hi => by
    split at hi
    · rw [List.mem_singleton] at hi; subst hi; rfl
    · cases hi
  have t8 : ∀ i ∈ (if a.fComms = [] then [] else [pit 192 8 (commB a.fComms)]), i.t = 8 := fun i hi => by
    split at hi
    · cases hi
    · rw [List.mem_singleton] at hi; subst hi; rfl
  have t6 : ∀ i ∈ (a.fRaws.filter fun r => decide (r.fType < 8)).map rit, 6 ≤ i.t ∧ i.t < 8 := fun i hi => by
    obtain ⟨r, hr, rfl⟩ := List.mem_map.1 hi
    obtain ⟨h1, h2⟩ := List.mem_filter.1 hr
    have h2 := of_decide_eq_true h2
    have : (rit r).t = r.fType := rfl
    rcases S28_cases (hS r h1) with ⟨h3, _⟩ | ⟨h3, _⟩ | ⟨h3, _⟩ <;> omega
  have t9 : ∀ i ∈ (a.fRaws.filter fun r => decide (8 < r.fType)).map rit, 8 < i.t := fun i hi => by
    obtain ⟨r, hr, rfl⟩ := List.mem_map.1 hi
    exact of_decide_eq_true (List.mem_filter.1 hr).2
  have one : ∀ (c : Prop) [Decidable c] (x : It), (if c then [x] else []).Pairwise fun i j => i.t < j.t := fun c _ x => by split <;> simp
  have one' : ∀ (c : Prop) [Decidable c] (x : It), (if c then [] else [x]).Pairwise fun i j => i.t < j.t := fun c _ x => by split <;> simp
  unfold its
  refine List.pairwise_append.2 ⟨?_, List.pairwise_append.2 ⟨one _ _, List.pairwise_append.2 ⟨one _ _, List.pairwise_append.2 ⟨hmap _, List.pairwise_append.2 ⟨one' _ _, hmap _, ?_⟩, ?_⟩, ?_⟩, ?_⟩, ?_⟩
  · refine .cons ?_ (.cons ?_ (.cons ?_ .nil))
    · intro j hj; simp at hj; rcases hj with rfl | rfl
      · exact (by decide : (1 : Int) < 2)
      · exact (by decide : (1 : Int) < 3)
    · intro j hj; simp at hj; subst hj; exact (by decide : (2 : Int) < 3)
    · intro j hj; cases hj
  · intro i hi j hj
    have := t8 i hi; have := t9 j hj; omega
  · intro i hi j hj
    have := t6 i hi
    rcases List.mem_append.1 hj with hj | hj
    · have := t8 j hj; omega
    · have := t9 j hj; omega
  · intro i hi j hj
    have := t5 i hi
    simp only [List.mem_append] at hj
    rcases hj with hj | hj | hj
    · have := t6 j hj; omega
    · have := t8 j hj; omega
    · have := t9 j hj; omega
  · intro i hi j hj
    have := t4 i hi
    simp only [List.mem_append] at hj
    rcases hj with hj | hj | hj | hj
    · have := t5 j hj; omega
    · have := t6 j hj; omega
    · have := t8 j hj; omega
    · have := t9 j hj; omega
  · intro i hi j hj
    have hi3 : i.t ≤ 3 := by
      simp only [List.mem_cons, List.not_mem_nil, or_false] at hi
      rcases hi with rfl | rfl | rfl
      · exact (by decide : (1 : Int) ≤ 3)
      · exact (by decide : (2 : Int) ≤ 3)
      · exact (by decide : (3 : Int) ≤ 3)
    simp only [List.mem_append] at hj
    rcases hj with hj | hj | hj | hj | hj
    · have := t4 j hj; omega
    · have := t5 j hj; omega
    · have := t6 j hj; omega
    · have := t8 j hj; omega
    · have := t9 j hj; omega
theorem its_nodup {a : api_Attrs} (h : Gd7 a) : ((its a).map It.t).Nodup := by
  rw [List.nodup_iff_pairwise_ne, List.pairwise_map]
  exact (its_pair h).imp fun h e => by omega
theorem its_has {a : api_Attrs} : ((its a).any fun i => decide (i.t = 1)) = true ∧ ((its a).any fun i => decide (i.t = 2)) = true ∧ ((its a).any fun i => decide (i.t = 3)) = true := by
  refine ⟨?_, ?_, ?_⟩ <;> unfold its <;> simp [pit]
/-- Its attributes in any order are read as it. -/
theorem read_perm {a : api_Attrs} (h : Gd7 a) {l : List It} (hp : l.Perm (its a)) : S17 (l.flatMap itB) = (a, ⟨0, 0, []⟩) := by
  have hany : ∀ q : It → Bool, l.any q = (its a).any q := fun q => hp.any_eq
  have hn : (l.map It.t).Nodup := ((hp.map It.t).nodup_iff).2 (its_nodup h)
  refine read_acc (fun i hi => its_acc h i (hp.mem_iff.1 hi)) hn (by rw [hany]; exact its_has.1) (by rw [hany]; exact its_has.2.1) (by rw [hany]; exact its_has.2.2) ?_ (rawsUp_pair h.r)
  have := Eqv.perm hp hn (Eqv.refl a0)
  rwa [its_upd h] at this
theorem its_bytes {a : api_Attrs} (h : Gd7 a) (hS : S13 a = true) : S12 a = (its a).flatMap itB := by
  have hl := S23_len h.pl
  have hcl := commB_len a.fComms
  have hcl2 := h.cl
  have ho := h.o
  have e1 : IntKind.u8.wrap a.fOrigin = a.fOrigin := by show a.fOrigin % 256 = _; omega
  have rm : ∀ l : List api_Raw, (∀ r ∈ l, S28 r = true) → (l.map rit).flatMap itB = l.flatMap rB := by
    intro l hl
    induction l with
    | nil => rfl
    | cons r l ih =>
      rw [List.map_cons, List.flatMap_cons, List.flatMap_cons, ih fun x hx => hl x (by simp [hx])]
      congr 1
      have hc := S28_cases (hl r (by simp))
      have hd : r.fData.length ≤ 255 := by
        rcases hc with ⟨h1, h2, h3⟩ | ⟨h1, h2, h3⟩ | ⟨h1, h2, h3, h4⟩
        · rw [h3]; simp
        · omega
        · exact h4
      rw [rit_pit hd, pit_putB ?_ ?_ (by omega)]
      · rfl
      · rcases hc with ⟨h1, h2, h3⟩ | ⟨h1, h2, h3⟩ | ⟨h1, h2, h3, h4⟩
        · exact .inl h2
        · exact .inr (.inr (.inl h2))
        · exact .inr (.inr (.inr h3))
      · rcases hc with ⟨h1, h2, h3⟩ | ⟨h1, h2, h3⟩ | ⟨h1, h2, h3, h4⟩ <;> omega
  have hf : ∀ (q : api_Raw → Bool), ∀ r ∈ a.fRaws.filter q, S28 r = true := fun q r hr => rawsUp_all h.r r (List.mem_filter.1 hr).1
  unfold S12 its
  rw [if_pos hS, rawsOut_split _ _ h.r]
  simp only [List.flatMap_append, rm _ (hf _), List.flatMap_cons, List.flatMap_nil, List.append_nil]
  rw [pit_putB (by simp) (by omega) (by simp), pit_putB (by simp) (by omega) (by omega), pit_putB (by simp) (by omega) (by simp [put4]), e1]
  have m4 : (if 0 ≤ a.fMed then [pit 128 4 (put4 a.fMed)] else []).flatMap itB = if 0 ≤ a.fMed then putB 128 4 (S25 a.fMed) else [] := by
    split
    · rw [List.flatMap_cons, List.flatMap_nil, List.append_nil, pit_putB (by simp) (by omega) (by simp [put4]), S25, put4_u32]
    · rfl
  have m5 : (if 0 ≤ a.fPref then [pit 64 5 (put4 a.fPref)] else []).flatMap itB = if 0 ≤ a.fPref then putB 64 5 (S25 a.fPref) else [] := by
    split
    · rw [List.flatMap_cons, List.flatMap_nil, List.append_nil, pit_putB (by simp) (by omega) (by simp [put4]), S25, put4_u32]
    · rfl
  have m8 : (if a.fComms = [] then [] else [pit 192 8 (commB a.fComms)]).flatMap itB = if (decide ((commB a.fComms).length = 0)) = true then [] else putB 192 8 (commB a.fComms) := by
    by_cases hc : a.fComms = []
    · rw [if_pos hc, if_pos (by rw [hc]; rfl)]; rfl
    · have : 0 < a.fComms.length := List.length_pos_iff.2 hc
      rw [if_neg hc, if_neg (by rw [decide_eq_true_eq]; omega), List.flatMap_cons, List.flatMap_nil, List.append_nil, pit_putB (by simp) (by omega) (by omega)]
  rw [m4, m5, m8]
  simp only [List.append_assoc]
end Go.Rx
/-! The laws' plain facts; AttrBack. -/
namespace Go.Rx
open Go.Ab Go.L7
set_option linter.unusedVariables false
set_option linter.unusedSimpArgs false
set_option maxRecDepth 100000
theorem okI32 {n : Int} (h : okI .u32 n) : 0 ≤ n ∧ n ≤ 4294967295 := by
  unfold okI Lit.wf at h
  simp [IntKind.min, IntKind.max, IntKind.signed, IntKind.bits] at h
  omega
theorem small_len {a : api_Attrs} (hok : api_Attrs.ok a) (h : S10 a = true) : a.fPath.length < 3000 ∧ a.fComms.length < 3000 ∧ a.fRaws.length < 3000 := by
  have h1 : a.fPath.length ≤ 140737488351232 := hok.2.1.1
  have h2 : a.fComms.length ≤ 140737488351232 := hok.2.2.2.2.2.1.1
  have h3 : a.fRaws.length ≤ 140737488351232 := hok.2.2.2.2.2.2.1
  unfold S10 at h
  have h := of_decide_eq_true h
  rw [show w64 ((a.fPath.length : Int) + a.fComms.length) = a.fPath.length + a.fComms.length from w64_id (by omega), show w64 ((a.fPath.length : Int) + a.fComms.length + a.fRaws.length) = a.fPath.length + a.fComms.length + a.fRaws.length from w64_id (by omega)] at h
  by_cases hn : ((a.fPath.length : Int) + a.fComms.length + a.fRaws.length) < 3000
  · omega
  · rw [smallP_big _ hn, smallR_big _ hn] at h
    omega
theorem gd_of {a : api_Attrs} (hok : api_Attrs.ok a) (hs : S10 a = true) (h : S13 a = true) : Gd7 a := by
  have hl := small_len hok hs
  unfold S13 at h
  simp only [Bool.and_eq_true, Bool.not_eq_true', Bool.or_eq_false_iff, decide_eq_true_eq, decide_eq_false_iff_not] at h
  exact ⟨by omega, by omega, h.1.1.1.1.2, okI32 hok.2.2.1, h.1.1.1.2, by omega, by omega, by omega, fun n hn => okI32 (hok.2.2.2.2.2.1.2 n hn), h.1.2, fun r hr => By.of_ok (hok.2.2.2.2.2.2.2 r hr).2.2⟩
theorem its_len {a : api_Attrs} : (its a).length ≤ 6 + 2 * a.fRaws.length := by
  have h1 := List.length_filter_le (fun r : api_Raw => decide (r.fType < 8)) a.fRaws
  have h2 := List.length_filter_le (fun r : api_Raw => decide (8 < r.fType)) a.fRaws
  have one : ∀ (c : Prop) [Decidable c] (x : It), (if c then [x] else []).length ≤ 1 := fun c _ x => by split <;> simp
  have one' : ∀ (c : Prop) [Decidable c] (x : It), (if c then [] else [x]).length ≤ 1 := fun c _ x => by split <;> simp
  have o4 := one (0 ≤ a.fMed) (pit 128 4 (put4 a.fMed))
  have o5 := one (0 ≤ a.fPref) (pit 64 5 (put4 a.fPref))
  have o8 := one' (a.fComms = []) (pit 192 8 (commB a.fComms))
  unfold its
  simp only [List.length_append, List.length_map, List.length_cons, List.length_nil]
  omega
theorem flat_items_len : ∀ (l : List It), (∀ i ∈ l, i.ok) → (l.flatMap itB).length ≤ 65539 * l.length
  | [], _ => by simp
  | i :: l, h => by
    have := flat_items_len l fun j hj => h j (by simp [hj])
    have := (itB_len i).2
    have := (h i (by simp)).hl
    rw [List.flatMap_cons, List.length_append, List.length_cons]
    omega
theorem its_ok {a : api_Attrs} (h : Gd7 a) : ∀ i ∈ its a, i.ok := fun i hi => (its_acc h i hi).ok
theorem S12_len {a : api_Attrs} (hok : api_Attrs.ok a) (hs : S10 a = true) : (S12 a).length ≤ 400000000 ∧ By (S12 a) := by
  by_cases h : S13 a = true
  · have g := gd_of hok hs h
    have hl := (small_len hok hs).2.2
    rw [its_bytes g h]
    refine ⟨?_, items_by (its_ok g)⟩
    have h1 := flat_items_len (its a) (its_ok g)
    have h2 := its_len (a := a)
    omega
  · have : S12 a = [] := by unfold S12; rw [if_neg h]
    rw [this]
    exact ⟨by simp, .nil⟩
end Go.Rx
namespace Go.Rx
open Go.Ab Go.L7
set_option linter.unusedVariables false
set_option maxRecDepth 100000
abbrev W17 : CT S [29, 62] [35] := fun x0 => (some (P17 x0), S17 x0)
@[irreducible] def Xg17 (x : List Int) (v : HR S [29, 62]) : Prop := Xg C17 8 ((Ab.look C17.ann 20).getD []) fn17 D17 (argsA C17 [⟨35, x⟩]) (isR C17.P [29, 62] v)
set_option maxHeartbeats 400000 in
theorem main17 (x : List Int) (hp : P17 x) (v : api_Attrs × api_Note) (hv : S17 x = v) : Xg17 x v := by
  unfold Xg17
  rw [q17 x v]
  refine And.intro (Eq.refl _) ?_
  refine LOOP.of (fun h => RdI v h.1 ⟨h.2.1, h.2.2.1, h.2.2.2.1, h.2.2.2.2.1, h.2.2.2.2.2.1, h.2.2.2.2.2.2.1, h.2.2.2.2.2.2.2.1⟩ h.2.2.2.2.2.2.2.2) (fun h => h.1.length) ?_ ?_
  · exact ⟨hp.2, hp.1, by simpa using hp.1, by simp, by simp, fun r hr => (by cases hr), by simp, _, Nat.le_refl _, hv⟩
  rintro ⟨b, o, p, nx, md, pf, cm, ra, seen⟩ hI J hJ
  dsimp only at hI ⊢
  refine bif_of (fun h => ?_) (fun h => ?_)
  · have h0 : 0 < b.length := by have := of_decide_eq_true h; omega
    have hne : b ≠ [] := fun e => by rw [e] at h0; cases h0
    obtain ⟨f, hf, hd⟩ := hI.dec
    obtain ⟨f, rfl⟩ : ∃ g, f = g + 1 := ⟨f - 1, by omega⟩
    simp only [decA, if_neg hne] at hd
    have rg : ∀ i : Int, 0 ≤ i → i < (b.length : Int) → 0 ≤ ix b i ∧ ix b i ≤ 255 := fun i h1 h2 => hI.by_ _ (ix_mem h1 h2)
    have hll := hI.len
    have hh : headL b = 3 ∨ headL b = 4 := by unfold headL; split <;> simp
    refine JP.of (fun n => n = (headL b : Int)) (fun J hJ => ⟨fun _ => ⟨Int.le_refl _, by omega⟩, bif_of (fun e => hJ _ ?_) (fun e => hJ _ ?_)⟩) fun hd1 hhd => ?_
    · simp only [Bool.and_eq_true, Bool.not_eq_true', decide_eq_false_iff_not] at e
      simp only [headL, if_neg e.2]; rfl
    · simp only [Bool.and_eq_false_iff, Bool.not_eq_false', decide_eq_true_eq, h, Bool.true_eq_false, false_or] at e
      simp only [headL, if_pos e]; rfl
    subst hhd
    refine bif_of (fun e => ⟨Nat.zero_le _, six ?_⟩) (fun e => ?_)
    · rw [if_pos (by have := of_decide_eq_true e; omega)] at hd
      exact hd
    have hl1 : headL b ≤ b.length := by have := of_decide_eq_false e; omega
    rw [if_neg (by omega)] at hd
    refine ⟨⟨by omega, by omega⟩, ?_⟩
    have r2 := rg 2 (by omega) (by omega)
    have r1 := rg 1 (by omega) (by omega)
    have r0 := rg 0 (by omega) (by omega)
    refine JP.of (fun n => n = sizeL b) (fun J hJ => bif_of (fun e => ⟨⟨by omega, ?_⟩, hJ _ ?_⟩) (fun e => hJ _ ?_)) fun sz hsz => ?_
    · have := of_decide_eq_true e; omega
    · have h4 : headL b = 4 := by have := of_decide_eq_true e; omega
      have r3 := rg 3 (by omega) (by omega)
      have hi : ¬ (iand IntKind.u8 (ix b 0) 16 = 0) := by intro hi; simp only [headL, if_pos hi] at h4; omega
      simp only [sizeL, if_neg hi]
      rw [wrap64 (n := ix b 2) (by omega), wrap64 (n := ix b 3) (by omega), show (2 : Int) ^ 8 = 256 from rfl, wrap64 (by omega)]
      exact ior_shift r2 r3
    · have h3 : headL b = 3 := by have := of_decide_eq_false e; omega
      have hi : iand IntKind.u8 (ix b 0) 16 = 0 := by
        by_cases hi : iand IntKind.u8 (ix b 0) 16 = 0
        · exact hi
        · simp only [headL, if_neg hi] at h3; omega
      simp only [sizeL, if_pos hi]
      exact wrap64 (by omega)
    have hsr : 0 ≤ sizeL b ∧ sizeL b ≤ 65535 := by
      unfold sizeL
      by_cases hi : iand IntKind.u8 (ix b 0) 16 = 0
      · rw [if_pos hi]; omega
      · have h4 : headL b = 4 := by simp only [headL, if_neg hi]
        have r3 := rg 3 (by omega) (by omega)
        rw [if_neg hi]; omega
    subst hsz
    rw [wrap64 (n := (b.length : Int) - (headL b : Int)) (by omega)]
    refine bif_of (fun e => ⟨Nat.zero_le _, six ?_⟩) (fun e => ?_)
    · rw [if_pos (of_decide_eq_true e)] at hd
      exact hd
    have hl2 := of_decide_eq_false e
    rw [if_neg hl2] at hd
    generalize hk : headL b + (sizeL b).toNat = k at hd
    have hkl : k ≤ b.length := by omega
    have hkW : IntKind.i64.wrap ((headL b : Int) + sizeL b) = (k : Int) := by rw [wrap64 (by omega)]; omega
    have hall : sub b 0 (k : Int) = b.take k := by simp [sub]
    have hdat : sub b (headL b : Int) (k : Int) = (b.take k).drop (headL b) := by simp [sub]
    have hrest : sub b (k : Int) (b.length : Int) = b.drop k := sub_drop b (by simp)
    rw [hkW, hall, hdat, hrest, wrap64 (n := ix b 1) (by omega), wrap64 (n := ix b 0) (by omega)]
    generalize htt : ix b 1 = t at *
    generalize hff : ix b 0 = fl at *
    refine ⟨⟨by omega, by omega⟩, ⟨by omega, by omega⟩, ⟨by omega, by omega, by omega⟩, ⟨by omega, by omega, by omega⟩, ⟨by omega, by omega, by omega⟩, ⟨by omega, by show t < 256; omega⟩, by rw [hI.sn]; omega, ?_⟩
    refine bif_of (fun e => ⟨Nat.zero_le _, six ?_⟩) (fun hs => ⟨⟨by omega, by show t < 256; omega⟩, by rw [hI.sn]; omega, ?_⟩)
    · rw [if_pos e] at hd; exact hd
    rw [if_neg (by simp [hs])] at hd
    have hBa : By (b.take k) := By.take hI.by_ _
    have hal : (b.take k).length = k := by rw [List.length_take]; omega
    generalize hA : b.take k = all at *
    have hBd : By (all.drop (headL b)) := By.drop hBa _
    have hdl : (all.drop (headL b)).length ≤ k := by rw [List.length_drop]; omega
    generalize hD : all.drop (headL b) = d at *
    have hthrow : ∀ s x, attrA fl t all d ⟨o, p, nx, md, pf, cm, ra⟩ = .inl (s, x) → throwN s x = v := fun s x he => by rw [he] at hd; exact hd
    have hgo : ∀ a', attrA fl t all d ⟨o, p, nx, md, pf, cm, ra⟩ = .inr a' → a'.fComms.length ≤ cm.length + d.length → (a'.fRaws = ra ∨ ∃ fl', a'.fRaws = ra ++ [⟨fl', t, d⟩]) → J (b.drop k, a'.fOrigin, a'.fPath, a'.fNext, a'.fMed, a'.fPref, a'.fComms, a'.fRaws, seen.set t.toNat true) := by
      intro a' he hc hr
      rw [he] at hd
      exact hJ _ (hI.next (t := t) (k := k) (f := f) (d := d) (by omega) hkl hdl r1 hs hc hr (by rw [List.length_drop]; omega) hd) (by show (b.drop k).length < b.length; rw [List.length_drop]; omega)
    have p62 : ∀ {l : List Int}, l.length ≤ 549755813888 → l.length.le 140737488355328 := fun h => Nat.le_trans h (by decide)
    have hall6 : all.length.le 140737488355328 := p62 (by omega)
    have hd6 : d.length.le 140737488355328 := p62 (by omega)
    have hrc : (ra.length + 1) * 40 ≤ 140737488355328 := by
      have h1 := hI.rl
      have h2 : seen.count true ≤ seen.length := List.count_le_length
      rw [hI.sn] at h2
      have h1 : ra.length ≤ seen.count true := h1
      omega
    refine bif_of (fun e => ⟨⟨by omega, ?_⟩, ?_⟩) (fun e => ?_)
    · simp only [Bool.and_eq_true, decide_eq_true_eq] at e; show t < 9; omega
    · have ht : 1 ≤ t ∧ t ≤ 8 := by simpa using e
      simp only [attrA, if_pos ht, knownA] at hthrow hgo
      rw [show ([attr_kind.mk 0 0, attr_kind.mk 64 1, attr_kind.mk 64 (-1), attr_kind.mk 64 4, attr_kind.mk 128 4, attr_kind.mk 64 4, attr_kind.mk 64 0, attr_kind.mk 192 8, attr_kind.mk 192 (-1)] : List attr_kind) = kinds from rfl]
      generalize hkk : ix kinds t = kk at *
      refine JP.of (fun n => n = if kk.fflags = 192 then 192 else 224) (fun J hJ => bif_of (fun e => hJ _ ?_) (fun e => hJ _ ?_)) fun mk hmk => ?_
      · rw [if_neg (by simpa using e)]; rfl
      · rw [if_pos (by simpa using e)]
      subst hmk
      refine bif_of (fun e => ⟨hall6, six (hthrow 4 all ?_)⟩) (fun e => ?_)
      · rw [if_pos (by simpa using e)]
      simp only [if_neg (show ¬ (iand IntKind.i64 fl (if kk.fflags = 192 then 192 else 224) ≠ kk.fflags) by simpa using e)] at hthrow hgo
      generalize hc5 : ((decide (0 ≤ kk.fsize) && !decide ((d.length : Int) = kk.fsize)) || (decide (t = 8) && (decide ((d.length : Int) = 0) || !decide ((d.length : Int).tmod 4 = 0)))) = c5 at hthrow hgo
      refine JP.of (fun bb => bb = c5) (fun J hJ => bif_of (fun e => hJ _ ?_) (fun e => hJ _ ?_)) fun bb hbb => ?_
      · rw [← hc5, e]; rfl
      · rw [← hc5, e]; rfl
      subst hbb
      refine bif_of (fun e => ⟨hall6, six (hthrow 5 all ?_)⟩) (fun e5 => ?_)
      · simp [e]
      simp only [e5, Bool.false_eq_true, if_false] at hthrow hgo
      rw [e5] at hc5
      simp only [Bool.or_eq_false_iff] at hc5
      obtain ⟨hs5, h85⟩ := hc5
      refine bif_of (fun e => ?_) (fun e => ?_)
      · have e := of_decide_eq_true e
        subst e
        have hk1 : kk = ⟨64, 1⟩ := by rw [← hkk]; rfl
        rw [hk1] at hs5
        have hd1 : (d.length : Int) = 1 := by simpa using hs5
        have rd := hBd _ (ix_mem (x := d) (i := 0) (by omega) (by omega))
        rw [wrap64 (n := ix d 0) (by omega)]
        simp only [if_true] at hthrow hgo
        refine ⟨⟨by omega, by omega⟩, bif_of (fun e => ⟨hall6, six (hthrow 6 all ?_)⟩) (fun e => ⟨⟨rfl, ⟨rfl, rfl⟩, rfl⟩, hgo ⟨ix d 0, p, nx, md, pf, cm, ra⟩ ?_ (by show cm.length ≤ _; omega) (.inl rfl)⟩)⟩
        · rw [if_pos (of_decide_eq_true e)]
        · rw [if_neg (of_decide_eq_false e)]
      have n1 := of_decide_eq_false e
      simp only [if_neg n1] at hthrow hgo
      refine bif_of (fun e => ?_) (fun e => ?_)
      · have e := of_decide_eq_true e
        simp only [if_pos e] at hthrow hgo
        refine ⟨⟨by show d.length ≤ 1099511627776; omega, fun c hc => hBd c hc⟩, bif_of (fun e => ⟨Nat.zero_le _, six (hthrow 11 [] ?_)⟩) (fun e => ⟨⟨rfl, ⟨rfl, rfl⟩, rfl⟩, hgo ⟨o, (S65 d).1, nx, md, pf, cm, ra⟩ ?_ (by show cm.length ≤ _; omega) (.inl rfl)⟩)⟩
        · rw [if_neg (by simpa using e)]
        · rw [if_pos (by simpa using e)]
      have n2 := of_decide_eq_false e
      simp only [if_neg n2] at hthrow hgo
      refine bif_of (fun e => ?_) (fun e => ?_)
      · have e := of_decide_eq_true e
        simp only [if_pos e] at hthrow hgo
        refine bif_of (fun e => ⟨hall6, six (hthrow 8 all ?_)⟩) (fun e => ⟨⟨rfl, ⟨rfl, rfl⟩, rfl⟩, hgo ⟨o, p, S66 d, md, pf, cm, ra⟩ ?_ (by show cm.length ≤ _; omega) (.inl rfl)⟩)
        · rw [if_neg (by simpa using e)]
        · rw [if_pos (by simpa using e)]
      have n3 := of_decide_eq_false e
      simp only [if_neg n3] at hthrow hgo
      refine bif_of (fun e => ?_) (fun e => ?_)
      · have e := of_decide_eq_true e
        simp only [if_pos e] at hgo
        exact ⟨⟨rfl, ⟨rfl, rfl⟩, rfl⟩, hgo ⟨o, p, nx, w64 (S66 d), pf, cm, ra⟩ rfl (by show cm.length ≤ _; omega) (.inl rfl)⟩
      have n4 := of_decide_eq_false e
      simp only [if_neg n4] at hthrow hgo
      refine bif_of (fun e => ?_) (fun e => ?_)
      · have e := of_decide_eq_true e
        simp only [if_pos e] at hgo
        exact ⟨⟨rfl, ⟨rfl, rfl⟩, rfl⟩, hgo ⟨o, p, nx, md, w64 (S66 d), cm, ra⟩ rfl (by show cm.length ≤ _; omega) (.inl rfl)⟩
      have n5 := of_decide_eq_false e
      simp only [if_neg n5] at hthrow hgo
      refine JP.of (fun bb => bb = decide (t = 6 ∨ t = 7)) (fun J hJ => bif_of (fun e => hJ _ ?_) (fun e => hJ _ ?_)) fun bb hbb => ?_
      · have e' := of_decide_eq_true e; simp [e']
      · have e' := of_decide_eq_false e; simp [e']
      subst hbb
      refine bif_of (fun e => ?_) (fun e => ?_)
      · have e := of_decide_eq_true e
        have n8 : ¬ t = 8 := by omega
        simp only [if_neg n8] at hgo
        refine ⟨⟨by omega, by show t < 9; omega⟩, hd6, ⟨rfl, rfl, hrc⟩, fun (y : List api_Raw) hy => ⟨⟨rfl, ⟨rfl, rfl⟩, rfl⟩, ?_⟩⟩
        exact hgo ⟨o, p, nx, md, pf, cm, y⟩ (by rw [hy]; rfl) (by show cm.length ≤ _; omega) (.inr ⟨kk.fflags, hy⟩)
      have n67 := of_decide_eq_false e
      have t8 : t = 8 := by omega
      simp only [if_pos t8] at hthrow hgo
      refine bif_of (fun _ => ?_) (fun e => absurd t8 (of_decide_eq_false e))
      refine bif_of (fun e => ⟨hall6, six (hthrow 9 all ?_)⟩) (fun e => ⟨⟨rfl, ⟨rfl, rfl⟩, rfl⟩, ?_⟩)
      · rw [if_pos (of_decide_eq_true e)]
      simp only [if_neg (of_decide_eq_false e)] at hgo
      have hcml : cm.length + b.length ≤ 549755813888 := hI.cm
      have hgo := hgo ⟨o, p, nx, md, pf, cm ++ words d.length d, ra⟩ rfl (by have := words_len d.length d; simp only [List.length_append]; omega) (.inl rfl)
      have h4d : 4 * ((d.length : Int) / 4) = d.length := by
        simp only [t8, decide_true, Bool.true_and, Bool.or_eq_false_iff, Bool.not_eq_false', decide_eq_true_eq] at h85
        have := h85.2
        rw [Int.tmod_eq_emod_of_nonneg (by omega)] at this
        omega
      refine LOOP.of (fun h => ∃ c', h.2 = (b.drop k, o, p, nx, md, pf, c', ra, seen.set t.toNat true) ∧ 4 * (h.1.length / 4) = h.1.length ∧ c'.length + h.1.length ≤ 549755813888 ∧ c' ++ words h.1.length h.1 = cm ++ words d.length d) (fun h => h.1.length) ⟨cm, rfl, by show 4 * (d.length / 4) = d.length; omega, by show cm.length + d.length ≤ _; omega, rfl⟩ ?_
      rintro ⟨d', z⟩ ⟨c', hz, i1, i2, i3⟩ J1 hJ1
      dsimp only at hz i1 i2 i3 ⊢
      subst hz
      dsimp only
      refine bif_of (fun e => ?_) (fun e => ?_)
      · have e := of_decide_eq_true e
        refine ⟨⟨rfl, by show (c'.length + 1) * 4 ≤ 140737488355328; omega⟩, fun (y : List Int) hy => ⟨⟨by omega, by omega, Int.le_refl _⟩, ⟨rfl, ⟨rfl, rfl⟩, rfl⟩, ?_⟩⟩
        rw [sub_drop d' (n := 4) rfl]
        refine hJ1 _ ⟨y, rfl, by dsimp only; rw [List.length_drop]; omega, by dsimp only; rw [hy, List.length_append, List.length_drop, List.length_singleton]; omega, ?_⟩ (by dsimp only; rw [List.length_drop]; omega)
        dsimp only
        rw [← i3, hy]
        obtain ⟨m, hm⟩ : ∃ m, d'.length = m + 1 := ⟨d'.length - 1, by omega⟩
        have hne' : d' ≠ [] := fun e => by rw [e] at hm; cases hm
        rw [hm, words, if_neg hne', List.append_assoc, List.singleton_append, words_fuel m (d'.drop 4).length _ (by rw [List.length_drop]; omega) (Nat.le_refl _)]
      · have e := of_decide_eq_false e
        have hd0 : d' = [] := List.eq_nil_of_length_eq_zero (by omega)
        subst hd0
        simp only [words, List.length_nil, List.append_nil] at i3
        refine ⟨⟨rfl, ⟨rfl, rfl⟩, rfl⟩, ?_⟩
        rw [i3]
        exact hgo
    · have hnt : ¬ (1 ≤ t ∧ t ≤ 8) := by simpa using e
      simp only [attrA, if_neg hnt, otherA] at hthrow hgo
      refine bif_of (fun e => ⟨hall6, six (hthrow 2 all ?_)⟩) (fun e => ?_)
      · rw [if_pos (of_decide_eq_true e)]
      simp only [if_neg (of_decide_eq_false e)] at hthrow hgo
      refine bif_of (fun e => ?_) (fun e => ?_)
      · simp only [if_pos (of_decide_eq_true e)] at hgo
        exact ⟨⟨rfl, ⟨rfl, rfl⟩, rfl⟩, hgo ⟨o, p, nx, md, pf, cm, ra⟩ rfl (by show cm.length ≤ _; omega) (.inl rfl)⟩
      simp only [if_neg (of_decide_eq_false e)] at hthrow hgo
      refine bif_of (fun e => ⟨hall6, six (hthrow 9 all ?_)⟩) (fun e => ?_)
      · rw [if_pos (of_decide_eq_true e)]
      simp only [if_neg (of_decide_eq_false e)] at hgo
      refine bif_of (fun e => ?_) (fun e => ?_)
      · simp only [if_pos (of_decide_eq_true e)] at hgo
        refine ⟨hd6, ⟨rfl, rfl, hrc⟩, fun (y : List api_Raw) hy => ⟨⟨rfl, ⟨rfl, rfl⟩, rfl⟩, ?_⟩⟩
        exact hgo ⟨o, p, nx, md, pf, cm, y⟩ (by rw [hy]; rfl) (by show cm.length ≤ _; omega) (.inr ⟨224, hy⟩)
      · simp only [if_neg (of_decide_eq_false e)] at hgo
        exact ⟨⟨rfl, ⟨rfl, rfl⟩, rfl⟩, hgo ⟨o, p, nx, md, pf, cm, ra⟩ rfl (by show cm.length ≤ _; omega) (.inl rfl)⟩
  · have hb0 : b = [] := List.eq_nil_of_length_eq_zero (by have := of_decide_eq_false h; omega)
    obtain ⟨f, hf, hd⟩ := hI.dec
    have hfin : finA ⟨o, p, nx, md, pf, cm, ra⟩ seen = v := by
      rw [← hd]; subst hb0
      cases f <;> simp [decA]
    refine LOOP.of (fun i => 0 ≤ i ∧ i ≤ 3 ∧ ∀ j : Int, 1 ≤ j → j ≤ i → ix seen j = true) (fun i => (3 - i).toNat) ⟨by omega, by omega, fun j h1 h2 => by omega⟩ ?_
    rintro i ⟨i1, i2, i3⟩ J2 hJ2
    refine bif_of (fun e => ?_) (fun e => ?_)
    · have e : i < 3 := of_decide_eq_true e
      have h3 : ix [1, 2, 3] i = i + 1 := by
        rcases (show i = 0 ∨ i = 1 ∨ i = 2 by omega) with rfl | rfl | rfl <;> rfl
      rw [h3]
      refine ⟨⟨i1, e⟩, ⟨by omega, by show i + 1 < 256; omega⟩, by rw [hI.sn]; omega, bif_of (fun e2 => ⟨by show (1 : Nat) ≤ _; decide, six ?_⟩) (fun e2 => ?_)⟩
      · rw [← hfin]
        simp only [Bool.not_eq_true'] at e2
        rcases (show i = 0 ∨ i = 1 ∨ i = 2 by omega) with rfl | rfl | rfl
        · have e2 : ix seen 1 = false := e2
          simp only [finA, e2]; rfl
        · have e2 : ix seen 2 = false := e2
          simp only [finA, e2, i3 1 (by omega) (by omega)]; rfl
        · have e2 : ix seen 3 = false := e2
          simp only [finA, e2, i3 1 (by omega) (by omega), i3 2 (by omega) (by omega)]; rfl
      · rw [wrap64 (by omega)]
        refine hJ2 _ ⟨by omega, by omega, fun j j1 j2 => ?_⟩ (by omega)
        by_cases hj : j ≤ i
        · exact i3 j j1 hj
        · rw [show j = i + 1 by omega]; simpa using e2
    · have e : ¬ i < 3 := of_decide_eq_false e
      have hr : ra.length ≤ 256 := by
        have h1 : ra.length ≤ seen.count true := hI.rl
        have h2 : seen.count true ≤ seen.length := List.count_le_length
        rw [hI.sn] at h2; omega
      refine ⟨⟨⟨rfl, rfl⟩, by show ra.length ≤ 1000; omega, fun r hr => ⟨(hI.rt r hr).1, (hI.rt r hr).2.1⟩⟩, fun y hy1 hy2 => ⟨⟨hy1.length_eq.symm, rfl⟩, ?_⟩⟩
      rw [← hfin, sortR_eq hy1 hy2 hI.nd]
      simp only [finA, i3 1 (by omega) (by omega), i3 2 (by omega) (by omega), i3 3 (by omega) (by omega)]
      rfl
end Go.Rx
namespace Go.Rx
open Go.Ab Go.L7
set_option linter.unusedVariables false
set_option maxRecDepth 100000
theorem kk17 (h52 : ConOk P7 65 (.srt (A := S.A) 37 66 Q52 R52)) : KOk C17.P C17.K := by
  have hm : ConMon (Con.srt (A := S.A) 37 66 Q52 R52) := trivial
  have h1 : KOk P7 [(65, Con.srt (A := S.A) 37 66 Q52 R52)] := kk1 (And.intro h52 hm)
  have h2 : KOk P7 [(110, ctr P7 [35] [22] W66), (109, ctr P7 [35] [25, 4] W65), (70, ctr P7 [35] [35] W62), (59, ctr P7 [22] [4] W27), (65, Con.srt (A := S.A) 37 66 Q52 R52)] := kok_cons ok66 (kok_cons ok65 (kok_cons ok62 (kok_cons ok27 h1)))
  exact h2
theorem pf17 (h52 : ConOk P7 65 (.srt (A := S.A) 37 66 Q52 R52)) (x : List Int) (hp : P17 x) : PFk (S := S) C17.P 20 ((argsA C17 [⟨35, x⟩]).map stripA) (fun q => q = tupA (encL C17.P [29, 62] (S17 x : HR S [29, 62]))) := by
  have hm := main17 x hp (S17 x) (Eq.refl (S17 x))
  unfold Xg17 at hm
  refine pf_defer (C := C17) (n := 8) (f := 20) (fn := fn17) (D := D17) (args := argsA C17 [⟨35, x⟩]) (rts := [29, 62]) (y := S17 x) (kk17 h52) mx7 ?_ ?_ ?_ ?_ ?_ ?_ ?_ ?_ ?_ ?_ ?_ ?_ (argsA_plain _) ((Ab.look C17.ann 20).getD []) ?_
  case refine_13 => assumption
  all_goals kernel_rfl
theorem run17 (h52 : ConOk P7 65 (.srt (A := S.A) 37 66 Q52 R52)) : RunP C17 20 [29, 62] [35] W17 [] :=
  fun (x : List Int) hx hp => pf17 h52 x (hp _ rfl)
abbrev Ok17 : Prop := ConOk P7 20 (ctr P7 [35] [29, 62] W17) ∧ ConMon (ctr P7 [35] [29, 62] W17)
theorem ok17 (h52 : ConOk P7 65 (.srt (A := S.A) 37 66 Q52 R52)) : Ok17 := con_okP (C := C17) (run17 h52)
end Go.Rx
/-! The sort of the raws: plain facts. -/
namespace Go.Rx
open Go.Ab Go.L7 Go.Sort
set_option linter.unusedVariables false
/-- A raw as the heap holds it: every value one cell, the type a byte. -/
abbrev RA := Int × Fin 256 × Option Addr × Nat × Nat
def encR (x : RA) : List Value := [.int .i64 x.1, .int .i64 (x.2.1.val : Int), .slice x.2.2.1 x.2.2.2.1 x.2.2.2.2]
def cfR (x y : RA) : Int := RowKit.wrap64 ((x.2.1.val : Int) - (y.2.1.val : Int))
theorem ltR (x y : RA) : Go.Proofs.ltOf cfR x y = decide (x.2.1.val < y.2.1.val) := by
  have hx := x.2.1.isLt
  have hy := y.2.1.isLt
  unfold Go.Proofs.ltOf cfR
  rw [show RowKit.wrap64 ((x.2.1.val : Int) - (y.2.1.val : Int)) = (x.2.1.val : Int) - (y.2.1.val : Int) by unfold RowKit.wrap64; omega]
  by_cases h : x.2.1.val < y.2.1.val
  · rw [decide_eq_true h, decide_eq_true (by omega)]
  · rw [decide_eq_false h, decide_eq_false (by omega)]
theorem swoR : SWO (Go.Proofs.ltOf cfR) where
  irrefl x := by rw [ltR]; simp
  trans x y z h1 h2 := by rw [ltR] at *; simp at *; omega
  ntrans x y z h1 h2 := by rw [ltR] at *; simp at *; omega
/-- Every raw of a list, with what the heap holds of it. -/
theorem pairsR {imm : Imm} : ∀ (l : List api_Raw) (vs : List Value), (∀ r ∈ l, 0 ≤ r.fType ∧ r.fType ≤ 255) → RepL noT (gh imm) (l.flatMap (S.E 37).pv) vs → ∃ D : List (api_Raw × RA), D.map (·.1) = l ∧ vs = (D.map (·.2)).flatMap encR ∧ ∀ p ∈ D, RepL noT (gh imm) ((S.E 37).pv p.1) (encR p.2) ∧ p.1.fType = (p.2.2.1.val : Int)
  | [], vs, _, h => ⟨[], rfl, h, fun p hp => by cases hp⟩
  | r :: l, vs, ht, h => by
    obtain ⟨v1, vs1, rfl, h1, _, v2, vs2, rfl, h2, _, v3, vs3, rfl, h3, o3, h4⟩ := h
    obtain ⟨D, e1, e2, e3⟩ := pairsR l vs3 (fun r hr => ht r (by simp [hr])) h4
    have h1 : v1 = .int .i64 r.fFlags := h1
    have h2 : v2 = .int .i64 r.fType := h2
    have h3c := h3
    obtain ⟨A, c, h3', _⟩ := h3
    have hr := ht r (by simp)
    refine ⟨(r, (r.fFlags, ⟨r.fType.toNat, by omega⟩, A, r.fData.length, c)) :: D, by simp [e1], ?_, ?_⟩
    · rw [List.map_cons, List.flatMap_cons, ← e2, h1, h2, h3']
      show _ = [_, _, _] ++ vs3
      have : ((r.fType.toNat : Nat) : Int) = r.fType := by omega
      simp only [encR, this]
      rfl
    · intro p hp
      rcases List.mem_cons.1 hp with rfl | hp
      · have e : ((r.fType.toNat : Nat) : Int) = r.fType := by omega
        refine ⟨?_, e.symm⟩
        refine ⟨_, _, rfl, ?_, rfl, _, _, rfl, ?_, rfl, _, _, rfl, ?_, rfl, rfl⟩
        · rfl
        · show Value.int .i64 ((r.fType.toNat : Nat) : Int) = _
          rw [e]
        · have := h3c
          rw [h3'] at this
          exact this
      · exact e3 p hp
/-- Pairs follow a permutation of their second halves. -/
theorem perm_lift {α β : Type} {D : List (α × β)} : ∀ {m m' : List β}, m.Perm m' → ∀ D : List (α × β), D.map (·.2) = m → ∃ D' : List (α × β), D'.Perm D ∧ D'.map (·.2) = m'
  | _, _, .nil, D, h => ⟨D, .refl _, h⟩
  | _, _, .cons x h, D, e => by
    cases D with
    | nil => cases e
    | cons p D =>
      simp only [List.map_cons, List.cons.injEq] at e
      obtain ⟨D', h1, h2⟩ := perm_lift (D := D) h D e.2
      exact ⟨p :: D', .cons _ h1, by simp [e.1, h2]⟩
  | _, _, .swap x y l, D, e => by
    cases D with
    | nil => cases e
    | cons p D =>
      cases D with
      | nil => simp at e
      | cons q D =>
        simp only [List.map_cons, List.cons.injEq] at e
        exact ⟨q :: p :: D, .swap _ _ _, by simp [e.1, e.2.1, e.2.2]⟩
  | _, _, .trans h1 h2, D, e => by
    obtain ⟨D1, a1, a2⟩ := perm_lift (D := D) h1 D e
    obtain ⟨D2, b1, b2⟩ := perm_lift (D := D) h2 D1 a2
    exact ⟨D2, b1.trans a1, b2⟩
theorem repR {imm : Imm} : ∀ (D : List (api_Raw × RA)), (∀ p ∈ D, RepL noT (gh imm) ((S.E 37).pv p.1) (encR p.2)) → RepL noT (gh imm) ((D.map (·.1)).flatMap (S.E 37).pv) ((D.map (·.2)).flatMap encR)
  | [], _ => rfl
  | p :: D, h => by
    have h1 := h p (by simp)
    have h2 := repR D fun q hq => h q (by simp [hq])
    obtain ⟨v1, vs1, e1, k1, o1, v2, vs2, e2, k2, o2, v3, vs3, e3, k3, o3, e4⟩ := h1
    subst e4 e3 e2
    show RepL noT (gh imm) ((S.E 37).pv p.1 ++ (D.map (·.1)).flatMap (S.E 37).pv) (encR p.2 ++ (D.map (·.2)).flatMap encR)
    rw [e1]
    exact ⟨v1, _, rfl, k1, o1, v2, _, rfl, k2, o2, v3, _, rfl, k3, o3, h2⟩
theorem encR_len (x : RA) : (encR x).length = 3 := rfl
theorem flat_get : ∀ (l : List RA) (t : Nat), t < l.length * 3 → (l.flatMap encR)[t]? = (encR (l.getD (t / 3) default))[t % 3]?
  | [], t, h => by simp at h
  | x :: l, t, h => by
    by_cases ht : t < 3
    · rw [List.flatMap_cons, List.getElem?_append_left (by rw [encR_len]; exact ht), show t / 3 = 0 by omega, show t % 3 = t by omega]; rfl
    · rw [List.flatMap_cons, List.getElem?_append_right (by rw [encR_len]; omega), encR_len, flat_get l (t - 3) (by simp at h; omega)]
      obtain ⟨q, hq⟩ : ∃ q, t / 3 = q + 1 := ⟨t / 3 - 1, by omega⟩
      rw [show (t - 3) / 3 = q by omega, show (t - 3) % 3 = t % 3 by omega, hq]
      rfl
theorem flatK_get (l : List RA) (t : Nat) (h : t < l.length * 3) : (l.flatMap encR)[t]? = some (Go.Sort.flatK encR 3 l.toArray)[t]! := by
  rw [Go.Sort.get_flatK encR 3 l.toArray t (by simpa using h), flat_get l t h]
  have e : (l.toArray)[t / 3]! = l.getD (t / 3) default := by
    rw [getElem!_def]
    simp only [List.getElem?_toArray, List.getD_eq_getElem?_getD]
    cases l[t / 3]? <;> rfl
  rw [e]
  have : t % 3 < (encR (l.getD (t / 3) default)).length := by rw [encR_len]; omega
  rw [getElem!_def, List.getElem?_eq_getElem this]
end Go.Rx
namespace Go.Rx
open Go.Ab Go.L7 Go.Sort
set_option linter.unusedVariables false
theorem world_sorted {w : World} {b n : Nat} {cs : Array Value} {ty : TypeId} {os : Array Obj} {F : Array Value} (hcs : w.heap[b]? = some (.cells cs ty (0, 0))) :
    (grow (putRow id (Sort.ahead w n) b 0 F) os).os = w.os ∧ (grow (putRow id (Sort.ahead w n) b 0 F) os).tape = w.tape ∧ (grow (putRow id (Sort.ahead w n) b 0 F) os).output = w.output ∧ w.heap.size ≤ (grow (putRow id (Sort.ahead w n) b 0 F) os).heap.size ∧
    (grow (putRow id (Sort.ahead w n) b 0 F) os).heap[b]? = some (.cells (putCells id 0 F cs) ty (0, 0)) ∧ ∀ k, k < w.heap.size → k ≠ b → (grow (putRow id (Sort.ahead w n) b 0 F) os).heap[k]? = w.heap[k]? := by
  have hb : b < w.heap.size := (Array.getElem?_eq_some_iff.1 hcs).1
  have hh : (grow (putRow id (Sort.ahead w n) b 0 F) os).heap = w.heap.modify b (onCells (putCells id 0 F)) ++ os := rfl
  refine ⟨rfl, rfl, rfl, by rw [hh]; simp, ?_, fun k hk hne => ?_⟩
  · rw [hh, Array.getElem?_append_left (by simpa using hb), Array.getElem?_modify, if_pos rfl, hcs]
    rfl
  · rw [hh, Array.getElem?_append_left (by simpa using hk), Array.getElem?_modify, if_neg (fun e => hne e.symm)]
theorem putCells_take {F cs : Array Value} (h : F.size ≤ cs.size) : (putCells id 0 F cs).size = cs.size ∧ (putCells id 0 F cs).toList.take F.size = F.toList := by
  refine ⟨by simp [putCells], ?_⟩
  apply List.ext_getElem?
  intro i
  rw [List.getElem?_take]
  by_cases hi : i < F.size
  · rw [if_pos hi]
    have : i < cs.size := by omega
    simp only [putCells, Array.getElem?_toList, Array.getElem?_mapIdx, Array.getElem?_eq_getElem this, Option.map_some, Array.getElem?_eq_getElem hi]
    rw [if_pos ⟨Nat.zero_le _, by omega⟩]
    simp [hi]
  · rw [if_neg hi]
    rw [Array.getElem?_toList, Array.getElem?_eq_none (by omega)]
theorem flatK_list (l : List RA) : (flatK encR 3 l.toArray).toList = l.flatMap encR := by
  have hl : (l.flatMap encR).length = l.length * 3 := by
    induction l with
    | nil => rfl
    | cons x l ih => rw [List.flatMap_cons, List.length_append, ih, encR_len, List.length_cons]; omega
  apply List.ext_getElem?
  intro i
  by_cases hi : i < l.length * 3
  · rw [flatK_get l i hi, Array.getElem?_toList, Array.getElem?_eq_getElem (by simpa using hi), getElem!_pos _ i (by simpa using hi)]
  · rw [List.getElem?_eq_none (by rw [Array.length_toList, size_flatK]; simp; omega), List.getElem?_eq_none (by rw [hl]; omega)]
/-- The row, held. -/
theorem holdsR {w : World} {b : Nat} {cs : Array Value} {ty : TypeId} {l : List RA} (hcs : w.heap[b]? = some (.cells cs ty (0, 0))) (hle : l.length * 3 ≤ cs.size) (ht : cs.toList.take (l.length * 3) = l.flatMap encR) : HoldsK encR 3 w b 0 l.toArray := by
  intro j hj
  rw [size_flatK] at hj
  have hj' : j < l.length * 3 := by simpa using hj
  refine ⟨?_, ?_⟩
  · have h1 := flatK_get l j hj'
    rw [← ht, List.getElem?_take, if_pos hj', Array.getElem?_toList] at h1
    show w.cell? ⟨b, 0 + j, none⟩ = some (flatK encR 3 l.toArray)[j]!
    rw [← h1]
    simp [World.cell?, hcs]
  · simp [World.frozen?, hcs]
end Go.Rx
namespace Go.Rx
open Go.Ab Go.L7 Go.Sort
set_option linter.unusedVariables false
/-- What the shelf says of the sort at this program. -/
def SortSays (P : Program) : Prop := ∀ (b c : Nat) (d : Array RA) (w : World), HoldsK encR 3 w b 0 d → b < w.heap.size → d.size < 4611686018427387904 →
  Calls P 65 #[.slice (some ⟨b, 0, none⟩) d.size c, .func (.func 66) #[] #[]] w fun e w' => e = .returned (.tuple #[]) ∧ ∃ (d' : Array RA) (n : Nat) (os : Array Obj), PermIn 0 d.size d d' ∧ SortedIn (Go.Proofs.ltOf cfR) 0 d.size d' ∧ w' = grow (putRowK encR 3 (Sort.ahead w n) b 0 d') os
theorem sort52 {P : Program} (hnil : ∀ w, Calls P 65 #[.slice none 0 0, .func (.func 66) #[] #[]] w fun e w' => e = .returned (.tuple #[]) ∧ w' = w) (hs : SortSays P) : SortOk (S := S) P 65 37 66 Q52 R52 := by
  refine ⟨fun w => (hnil w).mono ?_, ?_⟩
  · rintro e w' ⟨rfl, rfl⟩
    exact ⟨rfl, rfl, rfl, rfl, Nat.le_refl _, fun _ _ => rfl⟩
  · intro imm w b c cs ty (l : List api_Raw) hQ hok hgl himm hcs hR hlc hc9 hcsz
    obtain ⟨hl1, hl2⟩ : l.length ≤ 1000 ∧ ∀ r ∈ l, 0 ≤ r.fType ∧ r.fType ≤ 255 := hQ
    have hsz : szOf S 37 = 3 := rfl
    rw [hsz] at hR hcsz ⊢
    have hR : RepL noT (gh imm) (l.flatMap (S.E 37).pv) (cs.toList.take (l.length * 3)) := hR
    have hlc : l.length ≤ c := hlc
    obtain ⟨D, e1, e2, e3⟩ := pairsR l _ hl2 hR
    have hDl : D.length = l.length := by have := congrArg List.length e1; simpa using this
    have hle : l.length * 3 ≤ cs.size := by omega
    have hH : HoldsK encR 3 w b 0 (D.map (·.2)).toArray := holdsR hcs (by simpa [hDl] using hle) (by rw [List.length_map, hDl]; exact e2)
    have hcall := hs b c (D.map (·.2)).toArray w hH (Array.getElem?_eq_some_iff.1 hcs).1 (by simp [hDl]; omega)
    have hds : (D.map (·.2)).toArray.size = l.length := by simp [hDl]
    rw [hds] at hcall
    refine hcall.mono ?_
    rintro e w' ⟨rfl, d', n, os, ⟨p1, p2, p3⟩, hso, rfl⟩
    rw [hds] at p1
    have hp : d'.toList.Perm (D.map (·.2)) := by
      have h1 : (d'.extract 0 l.length).toList = d'.toList := by rw [← p1]; simp
      have h2 : ((D.map (·.2)).toArray.extract 0 l.length).toList = D.map (·.2) := by
        have key : ∀ (X : Array RA), (X.extract 0 X.size).toList = X.toList := fun X => by simp
        rw [← hds]; exact key _
      rw [h1, h2] at p3
      exact p3
    obtain ⟨D', f1, f2⟩ := perm_lift (D := D) hp.symm D rfl
    have g3 : ∀ p ∈ D', RepL noT (gh imm) ((S.E 37).pv p.1) (encR p.2) ∧ p.1.fType = (p.2.2.1.val : Int) := fun p hp => e3 p (f1.mem_iff.1 hp)
    have hD'l : D'.length = l.length := by rw [f1.length_eq, hDl]
    have hflat : (flatK encR 3 d').toList = (D'.map (·.2)).flatMap encR := by
      have := flatK_list d'.toList
      rw [show d'.toList.toArray = d' by simp] at this
      rw [this, f2]
    have hFs : (flatK encR 3 d').size = l.length * 3 := by rw [size_flatK, p1]
    obtain ⟨k1, k2, k3, k4, k5, k6⟩ := world_sorted (n := n) (os := os) (F := flatK encR 3 d') hcs
    obtain ⟨m1, m2⟩ := putCells_take (F := flatK encR 3 d') (cs := cs) (by omega)
    have hpw : List.Pairwise (fun (x y : api_Raw) => x.fType ≤ y.fType) (D'.map (·.1)) := by
      rw [List.pairwise_iff_getElem]
      intro i j hi hj hij
      rw [List.length_map] at hi hj
      have h1 := hso i j (Nat.zero_le _) hij (by omega)
      rw [ltR] at h1
      have gi : ∀ (i : Nat) (hi : i < D'.length), d'[i]! = D'[i].2 := by
        intro i hi
        have : d'.toList[i]? = some D'[i].2 := by rw [← f2, List.getElem?_map, List.getElem?_eq_getElem hi]; rfl
        rw [getElem!_def]
        rw [Array.getElem?_toList] at this
        rw [this]
      rw [gi i hi, gi j hj] at h1
      have t1 := (g3 _ (List.getElem_mem hi)).2
      have t2 := (g3 _ (List.getElem_mem hj)).2
      rw [List.getElem_map, List.getElem_map, t1, t2]
      have h1 := of_decide_eq_false h1
      omega
    have hrep0 : RepL noT (gh imm) ((D'.map (·.1)).flatMap (S.E 37).pv) ((putCells id 0 (flatK encR 3 d') cs).toList.take (l.length * 3)) := by
      rw [← hFs, m2, hflat]
      exact repR D' fun p hp => (g3 p hp).1
    obtain ⟨L', hL⟩ : ∃ L' : List api_Raw, L' = D'.map (·.1) := ⟨_, rfl⟩
    have hrep : RepL noT (gh imm) (L'.flatMap (S.E 37).pv) ((putCells id 0 (flatK encR 3 d') cs).toList.take (l.length * 3)) := by rw [hL]; exact hrep0
    have hperm : (D'.map (·.1)).Perm l := by rw [← e1]; exact f1.map _
    rw [← hL] at hpw hperm
    exact ⟨rfl, L', putCells id 0 (flatK encR 3 d') cs, hperm, hpw, k1, k2, k3, k4, k5, by rw [m1]; exact hcsz, hrep, k6⟩
end Go.Rx
namespace Go.Proofs
open Go.Shelf Go.RowKit Go.Lib Go.Sort
set_option maxHeartbeats 1000000 in
theorem YtadjcpiiagkdeaaGreatDoor.closure53 (f t f' t' : Int) (v v' : Value) (W : World) : Calls Tryz.prog 66 #[.agg #[.int .i64 f, .int .i64 t, v], .agg #[.int .i64 f', .int .i64 t', v']] W fun e w' => e = .returned (.int .i64 (Go.RowKit.wrap64 (t - t'))) ∧ ∃ q os', w' = grow (W.drewN q) os' := by
  go_enter Tryz.func66, Tryz.ntmps66
  go_wp2
  go_ret
  exact ⟨rfl, 0, _, by rw [alloc_eq_grow, alloc_eq_grow, grow_grow]; rfl⟩
end Go.Proofs
namespace Go.Proofs
open Go.RowKit
theorem YtadjcpiiagkdeaaGreatDoor.isAgg45 (w : World) : (isAgg 37).run Tryz.prog w = .ok true w := by kernel_rfl
theorem YtadjcpiiagkdeaaGreatDoor.sizeOf45 (w : World) : (Go.sizeOf 37).run Tryz.prog w = .ok 3 w := by kernel_rfl
theorem YtadjcpiiagkdeaaGreatDoor.eg53 : ∀ (args : Array Value) (w : World), (callFunc 66 args).run Tryz.prog w = .ok (.enter 66 args) w := enters_of Tryz.func66 (by kernel_rfl) rfl
end Go.Proofs
/- The sort of the raws, laid at this program (plain text, printed by the kit's own tool). -/
namespace Go.Proofs
open Go.Shelf
def YtadjcpiiagkdeaaGreatDoor.sortRaw_ren : Go.Shelf.Ren := ⟨fun | 6 => 65 | 15 => 91 | 14 => 90 | 28 => 120 | 29 => 104 | 20 => 112 | 21 => 113 | 22 => 114 | 23 => 115 | 24 => 116 | 25 => 117 | 26 => 118 | 27 => 119 | 46 => 125 | 47 => 126 | 48 => 127 | 49 => 128 | 50 => 129 | 57 => 130 | n => n, fun | 22 => 27 | 24 => 37 | 25 => 114 | 3 => 3 | 39 => 100 | 0 => 0 | 53 => 22 | 55 => 85 | 4 => 4 | 46 => 160 | 45 => 159 | 50 => 164 | 5 => 5 | 9 => 9 | 66 => 172 | 70 => 176 | 76 => 180 | 77 => 181 | n => n, fun | n => n⟩
theorem YtadjcpiiagkdeaaGreatDoor.sortRaw : Go.Proofs.SlLaysF0.n6 Tryz.prog YtadjcpiiagkdeaaGreatDoor.sortRaw_ren := {
  mixed := by kernel_rfl
  f6 := ⟨Tryz.f65.name, by decide, Tryz.func65.trans (congrArg some (by kernel_rfl))⟩
  f14 := ⟨Tryz.f90.name, by decide, Tryz.func90.trans (congrArg some (by kernel_rfl))⟩
  f15 := Tryz.func91.trans (congrArg some (by kernel_rfl))
  f20 := ⟨Tryz.f112.name, by decide, Tryz.func112.trans (congrArg some (by kernel_rfl))⟩
  f21 := ⟨Tryz.f113.name, by decide, Tryz.func113.trans (congrArg some (by kernel_rfl))⟩
  f22 := ⟨Tryz.f114.name, by decide, Tryz.func114.trans (congrArg some (by kernel_rfl))⟩
  f23 := ⟨Tryz.f115.name, by decide, Tryz.func115.trans (congrArg some (by kernel_rfl))⟩
  f24 := ⟨Tryz.f116.name, by decide, Tryz.func116.trans (congrArg some (by kernel_rfl))⟩
  f25 := ⟨Tryz.f117.name, by decide, Tryz.func117.trans (congrArg some (by kernel_rfl))⟩
  f26 := ⟨Tryz.f118.name, by decide, Tryz.func118.trans (congrArg some (by kernel_rfl))⟩
  f27 := ⟨Tryz.f119.name, by decide, Tryz.func119.trans (congrArg some (by kernel_rfl))⟩
  f28 := Tryz.func120.trans (congrArg some (by kernel_rfl))
  f29 := Tryz.func104.trans (congrArg some (by kernel_rfl))
  f46 := ⟨Tryz.f125.name, by decide, Tryz.func125.trans (congrArg some (by kernel_rfl))⟩
  f47 := Tryz.func126.trans (congrArg some (by kernel_rfl))
  f48 := Tryz.func127.trans (congrArg some (by kernel_rfl))
  f49 := ⟨Tryz.f128.name, by decide, Tryz.func128.trans (congrArg some (by kernel_rfl))⟩
  f50 := ⟨Tryz.f129.name, by decide, Tryz.func129.trans (congrArg some (by kernel_rfl))⟩
  f57 := ⟨Tryz.f130.name, by decide, Tryz.func130.trans (congrArg some (by kernel_rfl))⟩
  t0 := Tryz.underlying0
  a0 := Tryz.isAgg0
  z0 := Tryz.sizeOf0
  v0 := Tryz.zeroValue0
  t3 := Tryz.underlying3
  a3 := Tryz.isAgg3
  z3 := Tryz.sizeOf3
  v3 := Tryz.zeroValue3
  t4 := Tryz.underlying4
  a4 := Tryz.isAgg4
  z4 := Tryz.sizeOf4
  v4 := Tryz.zeroValue4
  t5 := Tryz.underlying5
  a5 := Tryz.isAgg5
  z5 := Tryz.sizeOf5
  v5 := Tryz.zeroValue5
  t9 := Tryz.underlying9
  a9 := Tryz.isAgg9
  z9 := Tryz.sizeOf9
  v9 := Tryz.zeroValue9
  t22 := Tryz.underlying27
  a22 := Tryz.isAgg27
  z22 := Tryz.sizeOf27
  v22 := Tryz.zeroValue27
  t25 := Tryz.underlying114
  a25 := Tryz.isAgg114
  z25 := Tryz.sizeOf114
  v25 := Tryz.zeroValue114
  t39 := Tryz.underlying100
  a39 := Tryz.isAgg100
  z39 := Tryz.sizeOf100
  v39 := Tryz.zeroValue100
  t45 := Tryz.underlying159
  a45 := Tryz.isAgg159
  z45 := Tryz.sizeOf159
  v45 := Tryz.zeroValue159
  t46 := Tryz.underlying160
  a46 := Tryz.isAgg160
  z46 := Tryz.sizeOf160
  v46 := Tryz.zeroValue160
  t50 := Tryz.underlying164
  a50 := Tryz.isAgg164
  z50 := Tryz.sizeOf164
  v50 := Tryz.zeroValue164
  t53 := Tryz.underlying22
  a53 := Tryz.isAgg22
  z53 := Tryz.sizeOf22
  v53 := Tryz.zeroValue22
  t55 := Tryz.underlying85
  a55 := Tryz.isAgg85
  z55 := Tryz.sizeOf85
  v55 := Tryz.zeroValue85
  t66 := Tryz.underlying172
  a66 := Tryz.isAgg172
  z66 := Tryz.sizeOf172
  v66 := Tryz.zeroValue172
  t70 := Tryz.underlying176
  a70 := Tryz.isAgg176
  z70 := Tryz.sizeOf176
  v70 := Tryz.zeroValue176
  t76 := Tryz.underlying180
  a76 := Tryz.isAgg180
  z76 := Tryz.sizeOf180
  v76 := Tryz.zeroValue180
  t77 := Tryz.underlying181
  a77 := Tryz.isAgg181
  z77 := Tryz.sizeOf181
  v77 := Tryz.zeroValue181 }
end Go.Proofs
namespace Go.Rx
open Go.Ab Go.L7 Go.Sort Go.Proofs
theorem says52 : SortSays P7 := by
  intro b c d w hH hb hs
  have hcmp : CmpLays Tryz.prog 66 #[] encR 3 cfR b 0 d.size w := fun _ _ _ _ x y => YtadjcpiiagkdeaaGreatDoor.closure53 _ _ _ _ _ _ _
  exact AnyQ.slices_SortFunc YtadjcpiiagkdeaaGreatDoor.sortRaw 3 YtadjcpiiagkdeaaGreatDoor.isAgg45 YtadjcpiiagkdeaaGreatDoor.sizeOf45 encR (fun _ => rfl) (fun x v hv => by simp [encR] at hv; rcases hv with rfl | rfl | rfl <;> rfl) cfR swoR 66 #[] b 0 c d w YtadjcpiiagkdeaaGreatDoor.eg53 hcmp hH hb hs
end Go.Rx
namespace Go.Rx
open Go.Ab Go.L7 Go.Sort Go.Proofs
theorem nil52 (w : World) : Calls P7 65 #[.slice none 0 0, .func (.func 66) #[] #[]] w fun e w' => e = .returned (.tuple #[]) ∧ w' = w :=
  AnyF.slices_SortFunc_none YtadjcpiiagkdeaaGreatDoor.sortRaw none 0 (.func (.func 66) #[] #[]) w
theorem h52 : ConOk P7 65 (.srt (A := S.A) 37 66 Q52 R52) := sort52 nil52 says52
end Go.Rx
namespace Go.Rx
open Go.Ab Go.L7 Go.L21
set_option maxRecDepth 100000
set_option maxHeartbeats 20000000
set_option linter.unusedVariables false
/-- interregnum/row.Route -/
noncomputable def C505 : Cfg S := { P := P7, inl := [], K := [(16, ctr P7 [29] [35] (fun x0 => (some (P12 x0), S12 x0))), (13, ctr P7 [45] [9] (fun x0 => (some (P314 x0), S314 x0))), (14, ctr P7 [22] [9] (fun x0 => (some (P339 x0), S339 x0))), (15, ctr P7 [3] [9] (fun x0 => (some (P340 x0), S340 x0)))], ann := [] }
abbrev W505 : CT S [9] [31] := (fun x0 => (some (P505 x0), S505 x0))
abbrev Ok505 : Prop := ConOk P7 5 (ctr P7 [31] [9] W505) ∧ ConMon (ctr P7 [31] [9] W505)
theorem q505 (x0 : api_Route) (v : HR S [9]) : (Xf C505 6 (emp 0) 5 (argsA C505 [⟨31, x0⟩]) (emp 0) (fun r _ => isR C505.P [9] v r) (fun _ _ => False)) = (((0
 : Int) ≤ x0.fPrefix.fAddr ∧ x0.fPrefix.fAddr ≤ (4294967295 : Int)) ∧ ((-9223372036854775808 : Int) ≤ x0.fPrefix.fLen ∧ x0.fPrefix.fLen ≤ (9223372036854775807
 : Int)) ∧ ((-9223372036854775808 : Int) ≤ x0.fPeer ∧ x0.fPeer ≤ (9223372036854775807 : Int)) ∧ ((-9223372036854775808 : Int) ≤ x0.fStale ∧ x0.fStale ≤
 (9223372036854775807 : Int)) ∧ (x0.fAttrs.fPath.length ≤ nat_lit 1099511627776 ∧ x0.fAttrs.fRaws.length ≤ nat_lit 1073741824) ∧ (textsL [S339
 x0.fPrefix.fAddr, S340 x0.fPrefix.fLen, S340 x0.fPeer, S340 x0.fStale, bsOf (List.map (fun (x : Int) => x) (S12 x0.fAttrs))]).length.le (nat_lit
 70368744177664) ∧ S314 [S339 x0.fPrefix.fAddr, S340 x0.fPrefix.fLen, S340 x0.fPeer, S340 x0.fStale, bsOf (List.map (fun (x : Int) => x) (S12 x0.fAttrs))] = v)
 := by kernel_rfl
end Go.Rx
namespace Go.Rx
open Go.Ab Go.L7 Go.L21
set_option maxRecDepth 100000
set_option maxHeartbeats 20000000
set_option linter.unusedVariables false
/-- interregnum/interregnumref11.Route -/
noncomputable def C507 : Cfg S := { P := P7, inl := [], K := [(25, ctr P7 [29] [35] (fun x0 => (some (P16 x0), S16 x0))), (24, ctr P7 [3] [9] (fun x0 => (some (P338 x0), S338 x0))), (23, ctr P7 [45] [9] (fun x0 => (some (P317 x0), S317 x0)))], ann := [] }
abbrev W507 : CT S [9] [31] := (fun x0 => (some (P507 x0), S507 x0))
abbrev Ok507 : Prop := ConOk P7 7 (ctr P7 [31] [9] W507) ∧ ConMon (ctr P7 [31] [9] W507)
theorem q507 (x0 : api_Route) (v : HR S [9]) : (Xf C507 6 (emp 0) 7 (argsA C507 [⟨31, x0⟩]) (emp 0) (fun r _ => isR C507.P [9] v r) (fun _ _ => False)) =
 (((-9223372036854775808 : Int) ≤ IntKind.i64.wrap x0.fPrefix.fAddr ∧ IntKind.i64.wrap x0.fPrefix.fAddr ≤ (9223372036854775807 : Int)) ∧ ((-9223372036854775808
 : Int) ≤ x0.fPrefix.fLen ∧ x0.fPrefix.fLen ≤ (9223372036854775807 : Int)) ∧ ((-9223372036854775808 : Int) ≤ x0.fPeer ∧ x0.fPeer ≤ (9223372036854775807 : Int))
 ∧ ((-9223372036854775808 : Int) ≤ x0.fStale ∧ x0.fStale ≤ (9223372036854775807 : Int)) ∧ (x0.fAttrs.fPath.length ≤ nat_lit 1099511627776 ∧
 x0.fAttrs.fRaws.length ≤ nat_lit 1073741824) ∧ (textsL [S338 (IntKind.i64.wrap x0.fPrefix.fAddr), S338 x0.fPrefix.fLen, S338 x0.fPeer, S338 x0.fStale, bsOf
 (List.map (fun (x : Int) => x) (S16 x0.fAttrs))]).length.le (nat_lit 70368744177664) ∧ S317 [S338 (IntKind.i64.wrap x0.fPrefix.fAddr), S338 x0.fPrefix.fLen,
 S338 x0.fPeer, S338 x0.fStale, bsOf (List.map (fun (x : Int) => x) (S16 x0.fAttrs))] = v) := by kernel_rfl
end Go.Rx
namespace Go.Rx
open Go.Ab Go.L7 Go.L21
set_option maxRecDepth 100000
set_option maxHeartbeats 20000000
set_option linter.unusedVariables false
/-- interregnum/row.ReadRoute -/
noncomputable def C506 : Cfg S := { P := P7, inl := [], K := [(20, ctr P7 [35] [29, 62] (fun x0 => (some (P17 x0), S17 x0))), (10, ctr P7 [9] [45, 4] (fun x0 => (some (P315 x0), S315 x0))), (21, ctb (S := S) P7 67 [] [9] (fun z => (none, (S358 z).1, (S358 z).2))), (19, ctb (S := S) P7 67 [] [3] (fun z => (some (P344 z), (S344 z).1, (S344 z).2))), (18, ctb (S := S) P7 67 [] [24] (fun z => (some (P342 z), (S342 z).1, (S342 z).2))), (22, ctr P7 [31] [31] (fun x0 => (some (P522 x0), S522 x0))), (5, ctr P7 [31] [9] (fun x0 => (some (P505 x0), S505 x0)))], ann := [] }
abbrev W506 : CT S [31, 4] [9] := (fun x0 => (some (P506 x0), S506 x0))
abbrev Ok506 : Prop := ConOk P7 6 (ctr P7 [9] [31, 4] W506) ∧ ConMon (ctr P7 [9] [31, 4] W506)
theorem q506 (x0 : ByteArray) (v : HR S [31, 4]) : (Xf C506 9 (emp 0) 6 (argsA C506 [⟨9, x0⟩]) (emp 0) (fun r _ => isR C506.P [31, 4] v r) (fun _ _ => False))
 = (x0.size.le (nat_lit 1099511627776) ∧ PR (row_reader.mk (S315 x0).fst (!(S315 x0).snd || !decide ((↑(S315 x0).fst.length : Int) = (5 : Int)))) ∧ ∀ (u :
 row_reader), u = (S342 (row_reader.mk (S315 x0).fst (!(S315 x0).snd || !decide ((↑(S315 x0).fst.length : Int) = (5 : Int))))).snd → PR u ∧ ∀ (u_1 :
 row_reader), u_1 = (S344 u).snd → PR u_1 ∧ ∀ (u_2 : row_reader), u_2 = (S344 u_1).snd → ∀ (u_3 : row_reader), u_3 = (S358 u_2).snd → (S358 u_2).fst.size ≤
 nat_lit 9223372036854775807 ∧ ((List.map (fun (c : UInt8) => (↑c.toNat : Int)) (S358 u_2).fst.data.toList).length ≤ nat_lit 549755813888 ∧ ∀ (c : Int),
 List.Mem c (List.map (fun (c : UInt8) => (↑c.toNat : Int)) (S358 u_2).fst.data.toList) → (0 : Int) ≤ c ∧ c ≤ (255 : Int)) ∧ bif u_3.fbad || !decide ((S17
 (List.map (fun (c : UInt8) => (↑c.toNat : Int)) (S358 u_2).fst.data.toList)).snd.fCode = (0 : Int)) then (api_Route.mk (api_Prefix.mk (0 : Int) (0 : Int)) (0
 : Int) (api_Attrs.mk (0 : Int) [] (0 : Int) (0 : Int) (0 : Int) [] []) (0 : Int), false) = v else OkRt (api_Route.mk (S342 (row_reader.mk (S315 x0).fst
 (!(S315 x0).snd || !decide ((↑(S315 x0).fst.length : Int) = (5 : Int))))).fst (S344 u).fst (S17 (List.map (fun (c : UInt8) => (↑c.toNat : Int)) (S358
 u_2).fst.data.toList)).fst (S344 u_1).fst) ∧ bif !(S505 (api_Route.mk (S342 (row_reader.mk (S315 x0).fst (!(S315 x0).snd || !decide ((↑(S315 x0).fst.length :
 Int) = (5 : Int))))).fst (S344 u).fst (S17 (List.map (fun (c : UInt8) => (↑c.toNat : Int)) (S358 u_2).fst.data.toList)).fst (S344 u_1).fst)).toList ==
 x0.toList then (api_Route.mk (api_Prefix.mk (0 : Int) (0 : Int)) (0 : Int) (api_Attrs.mk (0 : Int) [] (0 : Int) (0 : Int) (0 : Int) [] []) (0 : Int), false) =
 v else FitA (S17 (List.map (fun (c : UInt8) => (↑c.toNat : Int)) (S358 u_2).fst.data.toList)).fst ∧ (api_Route.mk (S342 (row_reader.mk (S315 x0).fst (!(S315
 x0).snd || !decide ((↑(S315 x0).fst.length : Int) = (5 : Int))))).fst (S344 u).fst (S17 (List.map (fun (c : UInt8) => (↑c.toNat : Int)) (S358
 u_2).fst.data.toList)).fst (S344 u_1).fst, true) = v) := by kernel_rfl
end Go.Rx
/-! Routes as rows, and back. -/
namespace Go.Rx
open Go.Ab Go.L7 Go.L21
set_option linter.unusedVariables false
set_option maxRecDepth 100000
theorem bsOf_push : ∀ (l : List Int) (r : ByteArray), l.foldl (fun r n => r.push (UInt8.ofNat n.toNat)) r = ⟨r.data ++ (l.map fun n => UInt8.ofNat n.toNat).toArray⟩
  | [], r => by simp
  | c :: l, r => by
    show l.foldl _ (r.push (UInt8.ofNat c.toNat)) = _
    rw [bsOf_push l]
    apply ByteArray.ext
    show (r.data.push _) ++ _ = r.data ++ _
    simp
theorem bsOf_eq (l : List Int) : bsOf l = bs (l.map fun n => UInt8.ofNat n.toNat) := by
  unfold bsOf
  rw [bsOf_push]
  apply ByteArray.ext
  show ByteArray.empty.data ++ _ = _
  simp [bs]
theorem toI_bs {l : List Int} (h : By l) : List.map (fun (c : UInt8) => (c.toNat : Int)) (bsOf l).data.toList = l := by
  rw [bsOf_eq, data_bs, List.map_map]
  conv => rhs; rw [← List.map_id l]
  refine List.map_congr_left fun c hc => ?_
  have := h c hc
  show ((UInt8.ofNat c.toNat).toNat : Int) = c
  rw [UInt8.toNat_ofNat', Nat.mod_eq_of_lt (by omega)]
  omega
theorem bsOf_size (l : List Int) : (bsOf l).size = l.length := by rw [bsOf_eq, size_bs, List.length_map]
theorem rt_len {r : api_Route} (h : OkRt r) : (textsL (rtL r)).length ≤ 500000000 := by
  obtain ⟨h1, h2, h3, h4, h5, h6⟩ := h
  have t1 := text_len (p333 h1)
  have t2 := text_len h2
  have t3 := text_len h3
  have t4 := text_len h4
  have t5 : (textL (bsOf (S12 r.fAttrs))).length ≤ 400000100 := by
    have e := bsOf_size (S12 r.fAttrs)
    have hl := h6.1
    have := itoa_len (n := ((bsOf (S12 r.fAttrs)).size : Int)) ⟨by omega, by omega⟩
    have e2 := Lib.size_eq (bsOf (S12 r.fAttrs))
    rw [textL, List.length_append, List.length_cons, ← e2]
    omega
  have e : textsL (rtL r) = textL (S333 r.fPrefix.fAddr) ++ (textL (S333 r.fPrefix.fLen) ++ (textL (S333 r.fPeer) ++ (textL (S333 r.fStale) ++ (textL (bsOf (S12 r.fAttrs)) ++ [])))) := rfl
  rw [e]
  simp only [List.length_append, List.length_nil]
  omega
theorem run505 : RunC C505 6 5 [9] [31] W505 [] := by
  intro (r : api_Route) hx hp
  have hr : OkRt r := hp _ rfl
  have hl := rt_len hr
  obtain ⟨h1, h2, h3, h4, h5, h6⟩ := hr
  refine of_eq (q505 r _) ⟨h1, h2, h3, h4, h5, ?_, ?_⟩
  · rw [List.map_id']
    show (textsL (rtL r)).length ≤ 70368744177664
    omega
  · rw [List.map_id']; rfl
theorem ok505 : Ok505 := by
  refine con_ok (C := C505) (kok_cons ok12 (kok_cons ok314 (kok_cons ok339 (kk1 ok340)))) mx7 (by kernel_rfl) run505
theorem run507 : RunC C507 6 7 [9] [31] W507 [] := by
  intro (r : api_Route) hx hp
  have hr : OkRt r := hp _ rfl
  have hl := rt_len hr
  obtain ⟨h1, h2, h3, h4, h5, h6⟩ := hr
  have hw : IntKind.i64.wrap r.fPrefix.fAddr = r.fPrefix.fAddr := wrap64 (by omega)
  refine of_eq (q507 r _) ?_
  rw [hw, List.map_id']
  refine ⟨p333 h1, h2, h3, h4, h5, ?_, rfl⟩
  show (textsL (rtL r)).length ≤ 70368744177664
  omega
theorem ok507 : Ok507 := by
  refine con_ok (C := C507) (kok_cons ok16 (kok_cons ok338 (kk1 ok317))) mx7 (by kernel_rfl) run507
theorem read_good {a : api_Attrs} (hok : api_Attrs.ok a) (hs : S10 a = true) (h : S13 a = true) : S17 (S12 a) = (a, ⟨0, 0, []⟩) := by
  have g := gd_of hok hs h
  rw [its_bytes g h, read_perm g (.refl _)]
theorem enc_bad {a : api_Attrs} (h : S13 a = false) : S12 a = [] := by unfold S12; rw [if_neg (by rw [h]; decide)]
theorem read_nil : S17 [] = throwN 3 [1] := rfl
theorem fit_of {a : api_Attrs} (hok : api_Attrs.ok a) (hs : S10 a = true) (h : S13 a = true) : FitA a := by
  have hl := small_len hok hs
  have g := gd_of hok hs h
  refine ⟨by omega, by omega, by omega, fun s hm => ?_, fun r hm => ?_⟩
  · have hp : S26 a.fPath = true := g.p
    have := (goodP_spec a.fPath 0 hp (by omega) (by omega)).2 s hm
    omega
  · have h28 := rawsUp_all g.r r hm
    rcases S28_cases h28 with ⟨_, _, e⟩ | ⟨_, _, e⟩ | e
    · rw [e]; show 0 ≤ 1073741824; omega
    · rw [e]; omega
    · have := e.2.2.2; omega
theorem s506 (r : api_Route) : S506 (S505 r) = rtOf (rtL r) := by
  unfold S506; rw [lk_eq, show S315 (S505 r) = (rtL r, true) from split_texts _]
theorem run506 : RunC C506 9 6 [31, 4] [9] W506 [] := by
  intro (x0 : ByteArray) _ hp
  obtain ⟨r, hr, rfl, hok, hsm⟩ : IsRt x0 := hp _ rfl
  refine of_eq (q506 (S505 r) _) ?_
  have e5 : S315 (S505 r) = (rtL r, true) := split_texts _
  have hl := rt_len hr
  obtain ⟨hA, hL, hP, hS, h5, h6⟩ := id hr
  have hpA := p333 hA
  have eb := toI_bs h6.2
  have esz := bsOf_size (S12 r.fAttrs)
  have hm : ∀ s ∈ rtL r, s.size ≤ 1099511627776 := by
    intro s hs
    simp only [rtL, List.mem_cons, List.not_mem_nil, or_false] at hs
    rcases hs with rfl | rfl | rfl | rfl | rfl
    · exact sz333 hpA
    · exact sz333 hL
    · exact sz333 hP
    · exact sz333 hS
    · rw [esz]; have := h6.1; omega
  have e0 : (row_reader.mk (S315 (S505 r)).fst (!(S315 (S505 r)).snd || !decide (((S315 (S505 r)).fst.length : Int) = (5 : Int)))) = ⟨[S333 r.fPrefix.fAddr, S333 r.fPrefix.fLen, S333 r.fPeer, S333 r.fStale, bsOf (S12 r.fAttrs)], false⟩ := by
    rw [e5]; rfl
  have hsz : (S505 r).size ≤ 1099511627776 := by
    show (bs (textsL (rtL r))).size ≤ _
    rw [size_bs]; omega
  have hfin : S506 (S505 r) = bif decide ((S17 (S12 r.fAttrs)).2.fCode = 0) then (⟨⟨r.fPrefix.fAddr, r.fPrefix.fLen⟩, r.fPeer, (S17 (S12 r.fAttrs)).1, r.fStale⟩, true) else (r0, false) := by
    rw [s506]
    show (bif decide ((S17 (toI (bsOf (S12 r.fAttrs)))).2.fCode = 0) then ((⟨⟨valU (S333 _), valI (S333 _)⟩, valI (S333 _), (S17 (toI (bsOf (S12 r.fAttrs)))).1, valI (S333 _)⟩ : api_Route), true) else (r0, false)) = _
    unfold valU valI toI
    rw [s357_of hA, s337_of hL, s337_of hP, s337_of hS, eb]
  show _ ∧ _
  rw [e0]
  have m2 : PR ⟨[S333 r.fPeer, S333 r.fStale, bsOf (S12 r.fAttrs)], false⟩ := pr_of fun s hs => hm s (List.mem_cons_of_mem _ (List.mem_cons_of_mem _ hs))
  have m3 : PR ⟨[S333 r.fStale, bsOf (S12 r.fAttrs)], false⟩ := pr_of fun s hs => hm s (List.mem_cons_of_mem _ (List.mem_cons_of_mem _ (List.mem_cons_of_mem _ hs)))
  rw [rd342 _ hA hL]
  refine ⟨hsz, pr_of hm, fun u hu => ?_⟩
  subst hu
  rw [rd344 _ hP]
  refine ⟨m2, fun u hu => ?_⟩
  subst hu
  rw [rd344 _ hS]
  refine ⟨m3, fun u hu => ?_⟩
  subst hu
  have e8 : S358 ⟨[bsOf (S12 r.fAttrs)], false⟩ = (bsOf (S12 r.fAttrs), ⟨[], false⟩) := rfl
  rw [e8]
  intro u hu
  subst hu
  dsimp only
  rw [eb]
  refine ⟨?_, ⟨?_, h6.2⟩, ?_⟩
  · show _ ≤ 9223372036854775807
    rw [esz]; have := h6.1; omega
  · show _ ≤ 549755813888
    have := h6.1; omega
  cases hg : S13 r.fAttrs
  · have e1 : S17 (S12 r.fAttrs) = throwN 3 [1] := by rw [enc_bad hg]; exact read_nil
    show (bif false || !decide ((S17 (S12 r.fAttrs)).snd.fCode = 0) then _ else _)
    rw [e1] at hfin ⊢
    exact hfin.symm
  · have e1 := read_good hok hsm hg
    show (bif false || !decide ((S17 (S12 r.fAttrs)).snd.fCode = 0) then _ else _)
    rw [e1] at hfin ⊢
    refine ⟨hr, ?_⟩
    have hbeq : ((S505 r).toList == (S505 r).toList) = true := beq_self_eq_true _
    show (bif !((S505 r).toList == (S505 r).toList) then _ else _)
    rw [hbeq]
    exact ⟨fit_of hok hsm hg, hfin.symm⟩
theorem ok506 : Ok506 := by
  refine con_ok (C := C506) (kok_cons (ok17 h52) (kok_cons ok315 (kok_cons ok358 (kok_cons ok344 (kok_cons ok342 (kok_cons ok522 (kk1 ok505))))))) mx7 (by kernel_rfl) run506
end Go.Rx
namespace Go.Rx
open Go.Ab Go.L7 Go.L21
set_option maxRecDepth 100000
set_option maxHeartbeats 20000000
set_option linter.unusedVariables false
/-- interregnum/interregnumref11.SameRoute -/
noncomputable def C509 : Cfg S := { P := P7, inl := [], K := [(28, ctr P7 [29, 29] [4] (fun x0 x1 => (none, S18 x0 x1)))], ann := [] }
abbrev W509 : CT S [4] [31, 31] := (fun x0 x1 => (none, S509 x0 x1))
abbrev Ok509 : Prop := ConOk P7 9 (ctr P7 [31, 31] [4] W509) ∧ ConMon (ctr P7 [31, 31] [4] W509)
theorem q509 (x0 : api_Route) (x1 : api_Route) (v : HR S [4]) : (Xf C509 6 (emp 0) 9 (argsA C509 [⟨31, x0⟩, ⟨31, x1⟩]) (emp 0) (fun r _ => isR C509.P [4] v r)
 (fun _ _ => False)) = (bif decide (x0.fPrefix.fAddr = x1.fPrefix.fAddr) && (decide (x0.fPrefix.fLen = x1.fPrefix.fLen) && true) && decide (x0.fPeer =
 x1.fPeer) && decide (x0.fStale = x1.fStale) then S18 x0.fAttrs x1.fAttrs = v else false = v) := by kernel_rfl
end Go.Rx
namespace Go.Rx
open Go.Ab Go.L7 Go.L21
set_option maxRecDepth 100000
set_option maxHeartbeats 20000000
set_option linter.unusedVariables false
/-- interregnum/interregnumlaw21.answers -/
noncomputable def C313 : Cfg S := { P := P7, inl := [], K := [(13, ctr P7 [45] [9] (fun x0 => (some (P314 x0), S314 x0))), (10, ctr P7 [9] [45, 4] (fun x0 => (some (P315 x0), S315 x0))), (12, ctr P7 [49] [9] (fun x0 => (some (P319 x0), S319 x0))), (11, ctr P7 [9] [49, 4] (fun x0 => (some (P320 x0), S320 x0)))], ann := [] }
abbrev W313 : CT S [4] [] := (none, S313)
abbrev Ok313 : Prop := ConOk P7 4 (ctr P7 [] [4] W313) ∧ ConMon (ctr P7 [] [4] W313)
theorem q313 (v : HR S [4]) : (Xf C313 6 (emp 0) 4 (argsA C313 []) (emp 0) (fun r _ => isR C313.P [4] v r) (fun _ _ => False)) = (Nat.le (nat_lit 6) (nat_lit
 1099511627776) ∧ (((0 : Int) ≤ (0 : Int) ∧ (0 : Int) ≤ (4294967295 : Int)) ∧ ((-9223372036854775808 : Int) ≤ (0 : Int) ∧ (0 : Int) ≤ (9223372036854775807 :
 Int)) ∧ ((0 : Int) ≤ (7 : Int) ∧ (7 : Int) ≤ (4294967295 : Int)) ∧ ((-9223372036854775808 : Int) ≤ (0 : Int) ∧ (0 : Int) ≤ (9223372036854775807 : Int)) ∧
 (-9223372036854775808 : Int) ≤ (0 : Int) ∧ (0 : Int) ≤ (9223372036854775807 : Int)) ∧ (∃ (h : api_Hop), (((0 : Int) ≤ h.fPrefix.fAddr ∧ h.fPrefix.fAddr ≤
 (4294967295 : Int)) ∧ ((-9223372036854775808 : Int) ≤ h.fPrefix.fLen ∧ h.fPrefix.fLen ≤ (9223372036854775807 : Int)) ∧ ((0 : Int) ≤ h.fNext ∧ h.fNext ≤
 (4294967295 : Int)) ∧ ((-9223372036854775808 : Int) ≤ h.fPeer ∧ h.fPeer ≤ (9223372036854775807 : Int)) ∧ (-9223372036854775808 : Int) ≤ h.fStale ∧ h.fStale ≤
 (9223372036854775807 : Int)) ∧ S319 (api_Hop.mk (api_Prefix.mk (0 : Int) (0 : Int)) (7 : Int) (0 : Int) (0 : Int)) = S319 h) ∧ (true = true → (0 : Int) ≤ (0 :
 Int) ∧ (0 : Int) < (↑(nat_lit 2) : Int)) ∧ Nat.le (nat_lit 6) (nat_lit 70368744177664) ∧ true = v) := by kernel_rfl
end Go.Rx
namespace Go.Rx
open Go.Ab Go.L7 Go.L21
set_option maxRecDepth 100000
set_option maxHeartbeats 20000000
set_option linter.unusedVariables false
/-- interregnum/interregnumlaw21.RowRoutes -/
noncomputable def C503 : Cfg S := { P := P7, inl := [], K := [(8, ctr P7 [29] [4] (fun x0 => (none, S14 x0))), (5, ctr P7 [31] [9] (fun x0 => (some (P505 x0), S505 x0))), (7, ctr P7 [31] [9] (fun x0 => (some (P507 x0), S507 x0))), (6, ctr P7 [9] [31, 4] (fun x0 => (some (P506 x0), S506 x0))), (9, ctr P7 [31, 31] [4] (fun x0 x1 => (none, S509 x0 x1))), (4, ctr P7 [] [4] (none, S313))], ann := [(3, [(7, .loop [(.sl 3, .int .i64), (.sl 5, .int .i64)]), (3, .loop [(.sl 3, .int .i64), (.sl 4, .int .i64)])])] }
abbrev W503 : CT S [4] [31] := (fun x0 => (some (P503 x0), S503 x0))
abbrev Ok503 : Prop := ConOk P7 3 (ctr P7 [31] [4] W503) ∧ ConMon (ctr P7 [31] [4] W503)
theorem q503 (x0 : api_Route) (v : HR S [4]) : (Xf C503 9 (emp 0) 3 (argsA C503 [⟨31, x0⟩]) (emp 0) (fun r _ => isR C503.P [4] v r) (fun _ _ => False)) = (LOOP
 (fun (h : Int × Int) (J : Int × Int → Prop) => bif decide (h.snd < (↑x0.fAttrs.fPath.length : Int)) && decide (h.fst < (3000 : Int)) then ((0 : Int) ≤ h.snd ∧
 h.snd < (↑x0.fAttrs.fPath.length : Int)) ∧ J (IntKind.i64.wrap (h.fst + (↑(ix x0.fAttrs.fPath h.snd).fAS.length : Int)), IntKind.i64.wrap (h.snd + (1 : Int)))
 else LOOP (fun (h : Int × Int) (J : Int × Int → Prop) => bif decide (h.snd < (↑x0.fAttrs.fRaws.length : Int)) && decide (h.fst < (3000 : Int)) then ((0 : Int)
 ≤ h.snd ∧ h.snd < (↑x0.fAttrs.fRaws.length : Int)) ∧ J (IntKind.i64.wrap (h.fst + (↑(ix x0.fAttrs.fRaws h.snd).fData.length : Int)), IntKind.i64.wrap (h.snd +
 (1 : Int))) else bif decide ((3000 : Int) ≤ h.fst) then true = v else OkRt x0 ∧ IsRt (S505 x0) ∧ OkRt x0 ∧ bif !(S505 x0).toList == (S507 x0).toList then
 false = v else bif !decide ((S506 (S505 x0)).snd = S14 x0.fAttrs) then false = v else bif !(S506 (S505 x0)).snd then bif S509 (S506 (S505 x0)).fst
 (api_Route.mk (api_Prefix.mk (0 : Int) (0 : Int)) (0 : Int) (api_Attrs.mk (0 : Int) [] (0 : Int) (0 : Int) (0 : Int) [] []) (0 : Int)) then true = v else bif
 (S506 (S505 x0)).snd then S509 (S506 (S505 x0)).fst x0 = v else false = v else bif (S506 (S505 x0)).snd then S509 (S506 (S505 x0)).fst x0 = v else false = v)
 (h.fst, (0 : Int))) (IntKind.i64.wrap (IntKind.i64.wrap ((↑x0.fAttrs.fPath.length : Int) + (↑x0.fAttrs.fComms.length : Int)) + (↑x0.fAttrs.fRaws.length :
 Int)), (0 : Int))) := by kernel_rfl
end Go.Rx
/-! The law RowRoutes. -/
namespace Go.Rx
open Go.Ab Go.L7 Go.L21
set_option linter.unusedVariables false
set_option maxRecDepth 100000
theorem route_ext (a b : api_Route) : a = b ↔ a.fPrefix.fAddr = b.fPrefix.fAddr ∧ a.fPrefix.fLen = b.fPrefix.fLen ∧ a.fPeer = b.fPeer ∧ a.fStale = b.fStale ∧ a.fAttrs = b.fAttrs := by
  obtain ⟨⟨a1, a2⟩, a3, a4, a5⟩ := a
  obtain ⟨⟨b1, b2⟩, b3, b4, b5⟩ := b
  simp only [api_Route.mk.injEq, api_Prefix.mk.injEq]
  constructor
  · rintro ⟨⟨h1, h2⟩, h3, h4, h5⟩; exact ⟨h1, h2, h3, h5, h4⟩
  · rintro ⟨h1, h2, h3, h4, h5⟩; exact ⟨⟨h1, h2⟩, h3, h5, h4⟩
theorem run509 : RunC C509 6 9 [4] [31, 31] W509 [] := by
  intro (a : api_Route) _ (b : api_Route) _ hp
  refine of_eq (q509 a b _) ?_
  have h := route_ext a b
  refine bif_of (fun hc => ?_) (fun hc => ?_)
  · simp only [Bool.and_eq_true, decide_eq_true_eq, Bool.and_true] at hc
    show decide (a.fAttrs = b.fAttrs) = decide (a = b)
    rw [decide_eq_decide, h]
    exact ⟨fun e => ⟨hc.1.1.1, hc.1.1.2, hc.1.2, hc.2, e⟩, fun e => e.2.2.2.2⟩
  · show false = decide (a = b)
    symm
    rw [decide_eq_false_iff_not, h]
    rintro ⟨e1, e2, e3, e4, -⟩
    rw [decide_eq_true e1, decide_eq_true e2, decide_eq_true e3, decide_eq_true e4] at hc
    cases hc
theorem ok509 : Ok509 := by
  refine con_ok (C := C509) (kk1 ok18) mx7 (by kernel_rfl) run509
theorem run313 : RunC C313 6 4 [4] [] W313 [] := by
  intro hp
  refine of_eq (q313 _) ⟨show (6 : Nat) ≤ 1099511627776 by decide, ⟨⟨by decide, by decide⟩, ⟨by decide, by decide⟩, ⟨by decide, by decide⟩, ⟨by decide, by decide⟩, by decide, by decide⟩, ⟨_, ⟨⟨by decide, by decide⟩, ⟨by decide, by decide⟩, ⟨by decide, by decide⟩, ⟨by decide, by decide⟩, by decide, by decide⟩, rfl⟩, fun _ => ⟨by decide, by decide⟩, show (6 : Nat) ≤ 70368744177664 by decide, rfl⟩
theorem ok313 : Ok313 := by
  refine con_ok (C := C313) (kok_cons ok314 (kok_cons ok315 (kok_cons ok319 (kk1 ok320)))) mx7 (by kernel_rfl) run313
/-- Two loops that count, and what is behind them. -/
theorem small_loop (a : api_Attrs) (hp : a.fPath.length ≤ 9223372036854775807) (hr : a.fRaws.length ≤ 9223372036854775807) (R : Int → Prop) (h0 : ∀ n : Int, decide (n < 3000) = S10 a → R n) :
    LOOP (fun (h : Int × Int) (J : Int × Int → Prop) => bif decide (h.snd < (a.fPath.length : Int)) && decide (h.fst < (3000 : Int)) then ((0 : Int) ≤ h.snd ∧ h.snd < (a.fPath.length : Int)) ∧ J (IntKind.i64.wrap (h.fst + ((ix a.fPath h.snd).fAS.length : Int)), IntKind.i64.wrap (h.snd + (1 : Int)))
      else LOOP (fun (h : Int × Int) (J : Int × Int → Prop) => bif decide (h.snd < (a.fRaws.length : Int)) && decide (h.fst < (3000 : Int)) then ((0 : Int) ≤ h.snd ∧ h.snd < (a.fRaws.length : Int)) ∧ J (IntKind.i64.wrap (h.fst + ((ix a.fRaws h.snd).fData.length : Int)), IntKind.i64.wrap (h.snd + (1 : Int)))
        else R h.fst) (h.fst, (0 : Int)))
    (IntKind.i64.wrap (IntKind.i64.wrap ((a.fPath.length : Int) + (a.fComms.length : Int)) + (a.fRaws.length : Int)), (0 : Int)) := by
  generalize hv : S10 a = v at h0
  unfold S10 at hv
  have two : ∀ n : Int, decide (smallR a.fRaws n < 3000) = v → LOOP (fun (h : Int × Int) (J : Int × Int → Prop) => bif decide (h.snd < (a.fRaws.length : Int)) && decide (h.fst < (3000 : Int)) then ((0 : Int) ≤ h.snd ∧ h.snd < (a.fRaws.length : Int)) ∧ J (IntKind.i64.wrap (h.fst + ((ix a.fRaws h.snd).fData.length : Int)), IntKind.i64.wrap (h.snd + (1 : Int)))
        else R h.fst) (n, 0) := by
    intro n hn
    refine listLoop (l := a.fRaws) hr (fun (n : Int) i => (n, i)) (fun y => y.2) (fun _ _ => rfl) (fun i r n => decide (smallR r n < 3000) = v) hn ?_ ?_
    · rintro n i s r J k1 k2 k3 k4 k5 k6 hJ
      refine bif_of (fun h => ⟨⟨k1, k2⟩, ?_⟩) (fun h => ?_)
      · simp only [Bool.and_eq_true, decide_eq_true_eq] at h
        have : smallR (s :: r) n = smallR r (w64 (n + s.fData.length)) := by simp [smallR, h.2]
        rw [this] at k6
        simp only [k3]
        exact hJ _ k6
      · have h : ¬ n < 3000 := by simp only [Bool.and_eq_false_iff, decide_eq_false_iff_not] at h; omega
        rw [smallR_big _ h] at k6
        exact h0 n k6
    · rintro n i J rfl h
      have h : decide (n < 3000) = v := h
      refine bif_of (fun h => ?_) (fun _ => h0 n h)
      simp only [Bool.and_eq_true, decide_eq_true_eq] at h
      omega
  refine listLoop (l := a.fPath) hp (fun (n : Int) i => (n, i)) (fun y => y.2) (fun _ _ => rfl) (fun i r n => decide (smallR a.fRaws (smallP r n) < 3000) = v) (s0 := w64 (w64 (a.fPath.length + a.fComms.length) + a.fRaws.length)) hv ?_ ?_
  · rintro n i s r J k1 k2 k3 k4 k5 k6 hJ
    refine bif_of (fun h => ⟨⟨k1, k2⟩, ?_⟩) (fun h => ?_)
    · simp only [Bool.and_eq_true, decide_eq_true_eq] at h
      have : smallP (s :: r) n = smallP r (w64 (n + s.fAS.length)) := by simp [smallP, h.2]
      rw [this] at k6
      simp only [k3]
      exact hJ _ k6
    · have h : ¬ n < 3000 := by simp only [Bool.and_eq_false_iff, decide_eq_false_iff_not] at h; omega
      rw [smallP_big _ h] at k6
      exact two n k6
  · rintro n i J rfl h
    refine bif_of (fun h => ?_) (fun _ => two n h)
    simp only [Bool.and_eq_true, decide_eq_true_eq] at h
    omega
theorem okRt_of {r : api_Route} (h : P503 r) (hs : S10 r.fAttrs = true) : OkRt r := by
  obtain ⟨h1, h2, h3, h4, h5⟩ := h
  have hl := small_len h5 hs
  exact ⟨h1, h2, h3, h4, ⟨by omega, by omega⟩, S12_len h5 hs⟩
theorem law503 (r : api_Route) (h : P503 r) (hs : S10 r.fAttrs = true) : S506 (S505 r) = bif S13 r.fAttrs then (r, true) else (r0, false) := by
  have hr := okRt_of h hs
  obtain ⟨h1, h2, h3, h4, h5⟩ := h
  obtain ⟨_, _, _, _, _, h6⟩ := hr
  have eb := toI_bs h6.2
  have hfin : S506 (S505 r) = bif decide ((S17 (S12 r.fAttrs)).2.fCode = 0) then (⟨⟨r.fPrefix.fAddr, r.fPrefix.fLen⟩, r.fPeer, (S17 (S12 r.fAttrs)).1, r.fStale⟩, true) else (r0, false) := by
    rw [s506]
    show (bif decide ((S17 (toI (bsOf (S12 r.fAttrs)))).2.fCode = 0) then ((⟨⟨valU (S333 _), valI (S333 _)⟩, valI (S333 _), (S17 (toI (bsOf (S12 r.fAttrs)))).1, valI (S333 _)⟩ : api_Route), true) else (r0, false)) = _
    unfold valU valI toI
    rw [s357_of h1, s337_of h2, s337_of h3, s337_of h4, eb]
  cases hg : S13 r.fAttrs
  · rw [hfin, enc_bad hg, read_nil]; rfl
  · rw [hfin, read_good h5 hs hg]; rfl
theorem run503 : RunC C503 9 3 [4] [31] W503 [] := by
  intro (r : api_Route) hx hp
  have h : P503 r := hp _ rfl
  have hok : api_Attrs.ok r.fAttrs := h.2.2.2.2
  have l2 : r.fAttrs.fPath.length ≤ 140737488351232 := hok.2.1.1
  have l3 : r.fAttrs.fRaws.length ≤ 140737488351232 := hok.2.2.2.2.2.2.1
  refine of_eq (q503 r true) ?_
  refine small_loop r.fAttrs (by omega) (by omega) (fun n => bif decide ((3000 : Int) ≤ n) then true = true else (OkRt r ∧ IsRt (S505 r) ∧ OkRt r ∧ (bif !(S505 r).toList == (S507 r).toList then false = true else bif !decide ((S506 (S505 r)).snd = S14 r.fAttrs) then false = true else bif !(S506 (S505 r)).snd then bif S509 (S506 (S505 r)).fst r0 then true = true else bif (S506 (S505 r)).snd then S509 (S506 (S505 r)).fst r = true else false = true else bif (S506 (S505 r)).snd then S509 (S506 (S505 r)).fst r = true else false = true))) (fun n hn => ?_)
  refine bif_of (fun _ => rfl) (fun hs => ?_)
  have hs : S10 r.fAttrs = true := by
    rw [← hn, decide_eq_true_eq]
    have := of_decide_eq_false hs
    omega
  have hr := okRt_of h hs
  have hb : ((S505 r).toList == (S507 r).toList) = true := beq_self_eq_true _
  refine ⟨hr, ⟨r, hr, rfl, hok, hs⟩, hr, ?_⟩
  rw [hb, law503 r h hs, show S14 r.fAttrs = S13 r.fAttrs from rfl]
  cases S13 r.fAttrs
  · show (bif S509 r0 r0 then true = true else false = true)
    rw [show S509 r0 r0 = true from decide_eq_true rfl]
    rfl
  · show S509 r r = true
    exact decide_eq_true rfl
theorem ok503 : Ok503 := by
  refine con_ok (C := C503) (kok_cons ok14 (kok_cons ok505 (kok_cons ok507 (kok_cons ok506 (kok_cons ok509 (kk1 ok313)))))) mx7 (by kernel_rfl) run503
end Go.Rx
/-! What the law RowRoutes hands back. -/
namespace Go.Rx
open Go.Ab Go.L21
set_option maxRecDepth 100000
theorem con503 : ∀ (args : List (AV S.A)) (k : AV S.A → Prop), appC (S := S) P7 [4] [31] W503 args k → PFk (S := S) P7 3 (args.map stripA) k := ok503.1
theorem pf503 (x0 : api_Route) (h : P503 x0) : PFk (S := S) P7 3 ([argA (S := S) P7 31 x0].map stripA) (fun q => q = .sc (.bool true)) := by
  refine con503 [argA (S := S) P7 31 x0] _ ?_
  show withP (some (P503 x0)) _
  exact ⟨h, rfl⟩
theorem strip503 (x0 : api_Route) : [argA (S := S) P7 31 x0].map stripA = [.agg (api_Route.cells x0)] := by kernel_rfl
end Go.Rx
namespace Go.Proofs.YtadjcpiiagkdeaaGreatDoor
open Go.Ab Go.Rx Go.L21
theorem RowRoutes_ok (x0 : api_Route) (o0 : api_Route.ok x0) : PFg S P7 3 [.agg (api_Route.cells x0)] (.sc (.bool true)) := by
  have h := pf_of_pfk (pf503 x0 (rt_ok o0))
  rw [strip503] at h
  exact h
end Go.Proofs.YtadjcpiiagkdeaaGreatDoor
