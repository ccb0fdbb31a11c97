import Derived.Test.YtadjcpiiagkdeaaDoorV6
set_option linter.unusedVariables false
set_option linter.unusedSimpArgs false
/-! script.Print, with the builder of the library. -/
set_option linter.unusedVariables false
namespace Go.Proofs
open Go.Shelf Go.RowKit Go.Sort Go.Lib
open Go.L21 Go.Rx
def stepV (x : api_Step) (v3 v6 v7 : Value) : List Value := [.int .i64 x.fKind, .int .i64 x.fA, .int .i64 x.fB, v3, .int .i64 x.fPeer.fNum, .int .i64 x.fPeer.fAS, v6, v7, .int .u32 x.fPrefix.fAddr, .int .i64 x.fPrefix.fLen, .int .u32 x.fNext, .int .u64 x.fKeep]
def stepAt (w : World) (A : Option Addr) (xs : List api_Step) (j : Nat) (x : api_Step) : Prop :=
  ∃ bk o A3 n3 c3 A6 n6 c6 A7 n7 c7, A = some ⟨bk, o, none⟩ ∧ bk < w.heap.size ∧ (∀ i v, (stepV x (.slice A3 n3 c3) (.slice A6 n6 c6) (.slice A7 n7 c7))[i]? = some v → w.cell? ⟨bk, o + j * 12 + i, none⟩ = some v) ∧
    ∀ wr, Below w.heap.size w wr → Calls Tryd.prog 47 #[.agg (stepV x (.slice A3 n3 c3) (.slice A6 n6 c6) (.slice A7 n7 c7)).toArray] wr fun e w' => e = .returned (.string (S347 x)) ∧ Below wr.heap.size wr w'
theorem isB_keep {T e : TypeId} {B b : Nat} {bs : List Value} {w w' : World} (h : Lib.IsBuilder T e B b bs w) (hb : Below w.heap.size w w') : Lib.IsBuilder T e B b bs w' := by
  have key : ∀ p, Lib.BuilderAt T e B b p bs w → Lib.BuilderAt T e B b p bs w' := by
    rintro p ⟨hB, v, h1, ⟨h2, h3⟩, h4⟩
    refine ⟨hB, v, by rw [hb.block b (Array.getElem?_eq_some_iff.1 h1).1]; exact h1, ⟨h2, ?_⟩, h4⟩
    rcases h3 with h3 | ⟨g, cap, cur, hv, hbg, hg, r⟩
    · exact .inl h3
    · exact .inr ⟨g, cap, cur, hv, hbg, by rw [hb.block g (Array.getElem?_eq_some_iff.1 hg).1]; exact hg, r⟩
  exact h.elim (fun h => .inl (key _ h)) (fun h => .inr (key _ h))
theorem isB_alloc {T e : TypeId} {B b : Nat} {bs : List Value} {w : World} (h : Lib.IsBuilder T e B b bs w) (o : Obj) : Lib.IsBuilder T e B b bs (w.alloc o) :=
  isB_keep h ((Below.refl _ w).alloc (Nat.le_refl _) o)
set_option maxHeartbeats 4000000 in
set_option maxRecDepth 100000 in
theorem Tryd.print_walk (A : Option Addr) (c : Nat) (xs : List api_Step) (w : World) (hlen : (linesL xs).length ≤ 4000000)
    (hcells : ∀ (j : Nat) x, xs[j]? = some x → stepAt w A xs j x) :
    Calls Tryd.prog 28 #[.slice A xs.length c] w fun e w' => e = .returned (.string ⟨(linesL xs).toArray⟩) ∧ Below w.heap.size w w' := by
  have HC := hidT hcells
  have HL := hidT hlen
  have hxl := lines_num xs
  have hxl2 : xs.length ≤ 4000000 := by omega
  clear hcells hlen hxl
  go_enter Tryd.func28, Tryd.ntmps28
  go_wp2
  go_loopw [8] (fun i wr => ∃ k : Nat, k ≤ xs.length ∧ i = .int .i64 k ∧ Hid (Lib.IsBuilder 65 5 w.heap.size w.heap.size (Lib.byteCells (linesL (xs.take k))) wr) ∧ Hid (Below w.heap.size w wr)) (fun i _ => xs.length - (RowKit.intOf i).toNat)
  case atStart => exact ⟨0, Nat.zero_le _, rfl, hidT (Lib.fresh_isBuilder 65 5 w), hidT ((Below.refl _ w).alloc (Nat.le_refl _) _)⟩
  case round =>
    obtain ⟨k, hk, rfl, HB, HW⟩ := hrel
    by_cases hkr : k < xs.length
    · obtain ⟨y, hy⟩ : ∃ y, xs[k]? = some y := ⟨xs[k], List.getElem?_eq_getElem hkr⟩
      obtain ⟨bk, o, A3, n3, c3, A6, n6, c6, A7, n7, c7, rfl, hbk, hcy, hcall⟩ := HC.out k y hy
      have HY := hidT hcall
      clear hcall
      have hcy : ∀ i v, (stepV y (.slice A3 n3 c3) (.slice A6 n6 c6) (.slice A7 n7 c7))[i]? = some v → wr.cell? ⟨bk, o + k * 12 + i, none⟩ = some v := fun i v hv => by
        rw [HW.out.cell (p := ⟨bk, o + k * 12 + i, none⟩) hbk]; exact hcy i v hv
      have h0 : wr.cell? ⟨bk, o + k * 12, none⟩ = some (.int .i64 y.fKind) := hcy 0 _ rfl
      have h1 : wr.cell? ⟨bk, o + k * 12 + 1, none⟩ = some (.int .i64 y.fA) := hcy 1 _ rfl
      have h2 : wr.cell? ⟨bk, o + k * 12 + 2, none⟩ = some (.int .i64 y.fB) := hcy 2 _ rfl
      have h3 : wr.cell? ⟨bk, o + k * 12 + 3, none⟩ = some (.slice A3 n3 c3) := hcy 3 _ rfl
      have h4 : wr.cell? ⟨bk, o + k * 12 + 4, none⟩ = some (.int .i64 y.fPeer.fNum) := hcy 4 _ rfl
      have h5 : wr.cell? ⟨bk, o + k * 12 + 5, none⟩ = some (.int .i64 y.fPeer.fAS) := hcy 5 _ rfl
      have h6 : wr.cell? ⟨bk, o + k * 12 + 6, none⟩ = some (.slice A6 n6 c6) := hcy 6 _ rfl
      have h7 : wr.cell? ⟨bk, o + k * 12 + 7, none⟩ = some (.slice A7 n7 c7) := hcy 7 _ rfl
      have h8 : wr.cell? ⟨bk, o + k * 12 + 8, none⟩ = some (.int .u32 y.fPrefix.fAddr) := hcy 8 _ rfl
      have h9 : wr.cell? ⟨bk, o + k * 12 + 9, none⟩ = some (.int .i64 y.fPrefix.fLen) := hcy 9 _ rfl
      have h10 : wr.cell? ⟨bk, o + k * 12 + 10, none⟩ = some (.int .u32 y.fNext) := hcy 10 _ rfl
      have h11 : wr.cell? ⟨bk, o + k * 12 + 11, none⟩ = some (.int .u64 y.fKeep) := hcy 11 _ rfl
      unfold stepV at HY
      clear hcy
      have hBw : w.heap.size ≤ wr.heap.size := HW.out.size
      have hnext : Lib.byteCells (linesL (xs.take k)) ++ Lib.strCells (S347 y) = Lib.byteCells (linesL (xs.take (k + 1))) := by
        rw [steps_take hy, Lib.strCells_eq, Lib.byteCells_append]; rfl
      have hl := lines_le xs (k + 1)
      have hl2 := HL.out
      rw [steps_take hy] at hl
      have hS : (S347 y).size = (lineL y).length := size_bs _
      simp only [List.length_append, ← hS] at hl
      have hl0 : (Lib.byteCells (linesL (xs.take k))).length = (linesL (xs.take k)).length := Lib.byteCells_length _
      have Hn := hidT hnext
      have Hl := hidT (show (Lib.byteCells (linesL (xs.take k))).length + (S347 y).size ≤ 140737488355328 by omega)
      clear hnext hl hl2 hS hl0
      clear hy
      go_wp2_with (go_at_call 47; refine (HY.out _ ?_).mono ?_)
      · exact HW.out.trans ((Below.refl _ wr).alloc (Nat.le_refl _) _ |>.mono hBw)
      intro e w1 hh
      obtain ⟨rfl, hb1⟩ := hh
      have HW0 := hidT (HW.out.trans ((Below.refl _ wr).alloc (Nat.le_refl _) (Obj.cells (stepV y (.slice A3 n3 c3) (.slice A6 n6 c6) (.slice A7 n7 c7)).toArray 61) |>.mono hBw))
      have HB0 := hidT (isB_alloc HB.out (Obj.cells (stepV y (.slice A3 n3 c3) (.slice A6 n6 c6) (.slice A7 n7 c7)).toArray 61))
      unfold stepV at HW0 HB0
      generalize wr.alloc (Obj.cells #[Value.int IntKind.i64 y.fKind, Value.int IntKind.i64 y.fA, Value.int IntKind.i64 y.fB, Value.slice A3 n3 c3, Value.int IntKind.i64 y.fPeer.fNum, Value.int IntKind.i64 y.fPeer.fAS, Value.slice A6 n6 c6, Value.slice A7 n7 c7, Value.int IntKind.u32 y.fPrefix.fAddr, Value.int IntKind.i64 y.fPrefix.fLen, Value.int IntKind.u32 y.fNext, Value.int IntKind.u64 y.fKeep] 61) = W0 at *
      have HW1 := hidT (HW0.out.trans (hb1.mono HW0.out.size))
      have HB1 := hidT (isB_keep HB0.out hb1)
      have hBw1 : w.heap.size ≤ w1.heap.size := HW1.out.size
      clear hb1
      go_wp2_with (go_at_call 32; refine (Tryd.wstr w.heap.size w.heap.size _ (S347 y) w1 HB1.out Hl.out hBw1).mono ?_)
      intro e W2 hh
      obtain ⟨rfl, HB2, hb2⟩ := hh
      rw [Hn.out] at HB2
      have HB2 := hidT HB2
      have HW2 := hidT (HW1.out.trans hb2)
      clear hb2
      go_wp2
      exact ⟨⟨k + 1, by omega, by go_num, HB2, HW2⟩, by simp [RowKit.intOf]; omega⟩
    · have hke : k = xs.length := by omega
      subst hke
      have hB' := HB.out
      rw [List.take_length] at hB'
      have hBw : w.heap.size ≤ wr.heap.size := HW.out.size
      go_wp2_with (go_at_call 35; refine (Tryd.bstr w.heap.size w.heap.size _ wr hB' hBw).mono ?_)
      rintro e w5 ⟨rfl, hb5⟩
      have Hb5 := hidT (HW.out.trans hb5)
      clear hb5 hB'
      go_wp2
      go_ret
      exact ⟨rfl, Hb5.out⟩
end Go.Proofs
namespace Go.Rx
open Go.Ab Go.L21 Go.Proofs Go.RowKit
set_option linter.unusedVariables false
set_option maxRecDepth 100000
theorem immOk_keep {imm : Imm} {w w' : World} (hok : ImmOk imm w) (hb : RowKit.Below w.heap.size w w') : ImmOk imm w' := fun b o u h => by
  have hc := hok b o u h
  unfold World.cell? at hc ⊢
  have hb' : b < w.heap.size := by
    split at hc
    · rename_i c _ _ hq; exact (Array.getElem?_eq_some_iff.1 hq).1
    · cases hc
  rw [hb.block b hb']; exact hc
theorem strip61 (x : api_Step) : stripA (argA (S := S) P7 61 x) = .agg (api_Step.cells x) := by kernel_rfl
theorem call347 {imm : Imm} {w wr : World} (hok : ImmOk imm w) (hgl : GlobW S imm w) {x : api_Step} (hx : okStep x) {vs : List Value} (hv : RepL noT (gh imm) (api_Step.cells x) vs) (hb : RowKit.Below w.heap.size w wr) :
    Calls P7 47 #[.agg vs.toArray] wr fun e w' => e = .returned (.string (S347 x)) ∧ RowKit.Below wr.heap.size wr w' := by
  have h := ok347.1 [argA P7 61 x] (fun r => r = tupA (encL (S := S) P7 [9] (S347 x))) ?_
  · refine (h imm wr [.agg vs.toArray] (immOk_keep hok hb) ⟨hgl.1, S.gwm w wr hb.size (fun b hb' => hb.block b hb') hgl.2⟩ ?_).mono ?_
    · show RepT noT (gh imm) [stripA (argA (S := S) P7 61 x)] _
      rw [strip61]
      exact ⟨_, [], rfl, ⟨vs, rfl, hv⟩, rfl⟩
    · rintro e w' ⟨r, v, imm', rfl, _, rfl, _, _, _, hr, hbel⟩
      have hr : v = .string (S347 x) := hr
      subst hr
      exact ⟨rfl, hbel⟩
  · show appC (S := S) P7 [9] [61] W347 [argA P7 61 x] _
    exact ⟨hx, rfl⟩
abbrev W328 : CT S [9] [49] := (fun x0 => (some (P328 x0), S328 x0))
abbrev Ok328 : Prop := ConOk P7 28 (ctr P7 [49] [9] W328) ∧ ConMon (ctr P7 [49] [9] W328)
theorem run328 : RunP C0 28 [9] [49] W328 [] := by
  intro (x : List api_Step) hx hp
  obtain ⟨h0, h1⟩ : okSteps x := hp _ rfl
  intro imm w vs hok hgl hargs
  obtain ⟨v1, vs1, rfl, hv1, rfl⟩ := hargs
  have hv1 : sliceH api_Step.enc x imm v1 := hv1
  obtain ⟨A, c, rfl, hc1, hc2, hc3, hc4⟩ := hv1
  refine (Tryd.print_walk A c x w h1 (fun j y hy => ?_)).mono ?_
  · obtain ⟨bk, o, rfl, h6⟩ := hc4 (fun e => by rw [e] at hy; cases hy)
    obtain ⟨vs, hR, hI⟩ := h6 j y hy
    have hcell : ∀ i v, vs[i]? = some v → w.cell? ⟨bk, o + j * 12 + i, none⟩ = some v := fun i v hv => hok _ _ _ (hI i v hv)
    have hbk : bk < w.heap.size := by
      have hl : vs.length = 12 := repL_length hR
      have := hcell 0 (vs[0]'(by omega)) (List.getElem?_eq_getElem (by omega))
      unfold World.cell? at this
      split at this
      · rename_i c _ _ hq; exact (Array.getElem?_eq_some_iff.1 hq).1
      · cases this
    have hcalls := fun wr hb => call347 hok hgl (h0 y (List.mem_of_getElem? hy)) hR (wr := wr) hb
    obtain ⟨v0, r0, rfl, k0, _, v1, r1, rfl, k1, _, v2, r2, rfl, k2, _, v3, r3, rfl, k3, _, v4, r4, rfl, k4, _, v5, r5, rfl, k5, _, v6, r6, rfl, k6, _, v7, r7, rfl, k7, _, v8, r8, rfl, k8, _, v9, r9, rfl, k9, _, v10, r10, rfl, k10, _, v11, r11, rfl, k11, _, rfl⟩ := hR
    obtain rfl : v0 = .int .i64 y.fKind := k0
    obtain rfl : v1 = .int .i64 y.fA := k1
    obtain rfl : v2 = .int .i64 y.fB := k2
    obtain ⟨A3, c3, rfl, _⟩ : sliceH (eI .u8) y.fData imm v3 := k3
    obtain rfl : v4 = .int .i64 y.fPeer.fNum := k4
    obtain rfl : v5 = .int .i64 y.fPeer.fAS := k5
    obtain ⟨A6, c6, rfl, _⟩ : sliceH api_Rule.enc y.fPeer.fIn imm v6 := k6
    obtain ⟨A7, c7, rfl, _⟩ : sliceH api_Rule.enc y.fPeer.fOut imm v7 := k7
    obtain rfl : v8 = .int .u32 y.fPrefix.fAddr := k8
    obtain rfl : v9 = .int .i64 y.fPrefix.fLen := k9
    obtain rfl : v10 = .int .u32 y.fNext := k10
    obtain rfl : v11 = .int .u64 y.fKeep := k11
    exact ⟨bk, o, A3, _, c3, A6, _, c6, A7, _, c7, rfl, hbk, hcell, hcalls⟩
  rintro e w' ⟨rfl, hb⟩
  exact pf_done (rts := [9]) (S328 x) hok hb rfl
theorem ok328 : Ok328 := con_okP (C := C0) run328
end Go.Rx
/-! What a peer's text gives back. -/
namespace Go.Rx
open Go.Ab Go.L21
set_option linter.unusedVariables false
set_option maxRecDepth 100000
theorem valU_of {n : Int} (h : 0 ≤ n ∧ n ≤ 4294967295) : valU (S333 n) = n := by unfold valU; rw [s357_of h]
theorem valI_of {n : Int} (h : P333 n) : valI (S333 n) = n := by unfold valI; rw [s337_of h]
theorem b2_back (b : Bool) : ((b2 b).toList == [49]) = b := by
  cases b
  · show ((⟨#[48]⟩ : ByteArray).toList == [49]) = false
    rw [Lib.toList_data]; rfl
  · show ((⟨#[49]⟩ : ByteArray).toList == [49]) = true
    rw [Lib.toList_data]; rfl
theorem a344 {n : Int} (h : P333 n) (l : List ByteArray) (b : Bool) : S344 ⟨S333 n :: l, b⟩ = (n, ⟨l, b⟩) := by
  rw [s344, rText_cons]
  show (valI (S333 n), (⟨l, b || (S337 (S333 n)).2⟩ : row_reader)) = _
  rw [valI_of h, s337_of h, Bool.or_false]
theorem a343 {n : Int} (h : 0 ≤ n ∧ n ≤ 4294967295) (l : List ByteArray) (b : Bool) : S343 ⟨S333 n :: l, b⟩ = (n, ⟨l, b⟩) := by
  rw [s343, rText_cons]
  show (valU (S333 n), (⟨l, b || (S357 (S333 n) 10 32).2⟩ : row_reader)) = _
  rw [valU_of h, s357_of h, Bool.or_false]
theorem a346 {x : api_Rule} (h : okRule x) (l : List ByteArray) (b : Bool) : S346 ⟨ruleL x ++ l, b⟩ = (x, ⟨l, b⟩) := by
  obtain ⟨h1, h2, h3, h4, h5⟩ := h
  rw [r346, r342]
  show _ = (x, (⟨l, b⟩ : row_reader))
  rw [show (⟨ruleL x ++ l, b⟩ : row_reader) = ⟨S333 x.fPrefix.fAddr :: S333 x.fPrefix.fLen :: S333 x.fMin :: S333 x.fMax :: b2 x.fDeny :: S333 x.fPref :: l, b⟩ from rfl, a343 h1]
  dsimp only
  rw [a344 h2]; dsimp only
  rw [a344 h3]; dsimp only
  rw [a344 h4]; dsimp only
  rw [show S358 ⟨b2 x.fDeny :: S333 x.fPref :: l, b⟩ = (b2 x.fDeny, ⟨S333 x.fPref :: l, b⟩) from rfl]
  dsimp only
  rw [a344 h5, b2_back]
theorem inF_rules : ∀ (I : List api_Rule) (k : Nat) (l : List ByteArray), (∀ r ∈ I, okRule r) → I.length ≤ k → inF k (I.length : Int) ⟨rulesL I ++ l, false⟩ = (I, ⟨l, false⟩)
  | [], k, l, h, hk => inF_end rfl
  | x :: I, 0, l, h, hk => absurd hk (by simp)
  | x :: I, k + 1, l, h, hk => by
    have hk : I.length ≤ k := by simpa using hk
    have hc : (decide ((0 : Int) < ((x :: I).length : Int)) && !false) = true := by
      rw [Bool.not_false, Bool.and_true, decide_eq_true_eq]
      simp only [List.length_cons]; omega
    have e : (⟨rulesL (x :: I) ++ l, false⟩ : row_reader) = ⟨ruleL x ++ (rulesL I ++ l), false⟩ := by
      show (⟨(ruleL x ++ rulesL I) ++ l, false⟩ : row_reader) = _
      rw [List.append_assoc]
    rw [e, inF_go hc, a346 (h x List.mem_cons_self)]
    dsimp only
    rw [show (((x :: I).length : Nat) : Int) - 1 = (I.length : Int) by simp only [List.length_cons]; omega, inF_rules I k l (fun r hr => h r (List.mem_cons_of_mem _ hr)) hk]
theorem outF_rules : ∀ (I : List api_Rule) (k : Nat), (∀ r ∈ I, okRule r) → I.length ≤ k → outF k ⟨rulesL I, false⟩ = (I, ⟨[], false⟩)
  | [], k, h, hk => outF_end rfl
  | x :: I, 0, h, hk => absurd hk (by simp)
  | x :: I, k + 1, h, hk => by
    have hk : I.length ≤ k := by simpa using hk
    have e : (⟨rulesL (x :: I), false⟩ : row_reader) = ⟨ruleL x ++ rulesL I, false⟩ := rfl
    have hc : (decide (6 ≤ (⟨rulesL (x :: I), false⟩ : row_reader).flist.length) && !(⟨rulesL (x :: I), false⟩ : row_reader).fbad) = true := by
      show (decide (6 ≤ (rulesL (x :: I)).length) && !false) = true
      rw [Bool.not_false, Bool.and_true, decide_eq_true_eq, rules_len, List.length_cons]; omega
    rw [outF_go hc, e, a346 (h x List.mem_cons_self)]
    dsimp only
    rw [outF_rules I k (fun r hr => h r (List.mem_cons_of_mem _ hr)) hk]
theorem readPeer_peer {p : api_PeerConf} (h : okPeer p) : readPeer ⟨peerL p, false⟩ = (p, ⟨[], false⟩) := by
  obtain ⟨h1, h2, h3, h4, h5, h6⟩ := h
  have e : (⟨peerL p, false⟩ : row_reader) = ⟨S333 p.fNum :: S333 p.fAS :: S333 p.fIn.length :: (rulesL p.fIn ++ rulesL p.fOut), false⟩ := by
    show (⟨([S333 p.fNum, S333 p.fAS, S333 p.fIn.length] ++ rulesL p.fIn) ++ rulesL p.fOut, false⟩ : row_reader) = _
    rw [List.append_assoc]; rfl
  have hn : P333 (p.fIn.length : Int) := ⟨by omega, by omega⟩
  rw [e]
  refine (readPeer_eq _ _ _ _ rfl rfl rfl (p.fIn, ⟨rulesL p.fOut, false⟩) (p.fOut, ⟨[], false⟩) ?_ ?_).trans ?_
  · rw [a344 h1]; dsimp only
    rw [a344 h2]; dsimp only
    rw [a344 hn]; dsimp only
    refine inF_rules _ _ _ h5 ?_
    rw [List.length_append, rules_len]; omega
  · refine outF_rules _ _ h6 ?_
    show p.fOut.length ≤ (rulesL p.fOut).length + 1
    rw [rules_len]; omega
  · rw [a344 h1]; dsimp only
    rw [a344 h2]
theorem s324_peer {p : api_PeerConf} (h : okPeer p) : S324 (S322 p) = (p, true) := by
  have e : S315 (S322 p) = (peerL p, true) := split_texts (peerL p)
  show lk _ (rdPeer _) = _
  rw [lk_eq]
  unfold rdPeer
  rw [e]
  show (match readPeer ⟨peerL p, false⟩ with | (p', q) => bif q.fbad || !((S322 p').toList == (S322 p).toList) then ((⟨0, 0, [], []⟩, false) : api_PeerConf × Bool) else (p', true)) = _
  rw [readPeer_peer h]
  dsimp only
  rw [Bool.false_or, show ((S322 p).toList == (S322 p).toList) = true from beq_iff_eq.2 rfl]
  rfl
theorem isP_peer {p : api_PeerConf} (h : okPeer p) (h1 : p.fIn.length + p.fOut.length ≤ 140) : IsP (S322 p) := by
  obtain ⟨h1, h2, h3, h4, h5, h6⟩ := h
  refine ⟨?_⟩
  show (bs (textsL (peerL p))).size ≤ 40000
  rw [size_bs]
  have a1 := text_len h1
  have a2 := text_len h2
  have a3 := text_len (n := (p.fIn.length : Int)) ⟨by omega, by omega⟩
  have a4 := rules_texts _ h5
  have a5 := rules_texts _ h6
  unfold peerL
  rw [texts_app, texts_app, List.length_append, List.length_append]
  have : (textsL [S333 p.fNum, S333 p.fAS, S333 p.fIn.length]).length ≤ 129 := by
    simp only [textsL, List.flatMap_cons, List.flatMap_nil, List.length_append, List.length_nil]
    omega
  omega
end Go.Rx
namespace Go.Rx
open Go.Ab Go.L21
set_option maxRecDepth 100000
set_option maxHeartbeats 20000000
set_option linter.unusedVariables false
/-- interregnum/interregnumlaw24.answers -/
noncomputable def C327 : Cfg S := { P := P7, inl := [], K := [(25, ctr P7 [42] [9] (fun x0 => (some (P325 x0), S325 x0))), (31, ctr P7 [9] [9] (fun x0 => (some (P331 x0), S331 x0))), (28, ctr P7 [49] [9] (fun x0 => (some (P328 x0), S328 x0))), (29, ctr P7 [9] [49, 3, 52] (fun x0 => (some (P329 x0), S329 x0)))], ann := [] }
abbrev W327 : CT S [4] [] := (none, S327)
abbrev Ok327 : Prop := ConOk P7 27 (ctr P7 [] [4] W327) ∧ ConMon (ctr P7 [] [4] W327)
theorem q327 (v : HR S [4]) : (Xf C327 6 (emp 0) 27 (argsA C327 []) (emp 0) (fun r _ => isR C327.P [4] v r) (fun _ _ => False)) = (okSteps [api_Step.mk (1 :
 Int) (-2 : Int) (0 : Int) [(255 : Int)] (api_PeerConf.mk (0 : Int) (0 : Int) [] []) (api_Prefix.mk (0 : Int) (0 : Int)) (0 : Int) (7 : Int)] ∧ okLine (S328
 [api_Step.mk (1 : Int) (-2 : Int) (0 : Int) [(255 : Int)] (api_PeerConf.mk (0 : Int) (0 : Int) [] []) (api_Prefix.mk (0 : Int) (0 : Int)) (0 : Int) (7 :
 Int)]) ∧ OkP (api_PeerConf.mk (0 : Int) (0 : Int) [] []) ∧ Nat.le (nat_lit 9) (nat_lit 1099511627776) ∧ nat_lit 38 ≤ nat_lit 9223372036854775807 ∧ nat_lit 39
 ≤ nat_lit 9223372036854775807 ∧ (true = true → (0 : Int) ≤ (0 : Int) ∧ (0 : Int) < (↑(nat_lit 1) : Int)) ∧ true = v) := by kernel_rfl
end Go.Rx
namespace Go.Rx
open Go.Ab Go.L21
set_option maxRecDepth 100000
set_option maxHeartbeats 20000000
set_option linter.unusedVariables false
/-- interregnum/interregnumlaw24.ScriptBack -/
noncomputable def C307 : Cfg S := { P := P7, inl := [], K := [(28, ctr P7 [49] [9] (fun x0 => (some (P328 x0), S328 x0))), (30, ctr P7 [49] [9] (fun x0 => (some (P330 x0), S330 x0))), (29, ctr P7 [9] [49, 3, 52] (fun x0 => (some (P329 x0), S329 x0))), (26, ctr P7 [49] [4] (fun x0 => (some (P326 x0), S326 x0))), (27, ctr P7 [] [4] (none, S327))], ann := [] }
abbrev W307 : CT S [4] [49] := (fun x0 => (some (P307 x0), S307 x0))
abbrev Ok307 : Prop := ConOk P7 7 (ctr P7 [49] [4] W307) ∧ ConMon (ctr P7 [49] [4] W307)
theorem q307 (x0 : List api_Step) (v : HR S [4]) : (Xf C307 6 (emp 0) 7 (argsA C307 [⟨49, x0⟩]) (emp 0) (fun r _ => isR C307.P [4] v r) (fun _ _ => False)) =
 (okSmall x0 ∧ bif !S326 x0 then true = v else okSteps x0 ∧ okLine (S328 x0) ∧ okSteps x0 ∧ bif (S328 x0).toList == (S330 x0).toList && decide ((S329 (S328
 x0)).snd.snd = (0 : Int)) && decide ((S329 (S328 x0)).snd.fst = (0 : Int)) && decide ((↑(S329 (S328 x0)).fst.length : Int) = (↑x0.length : Int)) then okSteps
 (S329 (S328 x0)).fst ∧ ((S330 (S329 (S328 x0)).fst).toList == (S328 x0).toList) = v else false = v) := by kernel_rfl
end Go.Rx
namespace Go.Rx
open Go.Ab Go.L21
set_option maxRecDepth 100000
set_option maxHeartbeats 20000000
set_option linter.unusedVariables false
/-- interregnum/interregnumlaw24.ScriptReads -/
noncomputable def C308 : Cfg S := { P := P7, inl := [], K := [(30, ctr P7 [49] [9] (fun x0 => (some (P330 x0), S330 x0))), (29, ctr P7 [9] [49, 3, 52] (fun x0 => (some (P329 x0), S329 x0))), (27, ctr P7 [] [4] (none, S327))], ann := [(8, [(9, .join [(.sl 6, .int .i64)]), (8, .loop [(.sl 6, .int .i64), (.sl 7, .int .i64)])])] }
abbrev W308 : CT S [4] [9] := (fun x0 => (some (P308 x0), S308 x0))
abbrev Ok308 : Prop := ConOk P7 8 (ctr P7 [9] [4] W308) ∧ ConMon (ctr P7 [9] [4] W308)
theorem q308 (x0 : ByteArray) (v : HR S [4]) : (Xf C308 6 (emp 0) 8 (argsA C308 [⟨9, x0⟩]) (emp 0) (fun r _ => isR C308.P [4] v r) (fun _ _ => False)) = (bif
 decide ((4000 : Int) < (↑x0.size : Int)) then true = v else okLine x0 ∧ bif decide ((S329 x0).snd.snd = (0 : Int)) then bif decide ((S329 x0).snd.fst = (0 :
 Int)) then okSteps (S329 x0).fst ∧ ((S330 (S329 x0).fst).toList == x0.toList) = v else false = v else LOOP (fun (h : Int × Int) (J : Int × Int → Prop) => bif
 decide (h.snd < (↑x0.size : Int)) then JP (fun (h_1 : Int) => J (h_1, IntKind.i64.wrap (h.snd + (1 : Int)))) fun (J : Int → Prop) => ((0 : Int) ≤ h.snd ∧
 h.snd < (↑x0.size : Int)) ∧ bif decide ((↑(x0.data.toList.getD h.snd.toNat (0 : UInt8)).toNat : Int) = (10 : Int)) then J (IntKind.i64.wrap (h.fst + (1 :
 Int))) else J h.fst else (decide ((S329 x0).snd.snd = (7 : Int)) && decide ((↑(S329 x0).fst.length : Int) = (0 : Int)) && decide ((1 : Int) ≤ (S329
 x0).snd.fst) && decide ((S329 x0).snd.fst ≤ IntKind.i64.wrap (h.fst + (1 : Int)))) = v) ((0 : Int), (0 : Int))) := by kernel_rfl
end Go.Rx
namespace Go.Rx
open Go.Ab Go.L21
set_option maxRecDepth 100000
set_option maxHeartbeats 20000000
set_option linter.unusedVariables false
/-- interregnum/interregnumlaw24.ScriptEnds -/
noncomputable def C310 : Cfg S := { P := P7, inl := [], K := [(30, ctr P7 [49] [9] (fun x0 => (some (P330 x0), S330 x0))), (29, ctr P7 [9] [49, 3, 52] (fun x0 => (some (P329 x0), S329 x0))), (26, ctr P7 [49] [4] (fun x0 => (some (P326 x0), S326 x0))), (27, ctr P7 [] [4] (none, S327))], ann := [] }
abbrev W310 : CT S [4] [49] := (fun x0 => (some (P310 x0), S310 x0))
abbrev Ok310 : Prop := ConOk P7 10 (ctr P7 [49] [4] W310) ∧ ConMon (ctr P7 [49] [4] W310)
theorem q310 (x0 : List api_Step) (v : HR S [4]) : (Xf C310 6 (emp 0) 10 (argsA C310 [⟨49, x0⟩]) (emp 0) (fun r _ => isR C310.P [4] v r) (fun _ _ => False)) =
 (okSmall x0 ∧ bif !S326 x0 || decide ((↑x0.length : Int) = (0 : Int)) then true = v else okSteps x0 ∧ ((0 : Int) ≤ (0 : Int) ∧ (0 : Int) ≤ IntKind.i64.wrap
 ((↑(S330 x0).size : Int) - (1 : Int)) ∧ IntKind.i64.wrap ((↑(S330 x0).size : Int) - (1 : Int)) ≤ (↑(S330 x0).size : Int)) ∧ okLine ((S330 x0).extract (nat_lit
 0) (IntKind.i64.wrap ((↑(S330 x0).size : Int) - (1 : Int))).toNat) ∧ (decide ((S329 ((S330 x0).extract (nat_lit 0) (IntKind.i64.wrap ((↑(S330 x0).size : Int)
 - (1 : Int))).toNat)).snd.snd = (7 : Int)) && decide ((S329 ((S330 x0).extract (nat_lit 0) (IntKind.i64.wrap ((↑(S330 x0).size : Int) - (1 :
 Int))).toNat)).snd.fst = (↑x0.length : Int)) && decide ((↑(S329 ((S330 x0).extract (nat_lit 0) (IntKind.i64.wrap ((↑(S330 x0).size : Int) - (1 :
 Int))).toNat)).fst.length : Int) = (0 : Int))) = v) := by kernel_rfl
end Go.Rx
namespace Go.Rx
open Go.Ab Go.L21
set_option maxRecDepth 100000
set_option maxHeartbeats 20000000
set_option linter.unusedVariables false
/-- interregnum/interregnumlaw24.ScriptNumbers -/
noncomputable def C311 : Cfg S := { P := P7, inl := [], K := [(23, ctr P7 [42, 42] [4] (fun x0 x1 => (some (P323 x0 x1), S323 x0 x1))), (28, ctr P7 [49] [9] (fun x0 => (some (P328 x0), S328 x0))), (29, ctr P7 [9] [49, 3, 52] (fun x0 => (some (P329 x0), S329 x0))), (26, ctr P7 [49] [4] (fun x0 => (some (P326 x0), S326 x0))), (27, ctr P7 [] [4] (none, S327))], ann := [] }
abbrev W311 : CT S [4] [61] := (fun x0 => (some (P311 x0), S311 x0))
abbrev Ok311 : Prop := ConOk P7 11 (ctr P7 [61] [4] W311) ∧ ConMon (ctr P7 [61] [4] W311)
theorem q311 (x0 : api_Step) (v : HR S [4]) : (Xf C311 6 (emp 0) 11 (argsA C311 [⟨61, x0⟩]) (emp 0) (fun r _ => isR C311.P [4] v r) (fun _ _ => False)) =
 (okSmall [x0] ∧ bif !S326 [x0] then true = v else okSteps [x0, x0] ∧ okLine (S328 [x0, x0]) ∧ ((decide ((S329 (S328 [x0, x0])).snd.snd = (0 : Int)) && decide
 ((↑(S329 (S328 [x0, x0])).fst.length : Int) = (2 : Int))) = true → (0 : Int) ≤ (0 : Int) ∧ (0 : Int) < (↑(S329 (S328 [x0, x0])).fst.length : Int)) ∧ ((decide
 ((S329 (S328 [x0, x0])).snd.snd = (0 : Int)) && decide ((↑(S329 (S328 [x0, x0])).fst.length : Int) = (2 : Int)) && decide ((ix (S329 (S328 [x0, x0])).fst (0 :
 Int)).fKind = x0.fKind)) = true → (0 : Int) ≤ (0 : Int) ∧ (0 : Int) < (↑(S329 (S328 [x0, x0])).fst.length : Int)) ∧ ((decide ((S329 (S328 [x0, x0])).snd.snd =
 (0 : Int)) && decide ((↑(S329 (S328 [x0, x0])).fst.length : Int) = (2 : Int)) && decide ((ix (S329 (S328 [x0, x0])).fst (0 : Int)).fKind = x0.fKind) && decide
 ((ix (S329 (S328 [x0, x0])).fst (0 : Int)).fA = x0.fA)) = true → (0 : Int) ≤ (1 : Int) ∧ (1 : Int) < (↑(S329 (S328 [x0, x0])).fst.length : Int)) ∧ ((decide
 ((S329 (S328 [x0, x0])).snd.snd = (0 : Int)) && decide ((↑(S329 (S328 [x0, x0])).fst.length : Int) = (2 : Int)) && decide ((ix (S329 (S328 [x0, x0])).fst (0 :
 Int)).fKind = x0.fKind) && decide ((ix (S329 (S328 [x0, x0])).fst (0 : Int)).fA = x0.fA) && decide ((ix (S329 (S328 [x0, x0])).fst (1 : Int)).fB = x0.fB)) =
 true → (0 : Int) ≤ (1 : Int) ∧ (1 : Int) < (↑(S329 (S328 [x0, x0])).fst.length : Int)) ∧ ((decide ((S329 (S328 [x0, x0])).snd.snd = (0 : Int)) && decide
 ((↑(S329 (S328 [x0, x0])).fst.length : Int) = (2 : Int)) && decide ((ix (S329 (S328 [x0, x0])).fst (0 : Int)).fKind = x0.fKind) && decide ((ix (S329 (S328
 [x0, x0])).fst (0 : Int)).fA = x0.fA) && decide ((ix (S329 (S328 [x0, x0])).fst (1 : Int)).fB = x0.fB) && decide ((ix (S329 (S328 [x0, x0])).fst (1 :
 Int)).fKeep = x0.fKeep)) = true → (0 : Int) ≤ (0 : Int) ∧ (0 : Int) < (↑(S329 (S328 [x0, x0])).fst.length : Int)) ∧ ((decide ((S329 (S328 [x0, x0])).snd.snd =
 (0 : Int)) && decide ((↑(S329 (S328 [x0, x0])).fst.length : Int) = (2 : Int)) && decide ((ix (S329 (S328 [x0, x0])).fst (0 : Int)).fKind = x0.fKind) && decide
 ((ix (S329 (S328 [x0, x0])).fst (0 : Int)).fA = x0.fA) && decide ((ix (S329 (S328 [x0, x0])).fst (1 : Int)).fB = x0.fB) && decide ((ix (S329 (S328 [x0,
 x0])).fst (1 : Int)).fKeep = x0.fKeep) && (decide ((ix (S329 (S328 [x0, x0])).fst (0 : Int)).fPrefix.fAddr = x0.fPrefix.fAddr) && (decide ((ix (S329 (S328
 [x0, x0])).fst (0 : Int)).fPrefix.fLen = x0.fPrefix.fLen) && true))) = true → (0 : Int) ≤ (0 : Int) ∧ (0 : Int) < (↑(S329 (S328 [x0, x0])).fst.length : Int))
 ∧ ((decide ((S329 (S328 [x0, x0])).snd.snd = (0 : Int)) && decide ((↑(S329 (S328 [x0, x0])).fst.length : Int) = (2 : Int)) && decide ((ix (S329 (S328 [x0,
 x0])).fst (0 : Int)).fKind = x0.fKind) && decide ((ix (S329 (S328 [x0, x0])).fst (0 : Int)).fA = x0.fA) && decide ((ix (S329 (S328 [x0, x0])).fst (1 :
 Int)).fB = x0.fB) && decide ((ix (S329 (S328 [x0, x0])).fst (1 : Int)).fKeep = x0.fKeep) && (decide ((ix (S329 (S328 [x0, x0])).fst (0 : Int)).fPrefix.fAddr =
 x0.fPrefix.fAddr) && (decide ((ix (S329 (S328 [x0, x0])).fst (0 : Int)).fPrefix.fLen = x0.fPrefix.fLen) && true)) && decide ((ix (S329 (S328 [x0, x0])).fst (0
 : Int)).fNext = x0.fNext)) = true → (0 : Int) ≤ (1 : Int) ∧ (1 : Int) < (↑(S329 (S328 [x0, x0])).fst.length : Int)) ∧ ((decide ((S329 (S328 [x0, x0])).snd.snd
 = (0 : Int)) && decide ((↑(S329 (S328 [x0, x0])).fst.length : Int) = (2 : Int)) && decide ((ix (S329 (S328 [x0, x0])).fst (0 : Int)).fKind = x0.fKind) &&
 decide ((ix (S329 (S328 [x0, x0])).fst (0 : Int)).fA = x0.fA) && decide ((ix (S329 (S328 [x0, x0])).fst (1 : Int)).fB = x0.fB) && decide ((ix (S329 (S328 [x0,
 x0])).fst (1 : Int)).fKeep = x0.fKeep) && (decide ((ix (S329 (S328 [x0, x0])).fst (0 : Int)).fPrefix.fAddr = x0.fPrefix.fAddr) && (decide ((ix (S329 (S328
 [x0, x0])).fst (0 : Int)).fPrefix.fLen = x0.fPrefix.fLen) && true)) && decide ((ix (S329 (S328 [x0, x0])).fst (0 : Int)).fNext = x0.fNext) && (bsOf (List.map
 (fun (x : Int) => x) (ix (S329 (S328 [x0, x0])).fst (1 : Int)).fData)).toList == (bsOf (List.map (fun (x : Int) => x) x0.fData)).toList) = true → (0 : Int) ≤
 (0 : Int) ∧ (0 : Int) < (↑(S329 (S328 [x0, x0])).fst.length : Int)) ∧ bif decide ((S329 (S328 [x0, x0])).snd.snd = (0 : Int)) && decide ((↑(S329 (S328 [x0,
 x0])).fst.length : Int) = (2 : Int)) && decide ((ix (S329 (S328 [x0, x0])).fst (0 : Int)).fKind = x0.fKind) && decide ((ix (S329 (S328 [x0, x0])).fst (0 :
 Int)).fA = x0.fA) && decide ((ix (S329 (S328 [x0, x0])).fst (1 : Int)).fB = x0.fB) && decide ((ix (S329 (S328 [x0, x0])).fst (1 : Int)).fKeep = x0.fKeep) &&
 (decide ((ix (S329 (S328 [x0, x0])).fst (0 : Int)).fPrefix.fAddr = x0.fPrefix.fAddr) && (decide ((ix (S329 (S328 [x0, x0])).fst (0 : Int)).fPrefix.fLen =
 x0.fPrefix.fLen) && true)) && decide ((ix (S329 (S328 [x0, x0])).fst (0 : Int)).fNext = x0.fNext) && (bsOf (List.map (fun (x : Int) => x) (ix (S329 (S328 [x0,
 x0])).fst (1 : Int)).fData)).toList == (bsOf (List.map (fun (x : Int) => x) x0.fData)).toList then (OkP (ix (S329 (S328 [x0, x0])).fst (0 : Int)).fPeer ∧ OkP
 x0.fPeer) ∧ S323 (ix (S329 (S328 [x0, x0])).fst (0 : Int)).fPeer x0.fPeer = v else false = v) := by kernel_rfl
end Go.Rx
/-! Steps' text is read as them. -/
namespace Go.Rx
open Go.Ab Go.L21
set_option linter.unusedVariables false
set_option maxRecDepth 100000
theorem hexDT : ∀ c : Fin 256, hexM 0 [hexDg (c.val / 16), hexDg (c.val % 16)] = some c.val := by decide +kernel
theorem hexM_dg (c : UInt8) : hexM 0 [hexDg (c.toNat / 16), hexDg (c.toNat % 16)] = some c.toNat := hexDT ⟨c.toNat, c.toNat_lt⟩
theorem unhex_hex (l : List UInt8) : unhex (hexL l) = some l := by
  induction l with
  | nil => rfl
  | cons c r ih =>
    have e : hexL (c :: r) = hexDg (c.toNat / 16) :: hexDg (c.toNat % 16) :: hexL r := rfl
    rw [e, unhex, hexM_dg]
    simp only [ih]
    rw [show UInt8.ofNat c.toNat = c from UInt8.ofNat_toNat]
theorem s362_hex (b : ByteArray) : S362 (S359 b) = (b, true) := by
  rw [s362]
  show hexText (120 :: hexL b.data.toList) = _
  show (bif ((120 : UInt8) == 120 && decide ((hexL b.data.toList).length % 2 = 0)) then (match unhex (hexL b.data.toList) with | some l => ((bs l, true) : ByteArray × Bool) | none => (bs [], false)) else (bs [], false)) = _
  have : decide ((hexL b.data.toList).length % 2 = 0) = true := decide_eq_true (by rw [hexL_len]; omega)
  rw [this, unhex_hex]
  rfl
/-- Bytes that are a digit, a sign or an x. -/
def Wd (c : UInt8) : Prop := c ≠ 32 ∧ c ≠ 10
theorem digs_wd {l : List UInt8} (h : Digs l) : ∀ c ∈ l, Wd c := fun c hc => by
  obtain ⟨h1, h2⟩ := h c hc
  constructor
  · intro e; rw [e] at h1; exact absurd h1 (by decide)
  · intro e; rw [e] at h1; exact absurd h1 (by decide)
theorem itoa_wd (n : Int) : ∀ c ∈ Lib.itoa n, Wd c := by
  unfold Lib.itoa
  split
  · intro c hc
    rcases List.mem_cons.1 hc with rfl | hc
    · exact ⟨by decide, by decide⟩
    · exact digs_wd (digs_dec _) c hc
  · exact digs_wd (digs_dec _)
theorem hexDW : ∀ d : Fin 16, hexDg d.val ≠ 32 ∧ hexDg d.val ≠ 10 := by decide +kernel
theorem hexDg_wd {d : Nat} (h : d < 16) : Wd (hexDg d) := hexDW ⟨d, h⟩
theorem hexL_wd (l : List UInt8) : ∀ c ∈ hexL l, Wd c := by
  intro c hc
  obtain ⟨b, _, hb⟩ := List.mem_flatMap.1 hc
  have := b.toNat_lt
  rcases List.mem_cons.1 hb with rfl | hb
  · exact hexDg_wd (by omega)
  · rw [List.mem_singleton.1 hb]; exact hexDg_wd (by omega)
theorem xhex_wd (l : List UInt8) : ∀ c ∈ (120 :: hexL l : List UInt8), Wd c := by
  intro c hc
  rcases List.mem_cons.1 hc with rfl | hc
  · exact ⟨by decide, by decide⟩
  · exact hexL_wd l c hc
theorem fields_wd (s : api_Step) : ∀ f ∈ fieldsS s, ∀ c ∈ f.data.toList, Wd c := by
  intro f hf
  simp only [fieldsS, List.mem_cons, List.not_mem_nil, or_false] at hf
  rcases hf with rfl | rfl | rfl | rfl | rfl | rfl | rfl | rfl | rfl
  · exact itoa_wd _
  · exact itoa_wd _
  · exact itoa_wd _
  · exact itoa_wd _
  · exact itoa_wd _
  · exact itoa_wd _
  · exact itoa_wd _
  · exact xhex_wd _
  · exact xhex_wd _
theorem split_line (s : api_Step) : S361 (bs (joinS (fieldsS s) sp)) sp = fieldsS s := by
  have h := s361 (bs (joinS (fieldsS s) sp)) 32
  rw [show sp = (⟨#[32]⟩ : ByteArray) from rfl] at h ⊢
  rw [h]
  show (splitC 32 (Lib.join ((fieldsS s).map (·.data.toList)) [32])).map bs = fieldsS s
  rw [splitC_join (by simp [fieldsS]) (fun l hl b hb => by
    obtain ⟨f, hf, rfl⟩ := List.mem_map.1 hl
    exact (fields_wd s f hf b hb).1), List.map_map]
  exact List.map_id _
theorem join_wd {c : UInt8} (hc : c ≠ 32) : ∀ (ls : List (List UInt8)), (∀ l ∈ ls, ∀ b ∈ l, b ≠ c) → ∀ b ∈ Lib.join ls [32], b ≠ c
  | [], _, b, hb => by cases hb
  | [x], h, b, hb => by rw [Lib.join_one] at hb; exact h x List.mem_cons_self b hb
  | x :: y :: r, h, b, hb => by
    have e : Lib.join (x :: y :: r) [32] = x ++ 32 :: Lib.join (y :: r) [32] := by
      rw [Lib.join_cons, Lib.join_cons]
      simp [Lib.joinTail]
    rw [e] at hb
    rcases List.mem_append.1 hb with hb | hb
    · exact h x List.mem_cons_self b hb
    · rcases List.mem_cons.1 hb with rfl | hb
      · exact fun e => hc e.symm
      · exact join_wd hc (y :: r) (fun l hl => h l (List.mem_cons_of_mem _ hl)) b hb
def oneL (s : api_Step) : List UInt8 := joinS (fieldsS s) sp
theorem line_one (s : api_Step) : lineL s = oneL s ++ [10] := rfl
theorem one_free (s : api_Step) : ∀ b ∈ oneL s, b ≠ 10 := by
  refine join_wd (by decide) _ fun l hl b hb => ?_
  obtain ⟨f, hf, rfl⟩ := List.mem_map.1 hl
  exact (fields_wd s f hf b hb).2
theorem s357_of64 {u : Int} (h : 0 ≤ u ∧ u < 18446744073709551616) : S357 (S333 u) 10 64 = (u, false) := by
  obtain ⟨n, rfl⟩ : ∃ n : Nat, u = (n : Int) := ⟨u.toNat, by omega⟩
  have e : (S333 (n : Int)).data.toList = Lib.decDigits n := by
    show Lib.itoa (n : Int) = _
    rw [itoa_nn (by omega), Int.toNat_natCast]
  show endN (Lib.parseUintB 64 (S333 (n : Int)).data.toList) (2 ^ 64 - 1) = _
  rw [e, uint_dec 64 (Nat.le_refl _) n (by omega)]
  rfl
theorem stepOf_fields {s : api_Step} (h : okStep s) (hp : s.fPeer.fIn.length + s.fPeer.fOut.length ≤ 140) : stepOf (fieldsS s) = s ∧ stepOk (fieldsS s) = true := by
  obtain ⟨hk, ha, hb, hke, had, hle, hne, hda, hpe⟩ := h
  obtain ⟨b, hbb⟩ := of_bytes _ hda.2
  have e1 : S362 (S359 (bsOf s.fData)) = (bs b, true) := by rw [s362_hex, hbb, bsOf_toI]
  have e2 : S362 (S359 (S322 s.fPeer)) = (S322 s.fPeer, true) := s362_hex _
  have e3 := s324_peer hpe
  have u32 : ∀ {u : Int}, 0 ≤ u ∧ u ≤ 4294967295 → S357 (S356 u 10) 10 32 = (u, false) := fun h => s357_of h
  have u64 : ∀ {u : Int}, 0 ≤ u ∧ u < 18446744073709551616 → S357 (S356 u 10) 10 64 = (u, false) := fun h => s357_of64 h
  constructor
  · show (⟨valI (S333 s.fKind), valI (S333 s.fA), valI (S333 s.fB), (S362 (S359 (bsOf s.fData))).1.data.toList.map (fun c => (c.toNat : Int)), (S324 (S362 (S359 (S322 s.fPeer))).1).1, ⟨(S357 (S356 s.fPrefix.fAddr 10) 10 32).1, valI (S333 s.fPrefix.fLen)⟩, (S357 (S356 s.fNext 10) 10 32).1, (S357 (S356 s.fKeep 10) 10 64).1⟩ : api_Step) = s
    rw [valI_of hk, valI_of ha, valI_of hb, valI_of hle, e1, e2, e3, u32 had, u32 hne, u64 hke]
    show (⟨s.fKind, s.fA, s.fB, toI b, s.fPeer, ⟨s.fPrefix.fAddr, s.fPrefix.fLen⟩, s.fNext, s.fKeep⟩ : api_Step) = s
    rw [← hbb]
  · show (!(S337 (S333 s.fKind)).2 && !(S337 (S333 s.fA)).2 && !(S337 (S333 s.fB)).2 && !(S337 (S333 s.fPrefix.fLen)).2 && !(S357 (S356 s.fKeep 10) 10 64).2 && !(S357 (S356 s.fPrefix.fAddr 10) 10 32).2 && !(S357 (S356 s.fNext 10) 10 32).2 && (S362 (S359 (bsOf s.fData))).2 && (S362 (S359 (S322 s.fPeer))).2 && (S324 (S362 (S359 (S322 s.fPeer))).1).2) = true
    rw [s337_of hk, s337_of ha, s337_of hb, s337_of hle, e1, e2, e3, u32 had, u32 hne, u64 hke]
    rfl
/-- A step with few rules. -/
def small1 (s : api_Step) : Prop := okStep s ∧ s.fPeer.fIn.length + s.fPeer.fOut.length ≤ 140
theorem s348_line {s : api_Step} (h : small1 s) : S348 (bs (oneL s)) = (s, true) := by
  obtain ⟨h1, h2⟩ := stepOf_fields h.1 h.2
  have hS : S348 (bs (oneL s)) = readStep (bs (oneL s)) := lk_eq _ _
  rw [hS]
  unfold readStep
  rw [show S361 (bs (oneL s)) sp = fieldsS s from split_line s, h1, h2]
  show (s, true && lineL s == oneL s ++ [10]) = _
  rw [Bool.true_and, line_one, beq_iff_eq.2 rfl]
theorem tk_app {l r : List UInt8} (h : ∀ b ∈ l, b ≠ 10) : tk (l ++ 10 :: r) = l := by
  unfold tk
  rw [List.takeWhile_append_of_pos (fun b hb => by simpa using h b hb)]
  simp
theorem tk_free {l : List UInt8} (h : ∀ b ∈ l, b ≠ 10) : tk l = l := by
  have := List.takeWhile_append_of_pos (p := (· != (10 : UInt8))) (l₁ := l) (l₂ := []) (fun b hb => by simpa using h b hb)
  rw [List.append_nil] at this
  unfold tk
  rw [this]; simp
theorem readF_line {s : api_Step} (h : small1 s) (k : Nat) (n : Int) (r : List UInt8) (out : List api_Step) : readF (k + 1) n (lineL s ++ r) out = readF k (n + 1) r (out ++ [s]) := by
  have e : lineL s ++ r = oneL s ++ 10 :: r := by rw [line_one, List.append_assoc]; rfl
  rw [e, readF_cons _ _ _ _ (by simp), tk_app (one_free s), s348_line h]
  have : decide ((oneL s).length < (oneL s ++ 10 :: r).length) = true := by
    rw [List.length_append, List.length_cons]; exact decide_eq_true (by omega)
  rw [this]
  have e2 : (oneL s ++ 10 :: r).drop ((oneL s).length + 1) = r := by
    rw [← List.drop_drop, List.drop_left]; rfl
  rw [e2]; rfl
theorem readF_lines : ∀ (l : List api_Step), (∀ s ∈ l, small1 s) → ∀ (k : Nat) (n : Int) (r : List UInt8) (out : List api_Step), readF (k + l.length) n (linesL l ++ r) out = readF k (n + l.length) r (out ++ l)
  | [], _, k, n, r, out => by
    show readF k n r out = readF k (n + 0) r (out ++ [])
    rw [Int.add_zero, List.append_nil]
  | s :: l, h, k, n, r, out => by
    have e : linesL (s :: l) ++ r = lineL s ++ (linesL l ++ r) := by
      show (lineL s ++ linesL l) ++ r = _
      rw [List.append_assoc]
    rw [e, show k + (s :: l).length = (k + l.length) + 1 by rw [List.length_cons]; omega, readF_line (h s List.mem_cons_self), readF_lines l (fun x hx => h x (List.mem_cons_of_mem _ hx)), List.append_assoc]
    rw [show n + 1 + (l.length : Int) = n + ((s :: l).length : Int) by rw [List.length_cons]; omega]
    rfl
theorem s329_lines {l : List api_Step} (h : ∀ s ∈ l, small1 s) : S329 (bs (linesL l)) = (l, 0, 0) := by
  rw [s329]
  show readF (linesL l).length 1 (linesL l) [] = _
  have hn := lines_num l
  have := readF_lines l h ((linesL l).length - l.length) 1 [] []
  rw [show (linesL l).length - l.length + l.length = (linesL l).length by omega, List.append_nil, readF_nil] at this
  exact this
theorem rules_w (s : api_Step) (h : okPeer s.fPeer) : (textsL (peerL s.fPeer)).length ≤ 129 + 258 * (s.fPeer.fIn.length + s.fPeer.fOut.length) := by
  obtain ⟨h1, h2, h3, h4, h5, h6⟩ := h
  have a1 := text_len h1
  have a2 := text_len h2
  have a3 := text_len (n := (s.fPeer.fIn.length : Int)) ⟨by omega, by omega⟩
  have a4 := rules_texts _ h5
  have a5 := rules_texts _ h6
  unfold peerL
  rw [texts_app, texts_app, List.length_append, List.length_append]
  have : (textsL [S333 s.fPeer.fNum, S333 s.fPeer.fAS, S333 s.fPeer.fIn.length]).length ≤ 129 := by
    simp only [textsL, List.flatMap_cons, List.flatMap_nil, List.length_append, List.length_nil]
    omega
  omega
theorem line_w {s : api_Step} (h : okStep s) : (lineL s).length ≤ 420 + 11 * weight s := by
  have hr := rules_w s h.peer
  obtain ⟨hk, ha, hb, hke, had, hle, hne, hda, hpe⟩ := h
  obtain ⟨b, hbb⟩ := of_bytes _ hda.2
  have hbl : b.length = s.fData.length := by rw [hbb, toI_len]
  rw [line_eq hbb]
  have l1 := itoa_len hk
  have l2 := itoa_len ha
  have l3 := itoa_len hb
  have l4 : (Lib.itoa s.fKeep).length ≤ 20 := by rw [itoa_nn hke.1]; exact len20 _ (by omega)
  have l5 : (Lib.itoa s.fPrefix.fAddr).length ≤ 21 := itoa_len ⟨by omega, by omega⟩
  have l6 := itoa_len hle
  have l7 : (Lib.itoa s.fNext).length ≤ 21 := itoa_len ⟨by omega, by omega⟩
  have l9 := hexL_len b
  have l10 := hexL_len (textsL (peerL s.fPeer))
  simp only [List.length_append, List.length_cons, List.length_nil]
  unfold weight
  omega
theorem lines_w (l : List api_Step) (h : ∀ s ∈ l, okStep s) : (linesL l).length ≤ 420 * l.length + 11 * (l.map weight).sum := by
  induction l with
  | nil => exact Nat.zero_le _
  | cons s r ih =>
    have e : linesL (s :: r) = lineL s ++ linesL r := rfl
    have h1 := line_w (h s List.mem_cons_self)
    have h2 := ih fun x hx => h x (List.mem_cons_of_mem _ hx)
    rw [e, List.length_append, List.map_cons, List.sum_cons, List.length_cons]
    omega
theorem weight_mem {l : List api_Step} {s : api_Step} (h : s ∈ l) : weight s ≤ (l.map weight).sum := by
  induction l with
  | nil => cases h
  | cons x r ih =>
    rw [List.map_cons, List.sum_cons]
    rcases List.mem_cons.1 h with rfl | h
    · omega
    · have := ih h; omega
/-- What a small list of steps is. -/
theorem small_ok {l : List api_Step} (h : okIn l) (hs : S326 l = true) : (∀ s ∈ l, small1 s) ∧ okSteps l ∧ (linesL l).length ≤ 60000 ∧ l.length < 60 := by
  obtain ⟨hv, hsm⟩ := h
  unfold S326 weights at hs
  simp only [Bool.and_eq_true, decide_eq_true_eq] at hs
  obtain ⟨hw, h60⟩ := hs
  have h1 : ∀ s ∈ l, small1 s := fun s hs => by
    have hm := weight_mem hs
    have hw1 : weight s = s.fData.length + 50 * (s.fPeer.fIn.length + s.fPeer.fOut.length) := rfl
    have v := hv s hs
    refine ⟨{ k := v.k, a := v.a, b := v.b, keep := v.keep, addr := v.addr, len := v.len, next := v.next, data := ⟨by omega, v.data⟩, peer := ⟨v.num, v.asn, by omega, by omega, v.inn, v.out⟩ }, by omega⟩
  have h2 := lines_w l fun s hs => (h1 s hs).1
  exact ⟨h1, ⟨fun s hs => (h1 s hs).1, by omega⟩, by omega, h60⟩
def step0 : api_Step := ⟨1, -2, 0, [255], ⟨0, 0, [], []⟩, ⟨0, 0⟩, 0, 7⟩
theorem vals0 : okIn [step0] := by
  refine ⟨fun s hs => ?_, ⟨by simp, fun s hs => ?_⟩⟩
  · rw [List.mem_singleton.1 hs]
    refine { k := ⟨by decide, by decide⟩, a := ⟨by decide, by decide⟩, b := ⟨by decide, by decide⟩, keep := ⟨by decide, by decide⟩, addr := ⟨by decide, by decide⟩, len := ⟨by decide, by decide⟩, next := ⟨by decide, by decide⟩, data := fun c hc => ?_, num := ⟨by decide, by decide⟩, asn := ⟨by decide, by decide⟩, inn := fun r hr => (by cases hr), out := fun r hr => (by cases hr) }
    rw [List.mem_singleton.1 hc]; exact ⟨by decide, by decide⟩
  · rw [List.mem_singleton.1 hs]; exact ⟨by decide, by decide, by decide⟩
theorem run327 : RunC C327 6 27 [4] [] W327 [] := by
  intro _
  obtain ⟨h1, h2, h3, _⟩ := small_ok vals0 (by decide +kernel)
  refine of_eq (q327 _) ⟨h2, ⟨by show (bs (linesL [step0])).size ≤ 70000; rw [size_bs]; omega⟩, ⟨(h1 _ (List.mem_singleton.2 rfl)).1.peer⟩, (show 9 ≤ 1099511627776 by decide), (show 38 ≤ 9223372036854775807 by decide), (show 39 ≤ 9223372036854775807 by decide), fun _ => (show (0 : Int) ≤ 0 ∧ (0 : Int) < 1 by decide), rfl⟩
theorem ok327 : Ok327 := by
  refine con_ok (C := C327) ?_ mx7 (by kernel_rfl) run327
  exact kok_cons ok325 (kok_cons ok331 (kok_cons ok328 (kk1 ok329)))
theorem run307 : RunC C307 6 7 [4] [49] W307 [] := by
  intro (l : List api_Step) hx hp
  have h : okIn l := hp _ rfl
  refine of_eq (q307 l _) ⟨h.small, bif_of (fun _ => rfl) (fun hc => ?_)⟩
  have hc : S326 l = true := by simpa using hc
  obtain ⟨h1, h2, h3, _⟩ := small_ok h hc
  have e : S329 (S328 l) = (l, 0, 0) := s329_lines h1
  have hl : okLine (S328 l) := ⟨by show (bs (linesL l)).size ≤ 70000; rw [size_bs]; omega⟩
  have ee : ((S330 l).toList == (S328 l).toList) = true := beq_iff_eq.2 rfl
  refine ⟨h2, hl, h2, bif_of (fun _ => ?_) (fun hn => ?_)⟩
  · rw [e]; exact ⟨h2, ee⟩
  · rw [e, show ((S328 l).toList == (S330 l).toList) = true from ee] at hn
    simp at hn
theorem ok307 : Ok307 := by
  refine con_ok (C := C307) ?_ mx7 (by kernel_rfl) run307
  exact kok_cons ok328 (kok_cons ok330 (kok_cons ok329 (kok_cons ok326 (kk1 ok327))))
theorem tk_no : ∀ (l : List UInt8), ∀ b ∈ tk l, b ≠ 10
  | [], b, hb => by cases hb
  | a :: l, b, hb => by
    unfold tk at hb
    rw [List.takeWhile_cons] at hb
    split at hb
    · rename_i h
      rcases List.mem_cons.1 hb with rfl | hb
      · simpa using h
      · exact tk_no l b hb
    · cases hb
theorem readF_sound : ∀ (k : Nat) (n : Int) (l : List UInt8) (out : List api_Step), l.length ≤ k → l.length ≤ 70000 →
    (∃ m, readF k n l out = (out ++ m, 0, 0) ∧ linesL m = l ∧ ∀ s ∈ m, okStep s) ∨ ∃ line : Int, readF k n l out = ([], line, 7) ∧ n ≤ line ∧ line ≤ n + (l.count 10 : Nat)
  | k, n, [], out, _, _ => .inl ⟨[], by rw [readF_nil, List.append_nil], rfl, fun s hs => (by cases hs)⟩
  | 0, n, b :: r, out, h, _ => by simp at h
  | k + 1, n, b :: r, out, h, h7 => by
    generalize hl : (b :: r) = l at *
    have hne : l ≠ [] := fun e => by rw [e] at hl; cases hl
    rw [readF_cons _ _ _ _ hne]
    have htl := tk_le l
    cases hc : ((S348 (bs (tk l))).2 && decide ((tk l).length < l.length)) with
    | false => exact .inr ⟨n, rfl, Int.le_refl _, by omega⟩
    | true =>
      simp only [Bool.and_eq_true, decide_eq_true_eq] at hc
      obtain ⟨h1, h2⟩ := hc
      have hpos : 0 < l.length := List.length_pos_iff.2 hne
      have hdrop : l = tk l ++ 10 :: l.drop ((tk l).length + 1) := by
        have hidx := idx10 l
        rw [if_pos h2] at hidx
        have hg := (Lib.indexByte_some hidx).1
        conv => lhs; rw [← List.take_append_drop (tk l).length l, ← tk_take]
        rw [List.drop_eq_getElem_cons h2]
        have : l[(tk l).length] = 10 := by rw [List.getElem?_eq_getElem h2] at hg; exact Option.some.inj hg
        rw [this]
      have hcount : l.count 10 = (l.drop ((tk l).length + 1)).count 10 + 1 := by
        conv => lhs; rw [hdrop]
        rw [List.count_append, List.count_cons_self]
        have : (tk l).count 10 = 0 := by
          rw [List.count_eq_zero]
          intro hm
          exact tk_no l 10 hm rfl
        omega
      have hst : okStep (S348 (bs (tk l))).1 ∧ lineL (S348 (bs (tk l))).1 = tk l ++ [10] := by
        have hS : S348 (bs (tk l)) = readStep (bs (tk l)) := lk_eq _ _
        have hsize := s361_size (bs (tk l))
        have hz : (bs (tk l)).size = (tk l).length := size_bs _
        rw [hS] at h1 ⊢
        unfold readStep at h1 ⊢
        cases h9 : decide ((S361 (bs (tk l)) sp).length = 9) with
        | false => rw [h9] at h1; cases h1
        | true =>
          rw [h9, cond_true] at h1
          rw [cond_true]
          simp only [Bool.and_eq_true] at h1
          obtain ⟨h3, h4⟩ := h1
          refine ⟨okStep_of (N := (bs (tk l)).size) (by omega) hsize (of_decide_eq_true h9) ?_, beq_iff_eq.1 h4⟩
          unfold stepOk at h3
          simp only [Bool.and_eq_true] at h3
          exact h3.2
      rw [cond_true]
      rcases readF_sound k (n + 1) (l.drop ((tk l).length + 1)) (out ++ [(S348 (bs (tk l))).1]) (by rw [List.length_drop]; omega) (by rw [List.length_drop]; omega) with ⟨m, e1, e2, e3⟩ | ⟨line, e1, e2, e3⟩
      · refine .inl ⟨(S348 (bs (tk l))).1 :: m, by rw [e1, List.append_assoc]; rfl, ?_, fun s hs => ?_⟩
        · show lineL (S348 (bs (tk l))).1 ++ linesL m = l
          rw [hst.2, e2, List.append_assoc]; exact hdrop.symm
        · rcases List.mem_cons.1 hs with rfl | hs
          · exact hst.1
          · exact e3 s hs
      · exact .inr ⟨line, e1, by omega, by omega⟩
theorem count_take {l : List UInt8} {k : Nat} {c : UInt8} (h : l[k]? = some c) : (l.take (k + 1)).count 10 = (l.take k).count 10 + (if c = 10 then 1 else 0) := by
  rw [List.take_add_one, h, Option.toList_some, List.count_append, List.count_singleton]
  by_cases e : c = 10
  · subst e; rfl
  · rw [if_neg e, if_neg (by simpa using e)]
theorem run308 : RunC C308 6 8 [4] [9] W308 [] := by
  intro (x : ByteArray) hx hp
  obtain ⟨l, rfl⟩ : ∃ l, x = bs l := ⟨x.data.toList, rfl⟩
  have hz : (bs l).size = l.length := size_bs l
  refine of_eq (q308 (bs l) _) (bif_of (fun _ => rfl) (fun hc => ?_))
  have hc := of_decide_eq_false hc
  have hS : S329 (bs l) = readF l.length 1 l [] := s329 (bs l)
  refine ⟨⟨by omega⟩, ?_⟩
  rcases readF_sound l.length 1 l [] (Nat.le_refl _) (by omega) with ⟨m, e1, e2, e3⟩ | ⟨line, e1, e2, e3⟩
  · have e : S329 (bs l) = (m, 0, 0) := by rw [hS, e1]; rfl
    rw [e]
    refine bif_of (fun _ => bif_of (fun _ => ⟨⟨e3, by rw [e2]; omega⟩, ?_⟩) (fun h => by cases h)) (fun h => by cases h)
    show ((bs (linesL m)).toList == (bs l).toList) = true
    rw [e2]; exact beq_iff_eq.2 rfl
  · have e : S329 (bs l) = ([], line, 7) := by rw [hS, e1]
    rw [e]
    have hcl : l.count 10 ≤ l.length := List.count_le_length
    refine bif_of (fun h => by cases h) (fun _ => ?_)
    refine LOOP.of (fun y => ∃ k : Nat, y = ((((l.take k).count 10 : Nat) : Int), (k : Int)) ∧ k ≤ l.length) (fun y => l.length - y.2.toNat) ⟨0, rfl, by omega⟩ ?_
    rintro _ ⟨k, rfl, hk⟩ J hJ
    dsimp only
    rw [hz]
    refine bif_of (fun hc => ?_) (fun hc => ?_)
    · have hc := of_decide_eq_true hc
      have hkl : k < l.length := by omega
      obtain ⟨c, hy⟩ : ∃ c, l[k]? = some c := ⟨_, List.getElem?_eq_getElem hkl⟩
      have ht := count_take hy
      have hle : (l.take k).count 10 ≤ k := Nat.le_trans List.count_le_length (by rw [List.length_take]; omega)
      have hb : (0 : Int) ≤ (k : Int) ∧ (k : Int) < (l.length : Int) := ⟨by omega, hc⟩
      have hg : (bs l).data.toList.getD ((k : Nat) : Int).toNat 0 = c := by
        rw [Int.toNat_natCast]; exact getD_get hy
      rw [hg]
      refine JP.of (fun z => z = (((l.take (k + 1)).count 10 : Nat) : Int)) (fun J1 hJ1 => ⟨hb, bif_of (fun h => hJ1 _ ?_) (fun h => hJ1 _ ?_)⟩) ?_
      · have h := of_decide_eq_true h
        have : c = 10 := by
          have : c.toNat = 10 := by omega
          exact UInt8.toNat_inj.1 this
        rw [wrap64 (by omega), ht, if_pos this]; omega
      · have h := of_decide_eq_false h
        have : c ≠ 10 := fun e => h (by rw [e]; rfl)
        rw [ht, if_neg this]; omega
      · rintro z hz1
        refine hJ _ ⟨k + 1, ?_, hkl⟩ ?_
        · rw [hz1, wrap64 (by omega)]; rfl
        · show l.length - (IntKind.i64.wrap ((k : Int) + 1)).toNat < l.length - ((k : Nat) : Int).toNat
          rw [wrap64 (by omega)]; omega
    · have hc := of_decide_eq_false hc
      obtain rfl : k = l.length := by omega
      rw [List.take_length, wrap64 (by omega)]
      show (decide ((7 : Int) = 7) && decide (((([] : List api_Step).length : Nat) : Int) = 0) && decide (1 ≤ line) && decide (line ≤ _)) = true
      rw [decide_eq_true e2, decide_eq_true (show line ≤ ((l.count 10 : Nat) : Int) + 1 by omega)]
      rfl
theorem ok308 : Ok308 := by
  refine con_ok (C := C308) ?_ mx7 (by kernel_rfl) run308
  exact kok_cons ok330 (kok_cons ok329 (kk1 ok327))
theorem run310 : RunC C310 6 10 [4] [49] W310 [] := by
  intro (l : List api_Step) hx hp
  have h : okIn l := hp _ rfl
  refine of_eq (q310 l _) ⟨h.small, bif_of (fun _ => rfl) (fun hc => ?_)⟩
  rw [Bool.or_eq_false_iff] at hc
  obtain ⟨hc, hne⟩ := hc
  have hc : S326 l = true := by simpa using hc
  have hne := of_decide_eq_false hne
  obtain ⟨h1, h2, h3, _⟩ := small_ok h hc
  have hl0 : l ≠ [] := fun e => hne (by rw [e]; rfl)
  obtain ⟨init, s, rfl⟩ : ∃ init s, l = init ++ [s] := ⟨l.dropLast, l.getLast hl0, (List.dropLast_concat_getLast hl0).symm⟩
  have e1 : linesL (init ++ [s]) = linesL init ++ oneL s ++ [10] := by
    show (init ++ [s]).flatMap lineL = _
    rw [List.flatMap_append]
    show linesL init ++ (lineL s ++ []) = _
    rw [List.append_nil, line_one, List.append_assoc]
  have hz : (S330 (init ++ [s])).size = (linesL init ++ oneL s).length + 1 := by
    show (bs (linesL (init ++ [s]))).size = _
    rw [size_bs, e1, List.length_append]; rfl
  have hlen : (linesL init ++ oneL s).length + 1 ≤ 60000 := by
    rw [e1, List.length_append] at h3; exact h3
  have hw : IntKind.i64.wrap (((S330 (init ++ [s])).size : Int) - 1) = (((linesL init ++ oneL s).length : Nat) : Int) := by
    rw [wrap64 (by omega), hz]; omega
  rw [hw]
  have e2 : (S330 (init ++ [s])).extract 0 (((linesL init ++ oneL s).length : Nat) : Int).toNat = bs (linesL init ++ oneL s) := by
    rw [Int.toNat_natCast]
    show (bs (linesL (init ++ [s]))).extract 0 _ = _
    rw [ext_bs, e1, List.take_left]
  rw [e2]
  have hin : ∀ x ∈ init, small1 x := fun x hx => h1 x (List.mem_append_left _ hx)
  have hs : small1 s := h1 s (by simp)
  have e3 : S329 (bs (linesL init ++ oneL s)) = ([], ((init ++ [s]).length : Int), 7) := by
    rw [s329]
    show readF (linesL init ++ oneL s).length 1 (linesL init ++ oneL s) [] = _
    have hn := lines_num init
    have hone : oneL s ≠ [] := fun e => by
      have h9 := split_line s
      have : joinS (fieldsS s) sp = [] := e
      rw [this] at h9
      have := congrArg List.length h9
      have e5 : (S361 (bs []) sp).length = 1 := by decide +kernel
      rw [e5] at this
      exact absurd this (by show ¬ (1 = 9); decide)
    have hpos : 0 < (oneL s).length := List.length_pos_iff.2 hone
    obtain ⟨k, hk⟩ : ∃ k, (linesL init ++ oneL s).length = (k + 1) + init.length := ⟨(linesL init ++ oneL s).length - init.length - 1, by rw [List.length_append]; omega⟩
    rw [hk, readF_lines init hin, readF_cons _ _ _ _ hone, tk_free (one_free s), decide_eq_false (Nat.lt_irrefl _), Bool.and_false, cond_false]
    rw [show 1 + (init.length : Int) = ((init ++ [s]).length : Int) by rw [List.length_append]; simp only [List.length_cons, List.length_nil]; omega]
  rw [e3]
  refine ⟨h2, ⟨by omega, by omega, by rw [hz]; omega⟩, ⟨by rw [size_bs]; omega⟩, ?_⟩
  show (decide ((7 : Int) = 7) && decide (((init ++ [s]).length : Int) = ((init ++ [s]).length : Int)) && decide (((0 : Nat) : Int) = 0)) = true
  simp
theorem ok310 : Ok310 := by
  refine con_ok (C := C310) ?_ mx7 (by kernel_rfl) run310
  exact kok_cons ok330 (kok_cons ok329 (kok_cons ok326 (kk1 ok327)))
theorem run311 : RunC C311 6 11 [4] [61] W311 [] := by
  intro (s : api_Step) hx hp
  have h : okIn [s] := hp _ rfl
  refine of_eq (q311 s _) ⟨h.small, bif_of (fun _ => rfl) (fun hc => ?_)⟩
  have hc : S326 [s] = true := by simpa using hc
  obtain ⟨h1, h2, h3, _⟩ := small_ok h hc
  have hs : small1 s := h1 s (by simp)
  have hll : (linesL [s, s]).length ≤ 70000 := by
    have e : linesL [s, s] = lineL s ++ (lineL s ++ []) := rfl
    have hw := line_w hs.1
    unfold S326 weights at hc
    simp only [Bool.and_eq_true, decide_eq_true_eq, List.map_cons, List.map_nil, List.sum_cons, List.sum_nil, List.length_cons, List.length_nil] at hc
    rw [e, List.length_append, List.append_nil]; omega
  have h2s : ∀ x ∈ [s, s], small1 x := fun x hx => by
    rcases List.mem_cons.1 hx with rfl | hx
    · exact hs
    · rw [List.mem_singleton.1 hx]; exact hs
  have e : S329 (S328 [s, s]) = ([s, s], 0, 0) := s329_lines h2s
  have hl : okLine (S328 [s, s]) := ⟨by show (bs (linesL [s, s])).size ≤ 70000; rw [size_bs]; exact hll⟩
  rw [e]
  have g0 : (0 : Int) ≤ 0 ∧ (0 : Int) < ((([s, s] : List api_Step).length : Nat) : Int) := ⟨Int.le_refl _, by show (0 : Int) < 2; decide⟩
  have g1 : (0 : Int) ≤ 1 ∧ (1 : Int) < ((([s, s] : List api_Step).length : Nat) : Int) := ⟨by decide, by show (1 : Int) < 2; decide⟩
  have i0 : ix [s, s] 0 = s := rfl
  have i1 : ix [s, s] 1 = s := rfl
  have hop : okSteps [s, s] := ⟨fun x hx => (h2s x hx).1, by omega⟩
  refine ⟨hop, hl, fun _ => g0, fun _ => g0, fun _ => g1, fun _ => g1, fun _ => g0, fun _ => g0, fun _ => g1, fun _ => g0, bif_of (fun _ => ?_) (fun hn => ?_)⟩
  · show (OkP (ix [s, s] 0).fPeer ∧ OkP s.fPeer) ∧ S323 (ix [s, s] 0).fPeer s.fPeer = true
    rw [i0]
    refine ⟨⟨⟨hs.1.peer⟩, ⟨hs.1.peer⟩⟩, ?_⟩
    unfold S323
    rw [decide_eq_true rfl, Bool.true_and]
    exact beq_iff_eq.2 rfl
  · exfalso
    dsimp only at hn
    rw [i0, i1] at hn
    simp at hn
theorem ok311 : Ok311 := by
  refine con_ok (C := C311) ?_ mx7 (by kernel_rfl) run311
  exact kok_cons ok323 (kok_cons ok328 (kok_cons ok329 (kok_cons ok326 (kk1 ok327))))
end Go.Rx
