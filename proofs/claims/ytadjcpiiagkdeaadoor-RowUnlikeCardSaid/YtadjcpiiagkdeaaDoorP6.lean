import Derived.Test.YtadjcpiiagkdeaaDoorP5
import Derived.Shelf.Strings.Search2
import Derived.Sort.Grow
import Derived.Shelf.Strconv.Itoa2
import Derived.Lib.AppendIntMem
import Derived.Lib.ItoaWalk
import Derived.Lib.ItoaMem
import Derived.WalkKit
import Derived.BigCall
import Derived.BigGuard
import Derived.Shelf.Strings.Builder1
import Derived.Lib.Builder
set_option linter.unusedVariables false
set_option linter.unusedSimpArgs false
/-! Functions of the library: numbers as texts, and back. -/
namespace Go.Rx
open Go.Ab Go.L21 Go.Proofs Go.RowKit
set_option linter.unusedVariables false
set_option maxRecDepth 100000
noncomputable def C0 : Cfg S := { P := P7, inl := [], K := [], ann := [] }
theorem bel_grow (w : World) (k : Nat) (os : Array Obj) : Below w.heap.size w (Sort.grow (w.drewN k) os) :=
  ⟨rfl, rfl, rfl, by show w.heap.size ≤ (w.heap ++ os).size; simp, fun b hb => by show (w.heap ++ os)[b]? = _; rw [Array.getElem?_append_left hb]⟩
/-- A call that only computes. -/
theorem pf_done {imm : Imm} {w w' : World} {rts : List Nat} (y : HR S rts) {v : Value} (hok : ImmOk imm w) (hb : Below w.heap.size w w') (hv : Rep noT (gh imm) (denV (tupA (encL (S := S) P7 rts y))) v) :
    ∃ r v' imm', (fun q => q = tupA (encL (S := S) P7 rts y)) r ∧ (denV r).clean = true ∧ Ending.returned v = .returned v' ∧ Imm.le imm imm' ∧ ImmOk imm' w' ∧ (∀ b o u, imm' b o = some u → imm b o = some u ∨ w.heap.size ≤ b) ∧ Rep noT (gh imm') (denV r) v' ∧ Below w.heap.size w w' :=
  ⟨_, v, imm, rfl, enc_clean (S := S) (P := P7) rts y, rfl, Imm.le_refl _, fun b o u h => by
    have hc := hok b o u h
    unfold World.cell? at hc ⊢
    have hb' : b < w.heap.size := by
      split at hc
      · rename_i c _ _ hq; exact (Array.getElem?_eq_some_iff.1 hq).1
      · cases hc
    rw [hb.block b hb']; exact hc, fun b o u h => .inl h, hv, hb⟩
abbrev W333 : CT S [9] [3] := (fun x0 => (some (P333 x0), S333 x0))
abbrev Ok333 : Prop := ConOk P7 33 (ctr P7 [3] [9] W333) ∧ ConMon (ctr P7 [3] [9] W333)
theorem run333 : RunP C0 33 [9] [3] W333 [] := by
  intro (n : Int) hn hp
  obtain ⟨h0, h1⟩ : P333 n := hp _ rfl
  intro imm w vs hok hgl hargs
  obtain ⟨v1, vs1, rfl, hv1, rfl⟩ := hargs
  obtain rfl : v1 = .int .i64 n := hv1
  refine (Any.strconv_Itoa Tryd.laysM171 n h0 h1 w hgl.2.tab).mono ?_
  rintro e w' ⟨rfl, k, os, rfl⟩
  exact pf_done (rts := [9]) (S333 n) hok (bel_grow w k os) rfl
theorem ok333 : Ok333 := con_okP (C := C0) run333
abbrev W337 : CT S [3, 67] [9] := (fun x0 => (some (P337 x0), S337 x0))
abbrev Ok337 : Prop := ConOk P7 37 (ctr P7 [9] [3, 67] W337) ∧ ConMon (ctr P7 [9] [3, 67] W337)
theorem run337 : RunP C0 37 [3, 67] [9] W337 [] := by
  intro (s : ByteArray) hs hp
  have hlim : s.size ≤ 281474976710656 := hp _ rfl
  intro imm w vs hok hgl hargs
  obtain ⟨v1, vs1, rfl, hv1, rfl⟩ := hargs
  obtain rfl : v1 = .string s := hv1
  obtain ⟨ts, ps, hsy⟩ := hgl.2.syn
  obtain ⟨tr, pr, hrg⟩ := hgl.2.rng
  cases h : Lib.atoiAll s.data.toList
  · rename_i v
    have e : S337 s = (v, false) := by unfold S337; rw [h]; rfl
    refine (Any.strconv_Atoi_ok Tryd.laysC172 s (by omega) v h w).mono ?_
    rintro e' w' ⟨rfl, hw⟩
    have hb : Below w.heap.size w w' := by
      rcases hw with rfl | ⟨t, rfl⟩
      · exact Below.refl _ _
      · exact Lib.bytesWorld_below w _ t
    refine pf_done (rts := [3, 67]) (S337 s) hok hb ?_
    rw [e]
    exact ⟨_, rfl, _, _, rfl, rfl, _, _, rfl, .inl ⟨rfl, rfl⟩, rfl⟩
  · skip
    have e : S337 s = (0, true) := by unfold S337; rw [h]; rfl
    refine (Any.strconv_Atoi_syntax Tryd.laysC172 s hlim h _ w hsy (.inr ⟨ts, ps, rfl⟩)).mono ?_
    rintro e' w' ⟨N, rfl, _, _, hb⟩
    refine pf_done (rts := [3, 67]) (S337 s) hok hb ?_
    rw [e]
    exact ⟨_, rfl, _, _, rfl, rfl, _, _, rfl, .inr ⟨rfl, _, _, rfl⟩, rfl⟩
  · skip
    have e : S337 s = (Lib.atoiSat s.data.toList, true) := by unfold S337; rw [h]; rfl
    refine (Any.strconv_Atoi_range Tryd.laysC172 s hlim h _ w hrg (.inr ⟨tr, pr, rfl⟩)).mono ?_
    rintro e' w' ⟨N, rfl, _, _, hb⟩
    refine pf_done (rts := [3, 67]) (S337 s) hok hb ?_
    rw [e]
    exact ⟨_, rfl, _, _, rfl, rfl, _, _, rfl, .inr ⟨rfl, _, _, rfl⟩, rfl⟩
theorem ok337 : Ok337 := con_okP (C := C0) run337
abbrev W357 : CT S [59, 67] [9, 3, 3] := (fun x0 x1 x2 => (some (P357 x0 x1 x2), S357 x0 x1 x2))
abbrev Ok357 : Prop := ConOk P7 57 (ctr P7 [9, 3, 3] [59, 67] W357) ∧ ConMon (ctr P7 [9, 3, 3] [59, 67] W357)
theorem run357 : RunP C0 57 [59, 67] [9, 3, 3] W357 [] := by
  intro (s : ByteArray) hs (b : Int) hb (n : Int) hn hp
  obtain ⟨hlim, rfl, hn⟩ : P357 s b n := hp _ rfl
  intro imm w vs hok hgl hargs
  obtain ⟨v1, vs1, rfl, hv1, v2, vs2, rfl, hv2, v3, vs3, rfl, hv3, rfl⟩ := hargs
  obtain rfl : v1 = .string s := hv1
  obtain rfl : v2 = .int .i64 10 := hv2
  obtain rfl : v3 = .int .i64 n := hv3
  obtain ⟨ts, ps, hsy⟩ := hgl.2.syn
  obtain ⟨tr, pr, hrg⟩ := hgl.2.rng
  have okc : ∀ {v : Nat} {e' : Ending} {w' : World}, S357 s 10 n = ((v : Int), false) → (e' = .returned (.tuple #[.int .u64 v, .nilIface]) ∧ (w' = w ∨ w' = Lib.bytesWorld w 5 s)) → ∃ r v' imm', (fun q => q = tupA (encL (S := S) P7 [59, 67] (S357 s 10 n))) r ∧ (denV r).clean = true ∧ e' = .returned v' ∧ Imm.le imm imm' ∧ ImmOk imm' w' ∧ (∀ b o u, imm' b o = some u → imm b o = some u ∨ w.heap.size ≤ b) ∧ Rep noT (gh imm') (denV r) v' ∧ Below w.heap.size w w' := by
    rintro v e' w' e ⟨rfl, hw⟩
    have hb : Below w.heap.size w w' := by
      rcases hw with rfl | rfl
      · exact Below.refl _ _
      · exact Lib.bytesWorld_below w _ s
    refine pf_done (rts := [59, 67]) (S357 s 10 n) hok hb ?_
    rw [e]
    exact ⟨_, rfl, _, _, rfl, rfl, _, _, rfl, .inl ⟨rfl, rfl⟩, rfl⟩
  have erc : ∀ {v : Int} {te : TypeId} {pe : Value} {w' : World}, S357 s 10 n = (v, true) → Below w.heap.size w w' → ∃ r v' imm', (fun q => q = tupA (encL (S := S) P7 [59, 67] (S357 s 10 n))) r ∧ (denV r).clean = true ∧ Ending.returned (.tuple #[.int .u64 v, .iface te pe]) = .returned v' ∧ Imm.le imm imm' ∧ ImmOk imm' w' ∧ (∀ b o u, imm' b o = some u → imm b o = some u ∨ w.heap.size ≤ b) ∧ Rep noT (gh imm') (denV r) v' ∧ Below w.heap.size w w' := by
    intro v te pe w' e hb
    refine pf_done (rts := [59, 67]) (S357 s 10 n) hok hb ?_
    rw [e]
    exact ⟨_, rfl, _, _, rfl, rfl, _, _, rfl, .inr ⟨rfl, _, _, rfl⟩, rfl⟩
  rcases hn with rfl | rfl
  · cases h : Lib.parseUintB 32 s.data.toList
    · rename_i v
      refine (Any.strconv_ParseUint_10_at32_ok Tryd.laysPu14 s (by omega) v h w).mono fun e' w' hh => okc (v := v) ?_ hh
      show endN (Lib.parseUintB 32 s.data.toList) _ = _
      rw [h]; rfl
    · skip
      refine (Any.strconv_ParseUint_10_at32_syntax Tryd.laysPu14 s hlim h _ w hsy (.inr ⟨ts, ps, rfl⟩)).mono ?_
      rintro e' w' ⟨N, rfl, _, _, hb⟩
      refine erc ?_ hb
      show endN (Lib.parseUintB 32 s.data.toList) _ = _
      rw [h]; rfl
    · skip
      refine (Any.strconv_ParseUint_10_at32_range Tryd.laysPu14 s hlim h _ w hrg (.inr ⟨tr, pr, rfl⟩)).mono ?_
      rintro e' w' ⟨N, rfl, _, _, hb⟩
      refine erc ?_ hb
      show endN (Lib.parseUintB 32 s.data.toList) _ = _
      rw [h]; rfl
  · cases h : Lib.parseUintB 64 s.data.toList
    · rename_i v
      refine (Any.strconv_ParseUint_10_at64_ok Tryd.laysPu14 s (by omega) v h w).mono fun e' w' hh => okc (v := v) ?_ hh
      show endN (Lib.parseUintB 64 s.data.toList) _ = _
      rw [h]; rfl
    · skip
      refine (Any.strconv_ParseUint_10_at64_syntax Tryd.laysPu14 s hlim h _ w hsy (.inr ⟨ts, ps, rfl⟩)).mono ?_
      rintro e' w' ⟨N, rfl, _, _, hb⟩
      refine erc ?_ hb
      show endN (Lib.parseUintB 64 s.data.toList) _ = _
      rw [h]; rfl
    · skip
      refine (Any.strconv_ParseUint_10_at64_range Tryd.laysPu14 s hlim h _ w hrg (.inr ⟨tr, pr, rfl⟩)).mono ?_
      rintro e' w' ⟨N, rfl, _, _, hb⟩
      refine erc ?_ hb
      show endN (Lib.parseUintB 64 s.data.toList) _ = _
      rw [h]; rfl
theorem ok357 : Ok357 := by
  apply con_okP (C := C0) (f := 57) (ts := [9, 3, 3]) (rts := [59, 67]) (W := W357)
  exact run357
abbrev W365 : CT S [3] [9, 9] := (fun x0 x1 => (some (P365 x0 x1), S365 x0 x1))
abbrev Ok365 : Prop := ConOk P7 65 (ctr P7 [9, 9] [3] W365) ∧ ConMon (ctr P7 [9, 9] [3] W365)
theorem run365 : RunP C0 65 [3] [9, 9] W365 [] := by
  intro (s : ByteArray) hs (t : ByteArray) ht hp
  have ht1 : t.size = 1 := hp _ rfl
  intro imm w vs hok hgl hargs
  obtain ⟨v1, vs1, rfl, hv1, v2, vs2, rfl, hv2, rfl⟩ := hargs
  obtain rfl : v1 = .string s := hv1
  obtain rfl : v2 = .string t := hv2
  obtain ⟨c, rfl⟩ : ∃ c, t = ⟨#[c]⟩ := by
    obtain ⟨⟨l⟩⟩ := t
    match l, ht1 with
    | [c], _ => exact ⟨c, rfl⟩
  refine (Any.stringslite_Index_one Tryd.lays219 s c w).mono ?_
  rintro e w' ⟨rfl, rfl⟩
  exact pf_done (rts := [3]) (S365 s ⟨#[c]⟩) hok (Below.refl _ _) rfl
theorem ok365 : Ok365 := con_okP (C := C0) run365
end Go.Rx
/-! strconv.FormatUint at base 10. -/
namespace Go.Proofs
open Go.Shelf Go.RowKit Go.Sort Go.Lib
set_option maxHeartbeats 12800000 in
set_option maxRecDepth 100000 in
theorem Tryd.fmtU_big (u : Nat) (hu : 100 ≤ u) (hu64 : u < 18446744073709551616) (w : World)
    (htab : Lib.TabIs Tryd.prog w "internal/strconv.uint64pow10" .u64 Lib.pow10Tab) :
    Calls Tryd.prog 71 #[.int .u64 u, .int .i64 10] w fun e w' => e = .returned (.string ⟨(Lib.itoa u).toArray⟩) ∧ ∃ k os, w' = grow (w.drewN k) os := by
  have hu1 : 1 ≤ u := by omega
  have hnd20 : Lib.nDigits u ≤ 20 := by have := Lib.numDigits_eq u hu1 hu64; split at this <;> omega
  have hal : Tryd.prog.arrayLen 116 = 24 := by simp [Program.arrayLen, Tryd.underlying116]
  have hsl : ∀ W, (Instr.sliceAt 116 (.pointer (some ⟨w.heap.size, 0, none⟩)) none (some (.int .i64 (Lib.nDigits u : Int))) none).run Tryd.prog W = .ok (.slice (some ⟨w.heap.size, 0, none⟩) (Lib.nDigits u) 24) W := fun W => by
    rw [run_sliceAt_array_h W 116 ⟨w.heap.size, 0, none⟩ (by simp [Program.arrayLen, Program.elem, Tryd.underlying116]) .i64 (Lib.nDigits u : Int) (by omega) (by rw [hal]; omega)]
    go_simp
  have hH0 := Lib.holds_zero0 w 116 (Lib.nDigits u) (by omega)
  have hfmt := Any.internal_strconv_formatBase10 Tryd.lays285 w.heap.size 0 24 u (Array.replicate (Lib.nDigits u) 0) (w.alloc (.cells Lib.zeros24 116)) hH0 (by rw [Array.size_replicate]; exact Lib.lt_pow_nDigits u) hu64 (by rw [Array.size_replicate]; omega)
  rw [Array.size_replicate] at hfmt
  have HH0 := Lib.hid hH0
  have iu : (100 : Int) ≤ (u : Int) := by omega
  clear hH0 hal
  go_enter Tryd.func71, Tryd.ntmps71
  go_wp2_with (first
    | (go_at_call 77; refine (Any.internal_strconv_numDigits Tryd.laysM284 u hu1 hu64 _ (Lib.tabIs_alloc htab _)).mono ?_; rintro e w' ⟨rfl, rfl⟩))
  go_at_call 78
  refine hfmt.mono ?_
  rintro e w' ⟨rfl, k, v', dk, rfl, hF⟩
  have hcv : (convert 58 9 (.slice (some ⟨w.heap.size, 0, none⟩) (Lib.nDigits u) 24)).run Tryd.prog ((putRow (fun (b : UInt8) => Value.int .u8 (b.toNat : Int)) (w.alloc (.cells Lib.zeros24 116)) w.heap.size 0 dk).drewN k) = .ok (.string ⟨(Lib.decDigits u).toArray⟩) ((putRow (fun (b : UInt8) => Value.int .u8 (b.toNat : Int)) (w.alloc (.cells Lib.zeros24 116)) w.heap.size 0 dk).drewN k) := by
    have h := run_convert_bytes_back (P := Tryd.prog) ((putRow (fun (b : UInt8) => Value.int .u8 (b.toNat : Int)) (w.alloc (.cells Lib.zeros24 116)) w.heap.size 0 dk).drewN k) 58 9 5 ⟨w.heap.size, 0, none⟩ 24 (Lib.decDigits u) Tryd.lays285.t37 Tryd.lays285.t5 Tryd.lays285.t9 (fun j hj => by
      rw [Lib.row_is_numeral hF j hj, Lib.add_plain, World.cell?_drewN]
      exact cell?_putRow (fun (b : UInt8) => Value.int .u8 (b.toNat : Int)) _ w.heap.size 0 _ dk HH0.out (by rw [hF.size, Array.size_replicate]) j (by rw [hF.size]; rw [Lib.decDigits_length] at hj; exact hj))
    rw [Lib.decDigits_length] at h
    exact h
  go_wp2
  go_ret
  obtain ⟨os, eo⟩ := Lib.fin_at w (.cells Lib.zeros24 116) dk k 0
  refine ⟨?_, k, os, eo⟩
  rw [Lib.itoa_nonneg]
  rfl
set_option maxRecDepth 100000 in
theorem Tryd.fmtU_small (u : Nat) (hu : u < 100) (w : World) :
    Calls Tryd.prog 71 #[.int .u64 u, .int .i64 10] w fun e w' => e = .returned (.string ⟨(Lib.itoa u).toArray⟩) ∧ ∃ k os, w' = grow (w.drewN k) os := by
  have iu : (u : Int) < 100 := by omega
  go_enter Tryd.func71, Tryd.ntmps71
  go_wp2_with (go_at_call 76; refine (Any.internal_strconv_small Tryd.lays283 u hu _).mono ?_; rintro e w' ⟨rfl, rfl⟩)
  go_ret
  refine ⟨?_, 0, #[], by simp [World.drewN_zero, grow]⟩
  rw [Lib.itoa_nonneg]
  rfl
set_option maxRecDepth 100000 in
theorem Tryd.fmtU (u : Nat) (hu64 : u < 18446744073709551616) (w : World)
    (htab : Lib.TabIs Tryd.prog w "internal/strconv.uint64pow10" .u64 Lib.pow10Tab) :
    Calls Tryd.prog 56 #[.int .u64 u, .int .i64 10] w fun e w' => e = .returned (.string ⟨(Lib.itoa u).toArray⟩) ∧ ∃ k os, w' = grow (w.drewN k) os := by
  have h : Calls Tryd.prog 71 #[.int .u64 u, .int .i64 10] w fun e w' => e = .returned (.string ⟨(Lib.itoa u).toArray⟩) ∧ ∃ k os, w' = grow (w.drewN k) os := by
    by_cases hs : u < 100
    · exact Tryd.fmtU_small u hs w
    · exact Tryd.fmtU_big u (by omega) hu64 w htab
  go_enter Tryd.func56, Tryd.ntmps56
  go_wp2_with (go_at_call 71; refine h.mono ?_; rintro e w' ⟨rfl, k, os, rfl⟩)
  go_ret
  exact ⟨rfl, k, os, rfl⟩
end Go.Proofs
namespace Go.Rx
open Go.Ab Go.L21 Go.Proofs Go.RowKit
set_option maxRecDepth 100000
abbrev W356 : CT S [9] [59, 3] := (fun x0 x1 => (some (P356 x0 x1), S356 x0 x1))
abbrev Ok356 : Prop := ConOk P7 56 (ctr P7 [59, 3] [9] W356) ∧ ConMon (ctr P7 [59, 3] [9] W356)
theorem run356 : RunP C0 56 [9] [59, 3] W356 [] := by
  intro (n : Int) hn (b : Int) hb hp
  obtain ⟨rfl, h0, h1⟩ : P356 n b := hp _ rfl
  intro imm w vs hok hgl hargs
  obtain ⟨v1, vs1, rfl, hv1, v2, vs2, rfl, hv2, rfl⟩ := hargs
  obtain rfl : v1 = .int .u64 n := hv1
  obtain rfl : v2 = .int .i64 10 := hv2
  obtain ⟨u, rfl⟩ : ∃ u : Nat, n = u := ⟨n.toNat, by omega⟩
  refine (Tryd.fmtU u (by omega) w hgl.2.tab).mono ?_
  rintro e w' ⟨rfl, k, os, rfl⟩
  exact pf_done (rts := [9]) (S356 u 10) hok (bel_grow w k os) rfl
theorem ok356 : Ok356 := con_okP (C := C0) run356
end Go.Rx
/-! row.Texts, with the builder of the library. -/
namespace Go.Proofs
open Go.Shelf Go.RowKit Go.Sort Go.Lib
theorem bAt_grow {T e : TypeId} {B b : Nat} {p : Value} {bs : List Value} {w : World} (h : Lib.BuilderAt T e B b p bs w) (k : Nat) (os : Array Obj) : Lib.BuilderAt T e B b p bs (grow (w.drewN k) os) := by
  obtain ⟨hB, v, hb, ho, hn⟩ := h
  refine ⟨hB, v, ?_, Lib.ownsRow_grow ho k os, hn⟩
  show (w.heap ++ os)[b]? = _
  rw [Array.getElem?_append_left (Array.getElem?_eq_some_iff.1 hb).1]
  exact hb
theorem isB_grow {T e : TypeId} {B b : Nat} {bs : List Value} {w : World} (h : Lib.IsBuilder T e B b bs w) (k : Nat) (os : Array Obj) : Lib.IsBuilder T e B b bs (grow (w.drewN k) os) :=
  h.elim (fun h => .inl (bAt_grow h k os)) (fun h => .inr (bAt_grow h k os))
theorem Tryd.wstr (B b : Nat) (bs : List Value) (s : ByteArray) (w : World) (h : Lib.IsBuilder 65 5 B b bs w) (hlen : bs.length + s.size ≤ 140737488355328) (hBw : B ≤ w.heap.size) :
    Calls Tryd.prog 32 #[.pointer (some ⟨b, 0, none⟩), .string s] w fun e w' => e = .returned (.tuple #[.int .i64 s.size, .nilIface]) ∧ Lib.IsBuilder 65 5 B b (bs ++ Lib.strCells s) w' ∧ Below B w w' :=
  (Any.Builder_WriteString Tryd.lays166 Tryd.Builder_Extra_166 B b bs s w h hlen hBw).mono fun _ _ hh => ⟨hh.1, .inr hh.2.1, hh.2.2⟩
theorem Tryd.wbyte (B b : Nat) (bs : List Value) (c : Int) (w : World) (h : Lib.IsBuilder 65 5 B b bs w) (hlen : bs.length + 1 ≤ 140737488355328) (hBw : B ≤ w.heap.size) :
    Calls Tryd.prog 34 #[.pointer (some ⟨b, 0, none⟩), .int .u8 c] w fun e w' => e = .returned .nilIface ∧ Lib.IsBuilder 65 5 B b (bs ++ [.int .u8 c]) w' ∧ Below B w w' :=
  (Any.Builder_WriteByte Tryd.lays167 Tryd.Builder_Extra_167 B b bs c w h hlen hBw).mono fun _ _ hh => ⟨hh.1, .inr hh.2.1, hh.2.2⟩
theorem Tryd.bstr (B b : Nat) (l : List UInt8) (w : World) (h : Lib.IsBuilder 65 5 B b (Lib.byteCells l) w) (hBw : B ≤ w.heap.size) :
    Calls Tryd.prog 35 #[.pointer (some ⟨b, 0, none⟩)] w fun e w' => e = .returned (.string ⟨l.toArray⟩) ∧ Below B w w' :=
  Any.Builder_String_any Tryd.lays169 Tryd.Builder_Extra_169 B b l w h hBw
open Go.L21 Go.Rx in
theorem texts_take {xs : List ByteArray} {k : Nat} {y : ByteArray} (h : xs[k]? = some y) : textsL (xs.take (k + 1)) = textsL (xs.take k) ++ textL y := by
  rw [List.take_add_one, h]; simp [textsL]
open Go.L21 Go.Rx in
theorem texts_le (xs : List ByteArray) (k : Nat) : (textsL (xs.take k)).length ≤ (textsL xs).length := by
  conv => rhs; rw [← List.take_append_drop k xs]
  unfold textsL; rw [List.flatMap_append, List.length_append]; omega
open Go.L21 Go.Rx in
theorem texts_num (xs : List ByteArray) : xs.length ≤ (textsL xs).length := by
  induction xs with
  | nil => exact Nat.zero_le _
  | cons x r ih => simp only [textsL, List.flatMap_cons, List.length_append, List.length_cons, textL] at ih ⊢; omega
theorem hidT {p : Prop} (h : p) : Hid p := h
open Go.L21 Go.Rx in
set_option maxHeartbeats 4000000 in
set_option maxRecDepth 100000 in
theorem Tryd.texts_walk (A : Option Addr) (c : Nat) (xs : List ByteArray) (w : World) (hlen : (textsL xs).length ≤ 70368744177664) (htab : Lib.TabIs Tryd.prog w "internal/strconv.uint64pow10" .u64 Lib.pow10Tab)
    (hcells : ∀ (j : Nat) x, xs[j]? = some x → ∃ bk o, A = some ⟨bk, o, none⟩ ∧ bk < w.heap.size ∧ w.cell? ⟨bk, o + j, none⟩ = some (.string x)) :
    Calls Tryd.prog 14 #[.slice A xs.length c] w fun e w' => e = .returned (.string ⟨(textsL xs).toArray⟩) ∧ Below w.heap.size w w' := by
  have HC := hidT hcells
  have HT := hidT htab
  have HL := hidT hlen
  have hxl := texts_num xs
  have hxl2 : xs.length ≤ 70368744177664 := by omega
  clear hcells htab hlen hxl
  go_enter Tryd.func14, Tryd.ntmps14
  go_wp2
  go_loopw [8] (fun i wr => ∃ k : Nat, k ≤ xs.length ∧ i = .int .i64 k ∧ Hid (Lib.IsBuilder 65 5 w.heap.size w.heap.size (Lib.byteCells (textsL (xs.take k))) wr) ∧ Hid (Below w.heap.size w wr)) (fun i _ => xs.length - (RowKit.intOf i).toNat)
  case atStart => exact ⟨0, Nat.zero_le _, rfl, hidT (Lib.fresh_isBuilder 65 5 w), hidT ((Below.refl _ w).alloc (Nat.le_refl _) _)⟩
  case round =>
    obtain ⟨k, hk, rfl, HB, HW⟩ := hrel
    by_cases hkr : k < xs.length
    · obtain ⟨y, hy⟩ : ∃ y, xs[k]? = some y := ⟨xs[k], List.getElem?_eq_getElem hkr⟩
      obtain ⟨bk, o, rfl, hbk, hcy⟩ := HC.out k y hy
      have hcy : wr.cell? ⟨bk, o + k, none⟩ = some (.string y) := by
        rw [HW.out.cell (p := ⟨bk, o + k, none⟩) hbk]; exact hcy
      have hBw : w.heap.size ≤ wr.heap.size := HW.out.size
      have hnext : Lib.byteCells (textsL (xs.take k)) ++ Lib.strCells ⟨(Lib.itoa y.size).toArray⟩ ++ [Value.int .u8 58] ++ Lib.strCells y = Lib.byteCells (textsL (xs.take (k + 1))) := by
        rw [texts_take hy, Lib.strCells_eq, Lib.strCells_eq, Lib.byteCells_append, textL, Lib.byteCells_append]
        simp [Lib.byteCells]
      have hl := texts_le xs (k + 1)
      have hl2 := HL.out
      rw [texts_take hy, textL] at hl
      simp only [List.length_append, List.length_cons, ← Lib.size_eq] at hl
      have hl0 : (Lib.byteCells (textsL (xs.take k))).length = (textsL (xs.take k)).length := Lib.byteCells_length _
      have hi0 : (⟨(Lib.itoa y.size).toArray⟩ : ByteArray).size = (Lib.itoa y.size).length := List.size_toArray
      generalize (textsL (xs.take k)).length = J at hl0 hl
      generalize (Lib.itoa y.size).length = I at hi0 hl
      have hys : y.size ≤ 70368744177664 := by omega
      have htr := var_ge HW.out.block HT.out
      have Hn := hidT hnext
      have Hl := hidT hl
      have Hl2 := hidT hl2
      clear hnext hy hl hl2
      go_wp2_with (go_at_call 33; refine (Any.strconv_Itoa Tryd.laysM171 (y.size : Int) (by omega) (by omega) wr htr).mono ?_)
      rintro e w1 ⟨rfl, q, os, rfl⟩
      have HB1 := hidT (isB_grow HB.out q os)
      have HW1 := hidT (HW.out.trans (Rx.bel_grow wr q os |>.mono hBw))
      generalize grow (wr.drewN q) os = W1 at HB1 HW1 ⊢
      have hBw1 : w.heap.size ≤ W1.heap.size := HW1.out.size
      go_wp2_with (go_at_call 32; refine (Tryd.wstr w.heap.size w.heap.size _ _ W1 HB1.out (by rw [hl0, hi0]; have := Hl.out; have := Hl2.out; omega) hBw1).mono ?_)
      rintro e W2 ⟨rfl, HB2, hb2⟩
      have HB2 := hidT HB2
      have HW2 := hidT (HW1.out.trans hb2)
      have hBw2 : w.heap.size ≤ W2.heap.size := HW2.out.size
      clear hb2
      go_wp2_with (go_at_call 34; refine (Tryd.wbyte w.heap.size w.heap.size _ 58 W2 HB2.out (by rw [List.length_append, hl0, Lib.strCells_length, hi0]; have := Hl.out; have := Hl2.out; omega) hBw2).mono ?_)
      rintro e W3 ⟨rfl, HB3, hb3⟩
      have HB3 := hidT HB3
      have HW3 := hidT (HW2.out.trans hb3)
      have hBw3 : w.heap.size ≤ W3.heap.size := HW3.out.size
      clear hb3
      go_wp2_with (go_at_call 32; refine (Tryd.wstr w.heap.size w.heap.size _ y W3 HB3.out (by rw [List.length_append, List.length_append, hl0, Lib.strCells_length, hi0]; have := Hl.out; have := Hl2.out; simp; omega) hBw3).mono ?_)
      rintro e W4 ⟨rfl, HB4, hb4⟩
      rw [Hn.out] at HB4
      have HB4 := hidT HB4
      have HW4 := hidT (HW3.out.trans hb4)
      clear hb4
      go_wp2
      exact ⟨⟨k + 1, by omega, by go_num, HB4, HW4⟩, by simp [RowKit.intOf]; omega⟩
    · have hke : k = xs.length := by omega
      subst hke
      have hB' := HB.out
      rw [List.take_length] at hB'
      have hBw : w.heap.size ≤ wr.heap.size := HW.out.size
      go_wp2_with (go_at_call 35; refine (Tryd.bstr w.heap.size w.heap.size _ wr hB' hBw).mono ?_)
      rintro e w5 ⟨rfl, hb5⟩
      have Hb5 := hidT (HW.out.trans hb5)
      clear hb5 hB'
      go_wp2
      go_ret
      exact ⟨rfl, Hb5.out⟩
end Go.Proofs
namespace Go.Rx
open Go.Ab Go.L21 Go.Proofs Go.RowKit
set_option maxRecDepth 100000
theorem cell_strs {imm : Imm} {w : World} {x : List ByteArray} {v : Value} (hok : ImmOk imm w) (h : sliceH (S.E 9) x imm v) : ∃ A c, v = .slice A x.length c ∧ ∀ (j : Nat) y, x[j]? = some y → ∃ bk o, A = some ⟨bk, o, none⟩ ∧ bk < w.heap.size ∧ w.cell? ⟨bk, o + j, none⟩ = some (.string y) := by
  obtain ⟨A, c, h1, h2, h3, h4, h5⟩ := h
  refine ⟨A, c, h1, fun j y hy => ?_⟩
  obtain ⟨b, o, e, h6⟩ := h5 (fun e => by rw [e] at hy; cases hy)
  obtain ⟨vs, h7, h8⟩ := h6 j y hy
  obtain ⟨v, vs', rfl, h9, _, h10⟩ := h7
  have h9 : v = .string y := h9
  have := hok _ _ _ (h8 0 v rfl)
  have e2 : o + j * (S.E 9).sz + 0 = o + j := by show o + j * 1 + 0 = o + j; omega
  rw [e2] at this
  refine ⟨b, o, e, ?_, by rw [this, h9]⟩
  unfold World.cell? at this
  split at this
  · rename_i c _ _ hq; exact (Array.getElem?_eq_some_iff.1 hq).1
  · cases this
abbrev W314 : CT S [9] [22] := (fun x0 => (some (P314 x0), S314 x0))
abbrev Ok314 : Prop := ConOk P7 14 (ctr P7 [22] [9] W314) ∧ ConMon (ctr P7 [22] [9] W314)
theorem run314 : RunP C0 14 [9] [22] W314 [] := by
  intro (x : List ByteArray) hx hp
  have h0 : (textsL x).length ≤ 70368744177664 := hp _ rfl
  intro imm w vs hok hgl hargs
  obtain ⟨v1, vs1, rfl, hv1, rfl⟩ := hargs
  obtain ⟨A, c, rfl, hcell⟩ := cell_strs hok (show sliceH (S.E 9) x imm v1 from hv1)
  refine (Tryd.texts_walk A c x w h0 hgl.2.tab hcell).mono ?_
  rintro e w' ⟨rfl, hb⟩
  exact pf_done (rts := [9]) (S314 x) hok hb rfl
theorem ok314 : Ok314 := con_okP (C := C0) run314
end Go.Rx
namespace Go.Rx
open Go.Ab Go.L21
set_option maxRecDepth 100000
set_option maxHeartbeats 20000000
set_option linter.unusedVariables false
/-- interregnum/row.Split -/
noncomputable def C315 : Cfg S := { P := P7, inl := [], K := [(33, ctr P7 [3] [9] (fun x0 => (some (P333 x0), S333 x0))), (37, ctr P7 [9] [3, 67] (fun x0 => (some (P337 x0), S337 x0))), (65, ctr P7 [9, 9] [3] (fun x0 x1 => (some (P365 x0 x1), S365 x0 x1)))], ann := [(15, [(3, .loop [(.sl 4, .own 9), (.sl 5, .str)])])] }
abbrev W315 : CT S [22, 4] [9] := (fun x0 => (some (P315 x0), S315 x0))
abbrev Ok315 : Prop := ConOk P7 15 (ctr P7 [9] [22, 4] W315) ∧ ConMon (ctr P7 [9] [22, 4] W315)
theorem q315 (x0 : ByteArray) (v : HR S [22, 4]) : (Xf C315 6 (emp 0) 15 (argsA C315 [⟨9, x0⟩]) (emp 0) (fun r _ => isR C315.P [22, 4] v r) (fun _ _ => False))
 = (LOOP (fun (h : List ByteArray × ByteArray) (J : List ByteArray × ByteArray → Prop) => bif !h.snd.toList == (ByteArray.mk #[]).toList then nat_lit 1 =
 nat_lit 1 ∧ bif decide ((0 : Int) ≤ S365 h.snd (ByteArray.mk #[(58 : UInt8)])) then ((0 : Int) ≤ (0 : Int) ∧ (0 : Int) ≤ S365 h.snd (ByteArray.mk #[(58 :
 UInt8)]) ∧ S365 h.snd (ByteArray.mk #[(58 : UInt8)]) ≤ (↑h.snd.size : Int)) ∧ ((0 : Int) ≤ IntKind.i64.wrap (S365 h.snd (ByteArray.mk #[(58 : UInt8)]) +
 (↑(nat_lit 1) : Int)) ∧ IntKind.i64.wrap (S365 h.snd (ByteArray.mk #[(58 : UInt8)]) + (↑(nat_lit 1) : Int)) ≤ (↑h.snd.size : Int) ∧ (↑h.snd.size : Int) ≤
 (↑h.snd.size : Int)) ∧ (h.snd.extract (nat_lit 0) (S365 h.snd (ByteArray.mk #[(58 : UInt8)])).toNat).size.le (nat_lit 281474976710656) ∧ bif (S337
 (h.snd.extract (nat_lit 0) (S365 h.snd (ByteArray.mk #[(58 : UInt8)])).toNat)).snd || decide ((S337 (h.snd.extract (nat_lit 0) (S365 h.snd (ByteArray.mk #[(58
 : UInt8)])).toNat)).fst < (0 : Int)) || decide ((↑(h.snd.extract (IntKind.i64.wrap (S365 h.snd (ByteArray.mk #[(58 : UInt8)]) + (↑(nat_lit 1) : Int))).toNat
 (↑h.snd.size : Int).toNat).size : Int) < (S337 (h.snd.extract (nat_lit 0) (S365 h.snd (ByteArray.mk #[(58 : UInt8)])).toNat)).fst) then ([], false) = v else
 ((-9223372036854775808 : Int) ≤ (S337 (h.snd.extract (nat_lit 0) (S365 h.snd (ByteArray.mk #[(58 : UInt8)])).toNat)).fst ∧ (S337 (h.snd.extract (nat_lit 0)
 (S365 h.snd (ByteArray.mk #[(58 : UInt8)])).toNat)).fst ≤ (9223372036854775807 : Int)) ∧ bif !(S333 (S337 (h.snd.extract (nat_lit 0) (S365 h.snd (ByteArray.mk
 #[(58 : UInt8)])).toNat)).fst).toList == (h.snd.extract (nat_lit 0) (S365 h.snd (ByteArray.mk #[(58 : UInt8)])).toNat).toList then ([], false) = v else ((0 :
 Int) ≤ (0 : Int) ∧ (0 : Int) ≤ (S337 (h.snd.extract (nat_lit 0) (S365 h.snd (ByteArray.mk #[(58 : UInt8)])).toNat)).fst ∧ (S337 (h.snd.extract (nat_lit 0)
 (S365 h.snd (ByteArray.mk #[(58 : UInt8)])).toNat)).fst ≤ (↑(h.snd.extract (IntKind.i64.wrap (S365 h.snd (ByteArray.mk #[(58 : UInt8)]) + (↑(nat_lit 1) :
 Int))).toNat (↑h.snd.size : Int).toNat).size : Int)) ∧ (h.fst.length = h.fst.length ∧ (h.fst.length + [(h.snd.extract (IntKind.i64.wrap (S365 h.snd
 (ByteArray.mk #[(58 : UInt8)]) + (↑(nat_lit 1) : Int))).toNat (↑h.snd.size : Int).toNat).extract (nat_lit 0) (S337 (h.snd.extract (nat_lit 0) (S365 h.snd
 (ByteArray.mk #[(58 : UInt8)])).toNat)).fst.toNat].length) * nat_lit 16 ≤ nat_lit 140737488355328) ∧ ∀ (y : List (ByteArray)), y = h.fst ++ [(h.snd.extract
 (IntKind.i64.wrap (S365 h.snd (ByteArray.mk #[(58 : UInt8)]) + (↑(nat_lit 1) : Int))).toNat (↑h.snd.size : Int).toNat).extract (nat_lit 0) (S337
 (h.snd.extract (nat_lit 0) (S365 h.snd (ByteArray.mk #[(58 : UInt8)])).toNat)).fst.toNat] → ((0 : Int) ≤ (S337 (h.snd.extract (nat_lit 0) (S365 h.snd
 (ByteArray.mk #[(58 : UInt8)])).toNat)).fst ∧ (S337 (h.snd.extract (nat_lit 0) (S365 h.snd (ByteArray.mk #[(58 : UInt8)])).toNat)).fst ≤ (↑(h.snd.extract
 (IntKind.i64.wrap (S365 h.snd (ByteArray.mk #[(58 : UInt8)]) + (↑(nat_lit 1) : Int))).toNat (↑h.snd.size : Int).toNat).size : Int) ∧ (↑(h.snd.extract
 (IntKind.i64.wrap (S365 h.snd (ByteArray.mk #[(58 : UInt8)]) + (↑(nat_lit 1) : Int))).toNat (↑h.snd.size : Int).toNat).size : Int) ≤ (↑(h.snd.extract
 (IntKind.i64.wrap (S365 h.snd (ByteArray.mk #[(58 : UInt8)]) + (↑(nat_lit 1) : Int))).toNat (↑h.snd.size : Int).toNat).size : Int)) ∧ y.length = y.length ∧ J
 (y, (h.snd.extract (IntKind.i64.wrap (S365 h.snd (ByteArray.mk #[(58 : UInt8)]) + (↑(nat_lit 1) : Int))).toNat (↑h.snd.size : Int).toNat).extract (S337
 (h.snd.extract (nat_lit 0) (S365 h.snd (ByteArray.mk #[(58 : UInt8)])).toNat)).fst.toNat (↑(h.snd.extract (IntKind.i64.wrap (S365 h.snd (ByteArray.mk #[(58 :
 UInt8)]) + (↑(nat_lit 1) : Int))).toNat (↑h.snd.size : Int).toNat).size : Int).toNat) else h.snd.size.le (nat_lit 281474976710656) ∧ ([], false) = v else
 (h.fst, true) = v) ([], x0)) := by kernel_rfl
end Go.Rx
/-! row.Split. -/
namespace Go.Rx
open Go.Ab Go.L21
set_option linter.unusedVariables false
set_option maxRecDepth 100000
theorem wrap64 {n : Int} (h : -9223372036854775808 ≤ n ∧ n ≤ 9223372036854775807) : IntKind.i64.wrap n = n := wrap64_id h
/-- What is handed back, with out's parts ahead. -/
def finS (out : List ByteArray) : Option (List (List UInt8)) → List ByteArray × Bool
  | none => ([], false)
  | some t => (out ++ t.map bs, true)
theorem finS_nil (l : List UInt8) (x : ByteArray) (h : l = x.data.toList) : finS [] (splitL l) = S315 x := by
  subst h; unfold S315
  cases splitL x.data.toList <;> rfl
theorem finS_some {l x r : List UInt8} {out : List ByteArray} (h : split1 l = some (x, r)) : finS out (splitL l) = finS (out ++ [bs x]) (splitL r) := by
  rw [splitL_some h]
  cases splitL r with
  | none => rfl
  | some t => show (out ++ (x :: t).map bs, true) = _; simp [finS]
/-- The text up to the colon. -/
abbrev tw (l : List UInt8) : List UInt8 := l.takeWhile (· != 58)
theorem tw_le (l : List UInt8) : (tw l).length ≤ l.length := by
  induction l with
  | nil => exact Nat.le_refl _
  | cons c r ih => unfold tw at *; rw [List.takeWhile_cons]; split <;> simp; omega
theorem tw_take (l : List UInt8) : tw l = l.take (tw l).length := by
  induction l with
  | nil => rfl
  | cons c r ih =>
    unfold tw at *; rw [List.takeWhile_cons]; split
    · rw [List.length_cons, List.take_succ_cons, ← ih]
    · rfl
theorem idx58 (l : List UInt8) : Lib.indexByte l 58 = if (tw l).length < l.length then ((tw l).length : Int) else -1 := by
  induction l with
  | nil => rfl
  | cons c r ih =>
    unfold tw at *
    rw [Lib.indexByte, List.takeWhile_cons]
    by_cases hc : c = 58
    · subst hc; rfl
    · have h1 : (c == 58) = false := by simpa using hc
      have h2 : (c != 58) = true := by simpa using hc
      rw [h1, h2]
      simp only [if_true, Bool.false_eq_true, if_false, List.length_cons]
      rw [ih]
      by_cases hl : (r.takeWhile (· != 58)).length < r.length
      · rw [if_pos hl, if_pos (Nat.succ_lt_succ hl), if_neg (by simp only [beq_iff_eq]; omega)]
        omega
      · rw [if_neg hl, if_neg (fun h => hl (Nat.lt_of_succ_lt_succ h))]; rfl
theorem split1_is (l : List UInt8) : split1 l = if (tw l).length < l.length ∧ tw l = Lib.decDigits (valL (tw l)) ∧ valL (tw l) ≤ (l.drop ((tw l).length + 1)).length then some ((l.drop ((tw l).length + 1)).take (valL (tw l)), (l.drop ((tw l).length + 1)).drop (valL (tw l))) else none := by
  unfold split1
  simp only []
  split
  · rename_i h
    obtain ⟨h1, h2, h3⟩ := h
    have e2 : (tw l == Lib.decDigits (valL (tw l))) = true := beq_iff_eq.2 h2
    rw [show decide ((l.takeWhile (· != 58)).length < l.length) = true from decide_eq_true h1, show (l.takeWhile (· != 58) == Lib.decDigits (valL (l.takeWhile (· != 58)))) = true from e2, show decide (valL (l.takeWhile (· != 58)) ≤ (l.drop ((l.takeWhile (· != 58)).length + 1)).length) = true from decide_eq_true h3]
    rfl
  · rename_i h
    cases hb : (decide ((l.takeWhile (· != 58)).length < l.length) && (l.takeWhile (· != 58) == Lib.decDigits (valL (l.takeWhile (· != 58)))) && decide (valL (l.takeWhile (· != 58)) ≤ (l.drop ((l.takeWhile (· != 58)).length + 1)).length)) with
    | false => rfl
    | true =>
      rw [Bool.and_eq_true, Bool.and_eq_true, decide_eq_true_eq, decide_eq_true_eq, beq_iff_eq] at hb
      exact absurd ⟨hb.1.1, hb.1.2, hb.2⟩ h
theorem ext0 (s : ByteArray) (k : Nat) : (s.extract 0 k).data.toList = s.data.toList.take k := by
  rw [Lib.extract_data]; rfl
theorem extE (s : ByteArray) (k : Nat) : (s.extract k s.size).data.toList = s.data.toList.drop k := by
  rw [Lib.extract_data, List.take_of_length_le]
  rw [List.length_drop, ← Lib.size_eq]; omega
theorem s337_dec {s : ByteArray} {v : Nat} (h : s.data.toList = Lib.decDigits v) (hv : v < 9223372036854775808) : S337 s = ((v : Int), false) := by
  unfold S337
  rw [h, atoi_dec v hv]; rfl
/-- The four ways of a round. -/
theorem round15 {l : List UInt8} {k : Nat} {sz bh : ByteArray} (hl : l.length ≤ 1099511627776) (hk : (tw l).length = k) (hkl : k < l.length) (hs : sz.data.toList = tw l) (hb : bh.data.toList = l.drop (k + 1)) :
    (((S337 sz).2 || decide ((S337 sz).1 < 0) || decide ((bh.size : Int) < (S337 sz).1)) = true → split1 l = none) ∧
    (((S337 sz).2 || decide ((S337 sz).1 < 0) || decide ((bh.size : Int) < (S337 sz).1)) = false → (0 ≤ (S337 sz).1 ∧ (S337 sz).1 ≤ bh.size) ∧
      ((!((S333 (S337 sz).1).toList == sz.toList)) = true → split1 l = none) ∧
      ((!((S333 (S337 sz).1).toList == sz.toList)) = false → split1 l = some ((bh.extract 0 (S337 sz).1.toNat).data.toList, (bh.extract (S337 sz).1.toNat bh.size).data.toList))) := by
  have hbl : bh.size = (l.drop (k + 1)).length := by rw [Lib.size_eq, hb]
  have hbl2 : (l.drop (k + 1)).length ≤ l.length := by rw [List.length_drop]; omega
  have yes : ∀ {p}, split1 l = some p → ∃ v : Nat, tw l = Lib.decDigits v ∧ v ≤ bh.size ∧ S337 sz = ((v : Int), false) := by
    intro p hp
    rw [split1_is] at hp
    split at hp
    · rename_i h
      obtain ⟨_, h2, h3⟩ := h
      rw [hk] at h3
      refine ⟨_, h2, by rw [hbl]; exact h3, s337_dec (by rw [hs]; exact h2) (by omega)⟩
    · cases hp
  refine ⟨fun hc => ?_, fun hc => ?_⟩
  · cases hp : split1 l with
    | none => rfl
    | some p =>
      obtain ⟨v, h1, h2, h3⟩ := yes hp
      rw [h3] at hc
      simp at hc
      omega
  · have hc' : (S337 sz).2 = false ∧ 0 ≤ (S337 sz).1 ∧ (S337 sz).1 ≤ bh.size := by
      revert hc
      cases (S337 sz).2 <;> simp
    obtain ⟨_, h0, h1⟩ := hc'
    refine ⟨⟨h0, h1⟩, fun hd => ?_, fun hd => ?_⟩
    · cases hp : split1 l with
      | none => rfl
      | some p =>
        obtain ⟨v, e1, _, e3⟩ := yes hp
        rw [e3] at hd
        have : (S333 (v : Int)).toList = sz.toList := by
          rw [Lib.toList_data, Lib.toList_data, hs, e1, S333, data_bs, Lib.itoa_nonneg]
        rw [this] at hd
        simp at hd
    · generalize (S337 sz).1 = n at *
      obtain ⟨u, rfl⟩ : ∃ u : Nat, n = (u : Int) := ⟨n.toNat, by omega⟩
      have hd : (S333 (u : Int)).toList = sz.toList := by simpa using hd
      rw [Lib.toList_data, Lib.toList_data, hs, S333, data_bs, Lib.itoa_nonneg] at hd
      have hv : valL (tw l) = u := by rw [← hd]; exact val_dec u
      rw [split1_is, if_pos ⟨by omega, by rw [hv]; exact hd.symm, by rw [hv, hk]; omega⟩, hv, hk, Int.toNat_natCast, ext0, extE, hb]
theorem run315 : RunC C315 6 15 [22, 4] [9] W315 [] := by
  intro (x : ByteArray) hx hp
  have hp : x.size ≤ 1099511627776 := hp _ rfl
  refine of_eq (q315 x _) ?_
  refine LOOP.of (fun y => finS y.1 (splitL y.2.data.toList) = S315 x ∧ y.1.length + y.2.size ≤ x.size) (fun y => y.2.size) ⟨finS_nil _ x rfl, by simp⟩ ?_
  rintro ⟨out, rest⟩ ⟨h1, h2⟩ J hJ
  have h1 : finS out (splitL rest.data.toList) = S315 x := h1
  have h2 : out.length + rest.size ≤ x.size := h2
  have hrl : rest.data.toList.length = rest.size := (Lib.size_eq rest).symm
  dsimp only
  refine bif_of (fun hne => ⟨rfl, ?_⟩) (fun he => ?_)
  · have hne : rest.data.toList ≠ [] := by
      intro e
      rw [Lib.toList_data, Lib.toList_data, e] at hne
      exact absurd hne (by decide)
    have hi : S365 rest (ByteArray.mk #[58]) = if (tw rest.data.toList).length < rest.data.toList.length then ((tw rest.data.toList).length : Int) else -1 := idx58 _
    have nn : split1 rest.data.toList = none → (([], false) : List ByteArray × Bool) = S315 x := fun h => by
      rw [← h1, splitL_none hne h]; rfl
    by_cases hk : (tw rest.data.toList).length < rest.data.toList.length
    · rw [if_pos hk] at hi
      generalize hkk : (tw rest.data.toList).length = k at hi hk
      have hw : IntKind.i64.wrap ((k : Int) + ((nat_lit 1 : Nat) : Int)) = ((k + 1 : Nat) : Int) := by
        rw [show ((nat_lit 1 : Nat) : Int) = 1 from rfl, wrap64 (by omega)]; omega
      simp only [hi, hw, Int.toNat_natCast]
      obtain ⟨r1, r2⟩ := round15 (l := rest.data.toList) (k := k) (sz := rest.extract 0 k) (bh := rest.extract (k + 1) rest.size) (by omega) hkk hk (by rw [ext0, ← hkk]; exact (tw_take _).symm) (extE _ _)
      have hbs : (rest.extract (k + 1) rest.size).size + (k + 1) = rest.size := by
        rw [Lib.size_eq, extE, List.length_drop]; omega
      refine bif_of (fun _ => ⟨⟨Int.le_refl _, by omega, by omega⟩, ⟨by omega, by omega, Int.le_refl _⟩, ?_, bif_of (fun hc => nn (r1 hc)) (fun hc => ?_)⟩) (fun hn => absurd (decide_eq_false_iff_not.1 hn) (by omega))
      · show (rest.extract 0 k).size ≤ 281474976710656
        rw [Lib.size_eq, ext0, List.length_take]; omega
      · obtain ⟨⟨b0, b1⟩, c1, c2⟩ := r2 hc
        refine ⟨⟨by omega, by omega⟩, bif_of (fun hd => nn (c1 hd)) (fun hd => ?_)⟩
        have hs := c2 hd
        refine ⟨⟨Int.le_refl _, b0, b1⟩, ⟨trivial, ?_⟩, ?_⟩
        · show (out.length + 1) * 16 ≤ 140737488355328
          omega
        · intro y hy
          have hy : y = out ++ [(rest.extract (k + 1) rest.size).extract 0 (S337 (rest.extract 0 k)).1.toNat] := hy
          have hf := finS_some (out := out) hs
          rw [bs_data, h1, ← hy] at hf
          refine ⟨⟨b0, b1, Int.le_refl _⟩, trivial, hJ _ ⟨hf.symm, ?_⟩ ?_⟩
          · show y.length + (ByteArray.extract _ _ _).size ≤ x.size
            have e1 : y.length = out.length + 1 := by rw [hy]; simp
            have e2 : ((rest.extract (k + 1) rest.size).extract (S337 (rest.extract 0 k)).1.toNat (rest.extract (k + 1) rest.size).size).size ≤ (rest.extract (k + 1) rest.size).size := by
              rw [Lib.size_eq, extE, List.length_drop, ← Lib.size_eq]; omega
            exact Nat.le_trans (Nat.add_le_add (Nat.le_of_eq e1) e2) (by omega)
          · show (ByteArray.extract _ _ _).size < rest.size
            have e2 : ((rest.extract (k + 1) rest.size).extract (S337 (rest.extract 0 k)).1.toNat (rest.extract (k + 1) rest.size).size).size ≤ (rest.extract (k + 1) rest.size).size := by
              rw [Lib.size_eq, extE, List.length_drop, ← Lib.size_eq]; omega
            exact Nat.lt_of_le_of_lt e2 (by omega)
    · rw [if_neg hk] at hi
      simp only [hi]
      refine bif_of (fun hn => absurd (of_decide_eq_true hn) (by omega)) (fun _ => ⟨by show rest.size ≤ 281474976710656; omega, nn ?_⟩)
      rw [split1_is, if_neg (fun h => hk h.1)]
  · have he : rest.data.toList = [] := by
      rw [Lib.toList_data, Lib.toList_data] at he
      simpa using he
    rw [he, splitL_nil] at h1
    show (out, true) = _
    rw [← h1]; simp [finS]
theorem ok315 : Ok315 := con_ok (C := C315) (kok_cons ok333 (kok_cons ok337 (kok_cons ok365 kok_nil))) mx7 (by kernel_rfl) run315
end Go.Rx
namespace Go.Rx
open Go.Ab Go.L21
set_option maxRecDepth 100000
set_option maxHeartbeats 20000000
set_option linter.unusedVariables false
/-- interregnum/interregnumref11.Split -/
noncomputable def C316 : Cfg S := { P := P7, inl := [], K := [], ann := [(16, [(5, .loop [(.sl 6, .int .i64), (.sl 7, .int .i64)]), (3, .loop [(.sl 4, .own 9), (.sl 5, .int .i64)])])] }
abbrev W316 : CT S [22, 4] [9] := (fun x0 => (some (P316 x0), S316 x0))
abbrev Ok316 : Prop := ConOk P7 16 (ctr P7 [9] [22, 4] W316) ∧ ConMon (ctr P7 [9] [22, 4] W316)
theorem q316 (x0 : ByteArray) (v : HR S [22, 4]) : (Xf C316 6 (emp 0) 16 (argsA C316 [⟨9, x0⟩]) (emp 0) (fun r _ => isR C316.P [22, 4] v r) (fun _ _ => False))
 = (LOOP (fun (h : List ByteArray × Int) (J : List ByteArray × Int → Prop) => bif decide (h.snd < (↑x0.size : Int)) then LOOP (fun (h_1 : Int × Int) (J_1 : Int
 × Int → Prop) => (decide (h_1.snd < (↑x0.size : Int)) = true → (0 : Int) ≤ h_1.snd ∧ h_1.snd < (↑x0.size : Int)) ∧ ((decide (h_1.snd < (↑x0.size : Int)) &&
 decide ((48 : Int) ≤ (↑(x0.data.toList.getD h_1.snd.toNat (0 : UInt8)).toNat : Int))) = true → (0 : Int) ≤ h_1.snd ∧ h_1.snd < (↑x0.size : Int)) ∧ bif decide
 (h_1.snd < (↑x0.size : Int)) && decide ((48 : Int) ≤ (↑(x0.data.toList.getD h_1.snd.toNat (0 : UInt8)).toNat : Int)) && decide ((↑(x0.data.toList.getD
 h_1.snd.toNat (0 : UInt8)).toNat : Int) ≤ (57 : Int)) && decide (h_1.fst < (1099511627776 : Int)) then ((0 : Int) ≤ h_1.snd ∧ h_1.snd < (↑x0.size : Int)) ∧
 J_1 (IntKind.i64.wrap (IntKind.i64.wrap (h_1.fst * (10 : Int)) + IntKind.i64.wrap (IntKind.u8.wrap ((↑(x0.data.toList.getD h_1.snd.toNat (0 : UInt8)).toNat :
 Int) - (48 : Int)))), IntKind.i64.wrap (h_1.snd + (1 : Int))) else ((decide (h_1.snd = h.snd) || decide ((↑x0.size : Int) ≤ h_1.snd)) = false → (0 : Int) ≤
 h_1.snd ∧ h_1.snd < (↑x0.size : Int)) ∧ ((decide (h_1.snd = h.snd) || decide ((↑x0.size : Int) ≤ h_1.snd) || !decide ((↑(x0.data.toList.getD h_1.snd.toNat (0
 : UInt8)).toNat : Int) = (58 : Int))) = false → decide ((1 : Int) < IntKind.i64.wrap (h_1.snd - h.snd)) = true → (0 : Int) ≤ h.snd ∧ h.snd < (↑x0.size : Int))
 ∧ bif decide (h_1.snd = h.snd) || decide ((↑x0.size : Int) ≤ h_1.snd) || !decide ((↑(x0.data.toList.getD h_1.snd.toNat (0 : UInt8)).toNat : Int) = (58 : Int))
 || decide ((1 : Int) < IntKind.i64.wrap (h_1.snd - h.snd)) && decide ((↑(x0.data.toList.getD h.snd.toNat (0 : UInt8)).toNat : Int) = (48 : Int)) || decide
 (IntKind.i64.wrap (IntKind.i64.wrap ((↑x0.size : Int) - h_1.snd) - (1 : Int)) < h_1.fst) then ([], false) = v else ((0 : Int) ≤ IntKind.i64.wrap (h_1.snd + (1
 : Int)) ∧ IntKind.i64.wrap (h_1.snd + (1 : Int)) ≤ IntKind.i64.wrap (IntKind.i64.wrap (h_1.snd + (1 : Int)) + h_1.fst) ∧ IntKind.i64.wrap (IntKind.i64.wrap
 (h_1.snd + (1 : Int)) + h_1.fst) ≤ (↑x0.size : Int)) ∧ (h.fst.length = h.fst.length ∧ (h.fst.length + [x0.extract (IntKind.i64.wrap (h_1.snd + (1 :
 Int))).toNat (IntKind.i64.wrap (IntKind.i64.wrap (h_1.snd + (1 : Int)) + h_1.fst)).toNat].length) * nat_lit 16 ≤ nat_lit 140737488355328) ∧ ∀ (y : List
 (ByteArray)), y = h.fst ++ [x0.extract (IntKind.i64.wrap (h_1.snd + (1 : Int))).toNat (IntKind.i64.wrap (IntKind.i64.wrap (h_1.snd + (1 : Int)) +
 h_1.fst)).toNat] → y.length = y.length ∧ J (y, IntKind.i64.wrap (IntKind.i64.wrap (h_1.snd + (1 : Int)) + h_1.fst))) ((0 : Int), h.snd) else (h.fst, true) =
 v) ([], (0 : Int))) := by kernel_rfl
end Go.Rx
/-! ref11.Split. -/
namespace Go.Rx
open Go.Ab Go.L21
set_option linter.unusedVariables false
set_option maxRecDepth 100000
theorem valF_snoc (l : List UInt8) (c : UInt8) (a : Nat) : valF a (l ++ [c]) = valF a l * 10 + (c.toNat - 48) := by
  unfold valF; rw [List.foldl_append]; rfl
theorem valF_mono (l r : List UInt8) (a : Nat) : valF a l ≤ valF a (l ++ r) := by
  unfold valF; rw [List.foldl_append]; exact valF_ge r _
theorem head_dec (u : Nat) (h : 1 ≤ u) : ((Lib.decDigits u).getD 0 0).toNat ≠ 48 := by
  induction u using Nat.strongRecOn with
  | _ u ih =>
    rw [Lib.decDigits]
    split
    · show (UInt8.ofNat (48 + u)).toNat ≠ 48
      rw [toNat_dig (by omega)]; omega
    · have := ih (u / 10) (by omega) (by omega)
      have hn := dec_ne (u / 10)
      revert this hn
      generalize Lib.decDigits (u / 10) = l
      intro h1 h2
      cases l with
      | nil => exact absurd rfl h2
      | cons c r => exact h1
theorem len_dec {u : Nat} (h : 1 < (Lib.decDigits u).length) : 1 ≤ u := by
  rcases Nat.eq_zero_or_pos u with rfl | h1
  · rw [Lib.decDigits] at h; simp at h
  · exact h1
theorem snoc_ind {p : List UInt8 → Prop} (h0 : p []) (h1 : ∀ l c, p l → p (l ++ [c])) (l : List UInt8) : p l := by
  have : ∀ n (l : List UInt8), l.length = n → p l := by
    intro n
    induction n with
    | zero => intro l hl; rw [List.length_eq_zero_iff.1 hl]; exact h0
    | succ n ih =>
      intro l hl
      have hne : l ≠ [] := fun e => by rw [e] at hl; cases hl
      rw [← List.dropLast_concat_getLast hne]
      exact h1 _ _ (ih _ (by rw [List.length_dropLast]; omega))
  exact this _ l rfl
theorem valF_pos {c : UInt8} {r : List UInt8} (h : 48 < c.toNat) : 1 ≤ valF 0 (c :: r) :=
  Nat.le_trans (by show 1 ≤ 0 * 10 + (c.toNat - 48); omega) (valF_ge r (0 * 10 + (c.toNat - 48)))
theorem canon16 : ∀ l : List UInt8, Digs l → l ≠ [] → (1 < l.length → (l.getD 0 0).toNat ≠ 48) → Lib.decDigits (valF 0 l) = l := by
  refine snoc_ind (fun _ h _ => absurd rfl h) ?_
  intro l c ih hd _ hz
  have hc := hd c (by simp)
  have hl : Digs l := fun x hx => hd x (List.mem_append_left _ hx)
  have ec : UInt8.ofNat (48 + (c.toNat - 48)) = c := by
    rw [show 48 + (c.toNat - 48) = c.toNat by omega]; simp
  rw [valF_snoc]
  match l, ih, hl, hz with
  | [], _, _, _ =>
    show Lib.decDigits (0 * 10 + (c.toNat - 48)) = [c]
    rw [Lib.decDigits, dif_pos (by omega), show 0 * 10 + (c.toNat - 48) = c.toNat - 48 by omega, ec]
  | b :: r, ih, hl, hz =>
    have hb := hl b List.mem_cons_self
    have hb48 : b.toNat ≠ 48 := hz (by simp)
    have hp : 1 ≤ valF 0 (b :: r) := valF_pos (by omega)
    have hi := ih hl (by simp) (fun _ => hb48)
    rw [Lib.decDigits, dif_neg (by omega), show (valF 0 (b :: r) * 10 + (c.toNat - 48)) / 10 = valF 0 (b :: r) by omega, show (valF 0 (b :: r) * 10 + (c.toNat - 48)) % 10 = c.toNat - 48 by omega, hi, ec]
/-- How many digits are read, and what ends them. -/
theorem stop16 {l : List UInt8} {j a : Nat} (hl : l.length ≤ 1099511627776) (hj : j ≤ l.length) (hd : Digs (l.take j)) (ha : valF 0 (l.take j) = a)
    (hx : ¬ (j < l.length ∧ 48 ≤ (l.getD j 0).toNat ∧ (l.getD j 0).toNat ≤ 57 ∧ a < 1099511627776)) {p : List UInt8 × List UInt8} (hp : split1 l = some p) :
    j ≠ 0 ∧ j < l.length ∧ (l.getD j 0).toNat = 58 ∧ (1 < j → (l.getD 0 0).toNat ≠ 48) ∧ a ≤ l.length - j - 1 := by
  rw [split1_is] at hp
  split at hp
  · rename_i h
    obtain ⟨h1, h2, h3⟩ := h
    clear hp
    generalize hv : valL (tw l) = v at *
    have hvl : v < 1099511627776 := by rw [List.length_drop] at h3; omega
    have htd : Digs (tw l) := by rw [h2]; exact digs_dec v
    have ht := tw_take l
    have h58 : l.getD (tw l).length 0 = 58 := by
      have : ∀ l : List UInt8, (tw l).length < l.length → l.getD (tw l).length 0 = 58 := by
        intro l
        induction l with
        | nil => intro h; cases h
        | cons c r ih =>
          unfold tw at *
          rw [List.takeWhile_cons]
          split
          · intro h
            exact ih (by simpa using h)
          · rename_i hc
            intro _
            simpa using hc
      exact this l h1
    have hjt : j ≤ (tw l).length := by
      apply Classical.byContradiction
      intro hn
      have hm : l.getD (tw l).length 0 ∈ l.take j := by
        rw [List.getD_eq_getElem?_getD, List.getElem?_eq_getElem h1, Option.getD_some]
        exact List.mem_take_iff_getElem.2 ⟨(tw l).length, by omega, rfl⟩
      have := hd _ hm
      rw [h58] at this
      exact absurd this (by decide)
    have hpre : l.take (tw l).length = l.take j ++ (l.drop j).take ((tw l).length - j) := by
      rw [← List.take_add, show j + ((tw l).length - j) = (tw l).length by omega]
    have hval : valF 0 (tw l) = v := by rw [h2]; exact val_dec v
    have hav : a ≤ v := by
      rw [← ha, ← hval]
      conv => rhs; rw [ht, hpre]
      exact valF_mono _ _ _
    have hje : j = (tw l).length := by
      apply Classical.byContradiction
      intro hn
      have hm : l.getD j 0 ∈ tw l := by
        rw [ht, List.getD_eq_getElem?_getD, List.getElem?_eq_getElem (by omega), Option.getD_some]
        exact List.mem_take_iff_getElem.2 ⟨j, by omega, rfl⟩
      have := htd _ hm
      exact hx ⟨by omega, this.1, this.2, by omega⟩
    have hne : (tw l).length ≠ 0 := by
      rw [h2]; exact fun e => dec_ne v (List.length_eq_zero_iff.1 e)
    refine ⟨by omega, by omega, by rw [hje, h58]; rfl, fun h1j => ?_, ?_⟩
    · have hh : (tw l).getD 0 0 = l.getD 0 0 := by
        rw [ht, List.getD_eq_getElem?_getD, List.getD_eq_getElem?_getD, List.getElem?_take, if_pos (by omega)]
      rw [← hh, h2]
      exact head_dec v (len_dec (by rw [← h2]; omega))
    · rw [List.length_drop] at h3; omega
  · cases hp
theorem go16 {l : List UInt8} {j a : Nat} (hj : j ≠ 0) (hjl : j < l.length) (hd : Digs (l.take j)) (ha : valF 0 (l.take j) = a) (h58 : (l.getD j 0).toNat = 58) (hz : 1 < j → (l.getD 0 0).toNat ≠ 48) (hn : a ≤ l.length - j - 1) :
    split1 l = some ((l.drop (j + 1)).take a, (l.drop (j + 1)).drop a) := by
  have hlj : (l.take j).length = j := by rw [List.length_take]; omega
  have ec : l.getD j 0 = 58 := by
    apply UInt8.toNat_inj.1; rw [h58]; rfl
  have hsp : l = l.take j ++ 58 :: l.drop (j + 1) := by
    conv => lhs; rw [← List.take_append_drop j l, List.drop_eq_getElem_cons hjl]
    rw [List.getD_eq_getElem?_getD, List.getElem?_eq_getElem hjl, Option.getD_some] at ec
    rw [ec]
  have htw : tw l = l.take j := by
    conv => lhs; rw [hsp]
    exact take58 (digs58 hd)
  have hcan : Lib.decDigits a = l.take j := by
    rw [← ha]
    refine canon16 _ hd (fun e => by rw [e] at hlj; exact hj hlj.symm) fun h => ?_
    rw [hlj] at h
    have := hz h
    rwa [List.getD_eq_getElem?_getD, List.getElem?_take, if_pos (by omega), ← List.getD_eq_getElem?_getD]
  have hva : valL (tw l) = a := by rw [htw]; exact ha
  rw [split1_is, if_pos ⟨by rw [htw, hlj]; exact hjl, by rw [hva, hcan, htw], by rw [hva, htw, hlj, List.length_drop]; omega⟩, hva, htw, hlj]
theorem drop_getD (l : List UInt8) (i j : Nat) : (l.drop i).getD j 0 = l.getD (i + j) 0 := by
  rw [List.getD_eq_getElem?_getD, List.getD_eq_getElem?_getD, List.getElem?_drop]
theorem wrap8 (n : Int) : IntKind.u8.wrap n = n % 256 := rfl
theorem run316 : RunC C316 6 16 [22, 4] [9] W316 [] := by
  intro (x : ByteArray) hx hp
  have hp : x.size ≤ 1099511627776 := hp _ rfl
  have hL : x.data.toList.length = x.size := (Lib.size_eq x).symm
  refine of_eq (q316 x _) ?_
  refine LOOP.of (fun y => ∃ i : Nat, y.2 = (i : Int) ∧ i ≤ x.size ∧ finS y.1 (splitL (x.data.toList.drop i)) = S316 x ∧ y.1.length ≤ i) (fun y => x.size - y.2.toNat) ⟨0, rfl, by omega, finS_nil _ x rfl, Nat.le_refl _⟩ ?_
  rintro ⟨out, ii⟩ ⟨i, e, hi, h1, h2⟩ J hJ
  have e : ii = (i : Int) := e
  subst e
  have h1 : finS out (splitL (x.data.toList.drop i)) = S316 x := h1
  have h2 : out.length ≤ i := h2
  dsimp only
  refine bif_of (fun hlt => ?_) (fun he => ?_)
  · have hlt : i < x.size := by have := of_decide_eq_true hlt; omega
    have hll : (x.data.toList.drop i).length = x.size - i := by rw [List.length_drop, hL]
    have hne : x.data.toList.drop i ≠ [] := fun e => by rw [e] at hll; simp at hll; omega
    have nn : split1 (x.data.toList.drop i) = none → (([], false) : List ByteArray × Bool) = S316 x := fun h => by
      rw [← h1, splitL_none hne h]; rfl
    refine LOOP.of (fun y => ∃ a j : Nat, y = ((a : Int), ((i + j : Nat) : Int)) ∧ i + j ≤ x.size ∧ Digs ((x.data.toList.drop i).take j) ∧ valF 0 ((x.data.toList.drop i).take j) = a ∧ a < 17592186044416) (fun y => x.size - y.2.toNat) ⟨0, 0, rfl, by omega, (fun c hc => by cases hc), rfl, by omega⟩ ?_
    rintro _ ⟨a, j, rfl, hj, hd, ha, hal⟩ J1 hJ1
    dsimp only
    simp only [Int.toNat_natCast]
    have ej : x.data.toList.getD (i + j) 0 = (x.data.toList.drop i).getD j 0 := (drop_getD _ _ _).symm
    have e0 : x.data.toList.getD i 0 = (x.data.toList.drop i).getD 0 0 := by rw [drop_getD, Nat.add_zero]
    have ws : IntKind.i64.wrap (((i + j : Nat) : Int) - (i : Int)) = (j : Int) := by rw [wrap64 (by omega)]; omega
    have wl : IntKind.i64.wrap (IntKind.i64.wrap ((x.size : Int) - ((i + j : Nat) : Int)) - 1) = (x.size : Int) - (i + j : Nat) - 1 := by
      rw [wrap64 (n := (x.size : Int) - ((i + j : Nat) : Int)) (by omega), wrap64 (by omega)]
    have wk : IntKind.i64.wrap (((i + j : Nat) : Int) + 1) = ((i + j + 1 : Nat) : Int) := by rw [wrap64 (by omega)]; omega
    have wa : IntKind.i64.wrap (((i + j + 1 : Nat) : Int) + (a : Int)) = ((i + j + 1 + a : Nat) : Int) := by rw [wrap64 (by omega)]; omega
    simp only [ej, e0, ws, wl, wk, wa]
    generalize hl : x.data.toList.drop i = l at *
    have g1 : ∀ {p : Prop}, decide (((i + j : Nat) : Int) < (x.size : Int)) = true → 0 ≤ ((i + j : Nat) : Int) ∧ ((i + j : Nat) : Int) < (x.size : Int) := fun h => ⟨by omega, of_decide_eq_true h⟩
    refine ⟨fun h => ⟨by omega, of_decide_eq_true h⟩, fun h => ⟨by omega, of_decide_eq_true (Bool.and_eq_true _ _ ▸ h).1⟩, bif_of (fun hc => ?_) (fun hc => ?_)⟩
    · simp only [Bool.and_eq_true, decide_eq_true_eq] at hc
      obtain ⟨⟨⟨c1, c2⟩, c3⟩, c4⟩ := hc
      have hjl : j < l.length := by omega
      refine ⟨⟨by omega, c1⟩, hJ1 _ ⟨a * 10 + ((l.getD j 0).toNat - 48), j + 1, ?_, by omega, ?_, ?_, by omega⟩ ?_⟩
      · refine Prod.ext ?_ rfl
        show IntKind.i64.wrap (IntKind.i64.wrap ((a : Int) * 10) + IntKind.i64.wrap (IntKind.u8.wrap (((l.getD j 0).toNat : Int) - 48))) = _
        rw [wrap8, wrap64 (n := (a : Int) * 10) (by omega), wrap64 (n := (((l.getD j 0).toNat : Int) - 48) % 256) (by omega), wrap64 (by omega)]
        omega
      · intro c hc
        rw [List.take_add_one, List.mem_append] at hc
        rcases hc with hc | hc
        · exact hd c hc
        · rw [List.getElem?_eq_getElem hjl] at hc
          have hc := List.mem_singleton.1 hc
          rw [List.getD_eq_getElem?_getD, List.getElem?_eq_getElem hjl, Option.getD_some] at c2 c3
          rw [hc]; omega
      · rw [List.take_add_one, List.getElem?_eq_getElem hjl]
        show valF 0 (l.take j ++ [l[j]]) = _
        rw [valF_snoc, ha, List.getD_eq_getElem?_getD, List.getElem?_eq_getElem hjl, Option.getD_some]
      · show x.size - ((i + j + 1 : Nat) : Int).toNat < x.size - ((i + j : Nat) : Int).toNat
        omega
    · have hx : ¬ (j < l.length ∧ 48 ≤ (l.getD j 0).toNat ∧ (l.getD j 0).toNat ≤ 57 ∧ a < 1099511627776) := by
        rintro ⟨d1, d2, d3, d4⟩
        have hc2 : (decide (((i + j : Nat) : Int) < (x.size : Int)) && decide ((48 : Int) ≤ ((l.getD j 0).toNat : Int)) && decide (((l.getD j 0).toNat : Int) ≤ 57) && decide ((a : Int) < 1099511627776)) = true := by
          simp only [Bool.and_eq_true, decide_eq_true_eq]; omega
        rw [hc2] at hc; cases hc
      refine ⟨fun h => ?_, fun h h' => ⟨by omega, by omega⟩, bif_of (fun hb => ?_) (fun hb => ?_)⟩
      · simp only [Bool.or_eq_false_iff, decide_eq_false_iff_not] at h
        omega
      · refine nn ?_
        cases hp1 : split1 l with
        | none => rfl
        | some p =>
          obtain ⟨s1, s2, s3, s4, s5⟩ := stop16 (by omega) (by omega) hd ha hx hp1
          simp only [Bool.or_eq_true, Bool.and_eq_true, Bool.not_eq_true', decide_eq_true_eq, decide_eq_false_iff_not] at hb
          omega
      · simp only [Bool.or_eq_false_iff, Bool.and_eq_false_iff, Bool.not_eq_false', decide_eq_true_eq, decide_eq_false_iff_not] at hb
        obtain ⟨⟨⟨⟨b1, b2⟩, b3⟩, b4⟩, b5⟩ := hb
        have hs := go16 (l := l) (j := j) (a := a) (by omega) (by omega) hd ha (by omega) (by omega) (by omega)
        have hex : (x.extract (i + j + 1) (i + j + 1 + a)).data.toList = (l.drop (j + 1)).take a := by
          rw [Lib.extract_data, ← hl, List.drop_drop]
          congr 1; omega
        refine ⟨⟨by omega, by omega, by omega⟩, ⟨trivial, ?_⟩, ?_⟩
        · show (out.length + 1) * 16 ≤ 140737488355328
          omega
        · intro y hy
          have hy : y = out ++ [x.extract (i + j + 1) (i + j + 1 + a)] := hy
          have hf := finS_some (out := out) hs
          rw [← hex, bs_data, h1, ← hy] at hf
          refine ⟨trivial, hJ _ ⟨i + j + 1 + a, rfl, by omega, ?_, ?_⟩ ?_⟩
          · rw [hf, ← hl, List.drop_drop, List.drop_drop]
            show finS y _ = finS y _
            congr 3; omega
          · show y.length ≤ _
            rw [hy]; simp; omega
          · show x.size - ((i + j + 1 + a : Nat) : Int).toNat < x.size - ((i : Nat) : Int).toNat
            omega
  · have he : ¬ (i : Int) < (x.size : Int) := of_decide_eq_false he
    have : x.data.toList.drop i = [] := List.drop_eq_nil_of_le (by omega)
    rw [this, splitL_nil] at h1
    show (out, true) = _
    rw [← h1]; simp [finS]
theorem ok316 : Ok316 := con_ok (C := C316) kok_nil mx7 (by kernel_rfl) run316
end Go.Rx
namespace Go.Rx
open Go.Ab Go.L21
set_option maxRecDepth 100000
set_option maxHeartbeats 20000000
set_option linter.unusedVariables false
noncomputable def C355 (k : Nat) : Cfg S := { P := P7, inl := [], K := [(55, ctr P7 [59] [9] (fun x0 => (some (DB k x0), S355 x0)))], ann := [] }
abbrev WD (k : Nat) : CT S [9] [59] := (fun x0 => (some (DB k x0), S355 x0))
abbrev OkD (k : Nat) : Prop := ConOk P7 55 (ctr P7 [59] [9] (WD k)) ∧ ConMon (ctr P7 [59] [9] (WD k))
theorem q355 (k : Nat) (x0 : Int) (v : HR S [9]) : (Xf (C355 k) 6 (emp 0) 55 (argsA (C355 k) [⟨59, x0⟩]) (emp 0) (fun r _ => isR (C355 k).P [9] v r) (fun _ _
 => False)) = (bif decide (x0 < (10 : Int)) then bsOf (List.map (fun (x : Int) => x) [IntKind.u8.wrap ((48 : Int) + IntKind.u8.wrap x0)]) = v else DB k
 (IntKind.u64.wrap (x0.tdiv (10 : Int))) ∧ (S355 (IntKind.u64.wrap (x0.tdiv (10 : Int)))).size + (bsOf (List.map (fun (x : Int) => x) [IntKind.u8.wrap ((48 :
 Int) + IntKind.u8.wrap (x0.tmod (10 : Int)))])).size ≤ nat_lit 9223372036854775807 ∧ S355 (IntKind.u64.wrap (x0.tdiv (10 : Int))) ++ bsOf (List.map (fun (x :
 Int) => x) [IntKind.u8.wrap ((48 : Int) + IntKind.u8.wrap (x0.tmod (10 : Int)))]) = v) := by kernel_rfl
end Go.Rx
namespace Go.Rx
open Go.Ab Go.L21
set_option maxRecDepth 100000
set_option maxHeartbeats 20000000
set_option linter.unusedVariables false
/-- interregnum/interregnumref11.Dec -/
noncomputable def C338 : Cfg S := { P := P7, inl := [], K := [(55, ctr P7 [59] [9] (fun x0 => (some (P355 x0), S355 x0)))], ann := [] }
abbrev W338 : CT S [9] [3] := (fun x0 => (some (P338 x0), S338 x0))
abbrev Ok338 : Prop := ConOk P7 38 (ctr P7 [3] [9] W338) ∧ ConMon (ctr P7 [3] [9] W338)
theorem q338 (x0 : Int) (v : HR S [9]) : (Xf C338 6 (emp 0) 38 (argsA C338 [⟨3, x0⟩]) (emp 0) (fun r _ => isR C338.P [9] v r) (fun _ _ => False)) = (bif decide
 (x0 < (0 : Int)) then DB (nat_lit 20) (IntKind.u64.wrap (IntKind.u64.wrap (IntKind.i64.wrap ((0 : Int) - IntKind.i64.wrap (x0 + (1 : Int)))) + (1 : Int))) ∧
 nat_lit 1 + (S355 (IntKind.u64.wrap (IntKind.u64.wrap (IntKind.i64.wrap ((0 : Int) - IntKind.i64.wrap (x0 + (1 : Int)))) + (1 : Int)))).size ≤ nat_lit
 9223372036854775807 ∧ ByteArray.mk #[(45 : UInt8)] ++ S355 (IntKind.u64.wrap (IntKind.u64.wrap (IntKind.i64.wrap ((0 : Int) - IntKind.i64.wrap (x0 + (1 :
 Int)))) + (1 : Int))) = v else DB (nat_lit 20) (IntKind.u64.wrap x0) ∧ S355 (IntKind.u64.wrap x0) = v) := by kernel_rfl
end Go.Rx
namespace Go.Rx
open Go.Ab Go.L21
set_option maxRecDepth 100000
set_option maxHeartbeats 20000000
set_option linter.unusedVariables false
/-- interregnum/interregnumref11.Texts -/
noncomputable def C317 : Cfg S := { P := P7, inl := [], K := [(38, ctr P7 [3] [9] (fun x0 => (some (P338 x0), S338 x0)))], ann := [(17, [(3, .loop [(.sl 3, .str), (.sl 4, .int .i64)])])] }
abbrev W317 : CT S [9] [22] := (fun x0 => (some (P317 x0), S317 x0))
abbrev Ok317 : Prop := ConOk P7 17 (ctr P7 [22] [9] W317) ∧ ConMon (ctr P7 [22] [9] W317)
theorem q317 (x0 : List ByteArray) (v : HR S [9]) : (Xf C317 6 (emp 0) 17 (argsA C317 [⟨22, x0⟩]) (emp 0) (fun r _ => isR C317.P [9] v r) (fun _ _ => False)) =
 (LOOP (fun (h : ByteArray × Int) (J : ByteArray × Int → Prop) => bif decide (h.snd < (↑x0.length : Int)) then ((0 : Int) ≤ h.snd ∧ h.snd < (↑x0.length : Int))
 ∧ ((0 : Int) ≤ h.snd ∧ h.snd < (↑x0.length : Int)) ∧ ((-9223372036854775808 : Int) ≤ (↑(ix x0 h.snd).size : Int) ∧ (↑(ix x0 h.snd).size : Int) ≤
 (9223372036854775807 : Int)) ∧ h.fst.size + (S338 (↑(ix x0 h.snd).size : Int)).size ≤ nat_lit 9223372036854775807 ∧ (h.fst ++ S338 (↑(ix x0 h.snd).size :
 Int)).size + nat_lit 1 ≤ nat_lit 9223372036854775807 ∧ (h.fst ++ S338 (↑(ix x0 h.snd).size : Int) ++ ByteArray.mk #[(58 : UInt8)]).size + (ix x0 h.snd).size ≤
 nat_lit 9223372036854775807 ∧ J (h.fst ++ S338 (↑(ix x0 h.snd).size : Int) ++ ByteArray.mk #[(58 : UInt8)] ++ ix x0 h.snd, IntKind.i64.wrap (h.snd + (1 :
 Int))) else h.fst = v) (ByteArray.mk #[], (0 : Int))) := by kernel_rfl
end Go.Rx
namespace Go.Rx
open Go.Ab Go.L21
set_option maxRecDepth 100000
set_option maxHeartbeats 20000000
set_option linter.unusedVariables false
/-- interregnum/interregnumlaw21.few -/
noncomputable def C312 : Cfg S := { P := P7, inl := [], K := [], ann := [(12, [(3, .loop [(.sl 3, .int .i64), (.sl 4, .int .i64)])])] }
abbrev W312 : CT S [4] [22] := (fun x0 => (some (P312 x0), S312 x0))
abbrev Ok312 : Prop := ConOk P7 12 (ctr P7 [22] [4] W312) ∧ ConMon (ctr P7 [22] [4] W312)
theorem q312 (x0 : List ByteArray) (v : HR S [4]) : (Xf C312 6 (emp 0) 12 (argsA C312 [⟨22, x0⟩]) (emp 0) (fun r _ => isR C312.P [4] v r) (fun _ _ => False)) =
 (LOOP (fun (h : Int × Int) (J : Int × Int → Prop) => bif decide (h.snd < (↑x0.length : Int)) && decide (h.fst < (10000 : Int)) then ((0 : Int) ≤ h.snd ∧ h.snd
 < (↑x0.length : Int)) ∧ J (IntKind.i64.wrap (h.fst + (↑(ix x0 h.snd).size : Int)), IntKind.i64.wrap (h.snd + (1 : Int))) else decide (h.fst < (10000 : Int)) =
 v) ((↑x0.length : Int), (0 : Int))) := by kernel_rfl
end Go.Rx
namespace Go.Rx
open Go.Ab Go.L21
set_option maxRecDepth 100000
set_option maxHeartbeats 20000000
set_option linter.unusedVariables false
/-- interregnum/interregnumlaw21.same -/
noncomputable def C318 : Cfg S := { P := P7, inl := [], K := [], ann := [(18, [(4, .loop [(.sl 5, .int .i64)])])] }
abbrev W318 : CT S [4] [22, 22] := (fun x0 x1 => (some (P318 x0 x1), S318 x0 x1))
abbrev Ok318 : Prop := ConOk P7 18 (ctr P7 [22, 22] [4] W318) ∧ ConMon (ctr P7 [22, 22] [4] W318)
theorem q318 (x0 : List ByteArray) (x1 : List ByteArray) (v : HR S [4]) : (Xf C318 6 (emp 0) 18 (argsA C318 [⟨22, x0⟩, ⟨22, x1⟩]) (emp 0) (fun r _ => isR
 C318.P [4] v r) (fun _ _ => False)) = (bif !decide ((↑x0.length : Int) = (↑x1.length : Int)) then false = v else LOOP (fun (h : Int) (J : Int → Prop) => bif
 decide (h < (↑x0.length : Int)) then ((0 : Int) ≤ h ∧ h < (↑x0.length : Int)) ∧ ((0 : Int) ≤ h ∧ h < (↑x1.length : Int)) ∧ bif !(ix x0 h).toList == (ix x1
 h).toList then false = v else J (IntKind.i64.wrap (h + (1 : Int))) else true = v) (0 : Int)) := by kernel_rfl
end Go.Rx
namespace Go.Rx
open Go.Ab Go.L21
set_option maxRecDepth 100000
set_option maxHeartbeats 20000000
set_option linter.unusedVariables false
/-- interregnum/row.addr -/
noncomputable def C339 : Cfg S := { P := P7, inl := [], K := [(56, ctr P7 [59, 3] [9] (fun x0 x1 => (some (P356 x0 x1), S356 x0 x1)))], ann := [] }
abbrev W339 : CT S [9] [31] := (fun x0 => (some (P339 x0), S339 x0))
abbrev Ok339 : Prop := ConOk P7 39 (ctr P7 [31] [9] W339) ∧ ConMon (ctr P7 [31] [9] W339)
theorem q339 (x0 : Int) (v : HR S [9]) : (Xf C339 6 (emp 0) 39 (argsA C339 [⟨31, x0⟩]) (emp 0) (fun r _ => isR C339.P [9] v r) (fun _ _ => False)) = (((10 :
 Int) = (10 : Int) ∧ (0 : Int) ≤ IntKind.u64.wrap x0 ∧ IntKind.u64.wrap x0 < (18446744073709551616 : Int)) ∧ S356 (IntKind.u64.wrap x0) (10 : Int) = v) := by
 kernel_rfl
end Go.Rx
namespace Go.Rx
open Go.Ab Go.L21
set_option maxRecDepth 100000
set_option maxHeartbeats 20000000
set_option linter.unusedVariables false
/-- interregnum/row.num -/
noncomputable def C340 : Cfg S := { P := P7, inl := [], K := [(33, ctr P7 [3] [9] (fun x0 => (some (P333 x0), S333 x0)))], ann := [] }
abbrev W340 : CT S [9] [3] := (fun x0 => (some (P340 x0), S340 x0))
abbrev Ok340 : Prop := ConOk P7 40 (ctr P7 [3] [9] W340) ∧ ConMon (ctr P7 [3] [9] W340)
theorem q340 (x0 : Int) (v : HR S [9]) : (Xf C340 6 (emp 0) 40 (argsA C340 [⟨3, x0⟩]) (emp 0) (fun r _ => isR C340.P [9] v r) (fun _ _ => False)) =
 (((-9223372036854775808 : Int) ≤ x0 ∧ x0 ≤ (9223372036854775807 : Int)) ∧ S333 x0 = v) := by kernel_rfl
end Go.Rx
namespace Go.Rx
open Go.Ab Go.L21
set_option maxRecDepth 100000
set_option maxHeartbeats 20000000
set_option linter.unusedVariables false
/-- interregnum/row.Hop -/
noncomputable def C319 : Cfg S := { P := P7, inl := [], K := [(14, ctr P7 [22] [9] (fun x0 => (some (P314 x0), S314 x0))), (39, ctr P7 [31] [9] (fun x0 => (some (P339 x0), S339 x0))), (40, ctr P7 [3] [9] (fun x0 => (some (P340 x0), S340 x0)))], ann := [] }
abbrev W319 : CT S [9] [35] := (fun x0 => (some (P319 x0), S319 x0))
abbrev Ok319 : Prop := ConOk P7 19 (ctr P7 [35] [9] W319) ∧ ConMon (ctr P7 [35] [9] W319)
theorem q319 (x0 : api_Hop) (v : HR S [9]) : (Xf C319 6 (emp 0) 19 (argsA C319 [⟨35, x0⟩]) (emp 0) (fun r _ => isR C319.P [9] v r) (fun _ _ => False)) = (((0 :
 Int) ≤ x0.fPrefix.fAddr ∧ x0.fPrefix.fAddr ≤ (4294967295 : Int)) ∧ ((-9223372036854775808 : Int) ≤ x0.fPrefix.fLen ∧ x0.fPrefix.fLen ≤ (9223372036854775807 :
 Int)) ∧ ((0 : Int) ≤ x0.fNext ∧ x0.fNext ≤ (4294967295 : Int)) ∧ ((-9223372036854775808 : Int) ≤ x0.fPeer ∧ x0.fPeer ≤ (9223372036854775807 : Int)) ∧
 ((-9223372036854775808 : Int) ≤ x0.fStale ∧ x0.fStale ≤ (9223372036854775807 : Int)) ∧ (textsL [S339 x0.fPrefix.fAddr, S340 x0.fPrefix.fLen, S339 x0.fNext,
 S340 x0.fPeer, S340 x0.fStale]).length.le (nat_lit 70368744177664) ∧ S314 [S339 x0.fPrefix.fAddr, S340 x0.fPrefix.fLen, S339 x0.fNext, S340 x0.fPeer, S340
 x0.fStale] = v) := by kernel_rfl
end Go.Rx
namespace Go.Rx
open Go.Ab Go.L21
set_option maxRecDepth 100000
set_option maxHeartbeats 20000000
set_option linter.unusedVariables false
/-- interregnum/interregnumref11.Hop -/
noncomputable def C321 : Cfg S := { P := P7, inl := [], K := [(38, ctr P7 [3] [9] (fun x0 => (some (P338 x0), S338 x0))), (17, ctr P7 [22] [9] (fun x0 => (some (P317 x0), S317 x0)))], ann := [] }
abbrev W321 : CT S [9] [35] := (fun x0 => (some (P321 x0), S321 x0))
abbrev Ok321 : Prop := ConOk P7 21 (ctr P7 [35] [9] W321) ∧ ConMon (ctr P7 [35] [9] W321)
theorem q321 (x0 : api_Hop) (v : HR S [9]) : (Xf C321 6 (emp 0) 21 (argsA C321 [⟨35, x0⟩]) (emp 0) (fun r _ => isR C321.P [9] v r) (fun _ _ => False)) =
 (((-9223372036854775808 : Int) ≤ IntKind.i64.wrap x0.fPrefix.fAddr ∧ IntKind.i64.wrap x0.fPrefix.fAddr ≤ (9223372036854775807 : Int)) ∧ ((-9223372036854775808
 : Int) ≤ x0.fPrefix.fLen ∧ x0.fPrefix.fLen ≤ (9223372036854775807 : Int)) ∧ ((-9223372036854775808 : Int) ≤ IntKind.i64.wrap x0.fNext ∧ IntKind.i64.wrap
 x0.fNext ≤ (9223372036854775807 : Int)) ∧ ((-9223372036854775808 : Int) ≤ x0.fPeer ∧ x0.fPeer ≤ (9223372036854775807 : Int)) ∧ ((-9223372036854775808 : Int) ≤
 x0.fStale ∧ x0.fStale ≤ (9223372036854775807 : Int)) ∧ (textsL [S338 (IntKind.i64.wrap x0.fPrefix.fAddr), S338 x0.fPrefix.fLen, S338 (IntKind.i64.wrap
 x0.fNext), S338 x0.fPeer, S338 x0.fStale]).length.le (nat_lit 70368744177664) ∧ S317 [S338 (IntKind.i64.wrap x0.fPrefix.fAddr), S338 x0.fPrefix.fLen, S338
 (IntKind.i64.wrap x0.fNext), S338 x0.fPeer, S338 x0.fStale] = v) := by kernel_rfl
end Go.Rx
/-! Numbers of the reference; small functions. -/
namespace Go.Rx
open Go.Ab Go.L21
set_option linter.unusedVariables false
set_option maxRecDepth 100000
theorem wrapU {n : Int} (h : 0 ≤ n ∧ n < 18446744073709551616) : IntKind.u64.wrap n = n := by
  rw [IntKind.wrap_u64]; omega
theorem kk1 {P : Program} {f : Nat} {W : Con S.A} (h : ConOk P f W ∧ ConMon W) : KOk P [(f, W)] := kok_cons h kok_nil
theorem bsOf_one {d : Nat} (h : d < 10) : bsOf (List.map (fun (x : Int) => x) [IntKind.u8.wrap ((48 : Int) + IntKind.u8.wrap (d : Int))]) = bs [UInt8.ofNat (48 + d)] := by
  have e : IntKind.u8.wrap ((48 : Int) + IntKind.u8.wrap (d : Int)) = ((48 + d : Nat) : Int) := by
    rw [wrap8, wrap8]; omega
  rw [e]
  rfl
theorem dec_len {u : Nat} (h : ¬ u < 10) : (Lib.decDigits u).length = (Lib.decDigits (u / 10)).length + 1 := by
  rw [Lib.decDigits, dif_neg h]; simp
theorem bs_app (a b : List UInt8) : bs a ++ bs b = bs (a ++ b) := by
  apply ByteArray.ext
  simp [bs]
theorem okD (k : Nat) : OkD k := by
  induction k with
  | zero => exact con_okP (C := C0) (fun x hx hp => by
      obtain ⟨_, _, h⟩ : DB 0 x := hp _ rfl
      exact absurd (List.length_eq_zero_iff.1 (Nat.le_zero.1 h)) (dec_ne _))
  | succ k ih =>
    refine con_ok (C := C355 k) (n := 6) (kk1 ih) mx7 (by kernel_rfl) ?_
    intro (x : Int) hx hp
    obtain ⟨h0, h1, h2⟩ : DB (k + 1) x := hp _ rfl
    refine of_eq (q355 k x _) ?_
    obtain ⟨u, rfl⟩ : ∃ u : Nat, x = (u : Int) := ⟨x.toNat, by omega⟩
    rw [Int.toNat_natCast] at h2
    have hS : S355 (u : Int) = bs (Lib.decDigits u) := by unfold S355; rw [Int.toNat_natCast]
    refine bif_of (fun hc => ?_) (fun hc => ?_)
    · have hc : u < 10 := by have := of_decide_eq_true hc; omega
      rw [bsOf_one hc]
      show _ = S355 (u : Int)
      rw [hS, Lib.decDigits, dif_pos hc]
    · have hc : ¬ u < 10 := by have := of_decide_eq_false hc; omega
      have e1 : IntKind.u64.wrap ((u : Int).tdiv 10) = ((u / 10 : Nat) : Int) := by
        rw [show ((u : Int).tdiv 10) = ((u / 10 : Nat) : Int) from rfl, wrapU (by omega)]
      have e2 : ((u : Int).tmod 10) = ((u % 10 : Nat) : Int) := rfl
      have e3 : S355 ((u / 10 : Nat) : Int) = bs (Lib.decDigits (u / 10)) := by unfold S355; rw [Int.toNat_natCast]
      have hl := dec_len hc
      rw [e1, e2, bsOf_one (show u % 10 < 10 by omega), e3]
      refine ⟨⟨by omega, by omega, by rw [Int.toNat_natCast]; omega⟩, ?_, ?_⟩
      · rw [size_bs, size_bs]
        have : (Lib.decDigits u).length ≤ 20 := by
          have h := Lib.numDigits_eq u (by omega) (by omega)
          rw [Lib.decDigits_length]; split at h <;> omega
        show _ + 1 ≤ 9223372036854775807
        omega
      · rw [bs_app]
        show _ = S355 (u : Int)
        rw [hS]
        conv => rhs; rw [Lib.decDigits, dif_neg hc]
abbrev W355 : CT S [9] [59] := WD 20
abbrev Ok355 : Prop := OkD 20
theorem ok355 : Ok355 := okD 20
theorem db20 (u : Nat) (h : u < 18446744073709551616) : DB 20 (u : Int) := by
  refine ⟨by omega, by omega, ?_⟩
  rw [Int.toNat_natCast]
  rcases Nat.eq_zero_or_pos u with rfl | h1
  · rw [Lib.decDigits]; decide
  · have h := Lib.numDigits_eq u h1 h
    rw [Lib.decDigits_length]; split at h <;> omega
theorem len20 (u : Nat) (h : u < 18446744073709551616) : (Lib.decDigits u).length ≤ 20 := by
  obtain ⟨_, _, h⟩ := db20 u h
  rwa [Int.toNat_natCast] at h
theorem s355 (u : Nat) : S355 (u : Int) = bs (Lib.decDigits u) := by unfold S355; rw [Int.toNat_natCast]
theorem run338 : RunC C338 6 38 [9] [3] W338 [] := by
  intro (n : Int) hn hp
  obtain ⟨h0, h1⟩ : P333 n := hp _ rfl
  refine of_eq (q338 n _) (bif_of (fun hc => ?_) (fun hc => ?_))
  · have hc := of_decide_eq_true hc
    obtain ⟨u, rfl⟩ : ∃ u : Nat, n = -(u : Int) := ⟨n.natAbs, by omega⟩
    have e : IntKind.u64.wrap (IntKind.u64.wrap (IntKind.i64.wrap ((0 : Int) - IntKind.i64.wrap (-(u : Int) + 1))) + 1) = (u : Int) := by
      rw [wrap64 (n := -(u : Int) + 1) (by omega), wrap64 (by omega), wrapU (n := 0 - (-(u : Int) + 1)) (by omega), wrapU (by omega)]; omega
    rw [e, s355]
    refine ⟨db20 u (by omega), ?_, ?_⟩
    · have := len20 u (by omega)
      rw [size_bs]
      show 1 + _ ≤ 9223372036854775807
      omega
    · show bs [45] ++ _ = bs (Lib.itoa _)
      rw [bs_app, Lib.itoa_neg u (by omega)]; rfl
  · have hc := of_decide_eq_false hc
    obtain ⟨u, rfl⟩ : ∃ u : Nat, n = (u : Int) := ⟨n.toNat, by omega⟩
    rw [wrapU (by omega), s355]
    refine ⟨db20 u (by omega), ?_⟩
    show _ = bs (Lib.itoa _)
    rw [Lib.itoa_nonneg]
theorem ok338 : Ok338 := con_ok (C := C338) (kk1 ok355) mx7 (by kernel_rfl) run338
theorem ix_get {l : List ByteArray} {k : Nat} {y : ByteArray} (h : l[k]? = some y) : ix l (k : Int) = y := by
  unfold ix
  rw [Int.toNat_natCast, List.getD_eq_getElem?_getD, h]; rfl
theorem run317 : RunC C317 6 17 [9] [22] W317 [] := by
  intro (x : List ByteArray) hx hp
  have hp : (textsL x).length ≤ 70368744177664 := hp _ rfl
  have hn := Proofs.texts_num x
  refine of_eq (q317 x _) ?_
  refine LOOP.of (fun y => ∃ k : Nat, y = (bs (textsL (x.take k)), (k : Int)) ∧ k ≤ x.length) (fun y => x.length - y.2.toNat) ⟨0, rfl, by omega⟩ ?_
  rintro _ ⟨k, rfl, hk⟩ J hJ
  dsimp only
  refine bif_of (fun hc => ?_) (fun hc => ?_)
  · have hc := of_decide_eq_true hc
    have hkl : k < x.length := by omega
    have hy : x[k]? = some x[k] := List.getElem?_eq_getElem hkl
    generalize x[k] = y at hy
    have hl := Proofs.texts_le x (k + 1)
    rw [Proofs.texts_take hy, textL] at hl
    simp only [List.length_append, List.length_cons, ← Lib.size_eq] at hl
    rw [ix_get hy]
    have hS : S338 (y.size : Int) = bs (Lib.itoa y.size) := rfl
    have h1 : bs (textsL (x.take k)) ++ bs (Lib.itoa y.size) = bs (textsL (x.take k) ++ Lib.itoa y.size) := bs_app _ _
    have h2 : bs (textsL (x.take k) ++ Lib.itoa y.size) ++ ByteArray.mk #[58] = bs (textsL (x.take k) ++ Lib.itoa y.size ++ [58]) := bs_app _ [58]
    rw [hS, h1, h2]
    simp only [size_bs]
    refine ⟨⟨by omega, hc⟩, ⟨by omega, hc⟩, ⟨by omega, by omega⟩, ?_, ?_, ?_, hJ _ ⟨k + 1, Prod.ext ?_ ?_, by omega⟩ ?_⟩
    · show _ ≤ 9223372036854775807; omega
    · show _ + 1 ≤ 9223372036854775807; rw [List.length_append]; omega
    · show _ ≤ 9223372036854775807; simp only [List.length_append, List.length_singleton]; omega
    · show bs _ ++ bs y.data.toList = bs _
      rw [bs_app, Proofs.texts_take hy, textL]; simp
    · exact (wrap64 (by omega)).trans (by show (k : Int) + 1 = ((k + 1 : Nat) : Int); omega)
    · show x.length - (IntKind.i64.wrap ((k : Int) + 1)).toNat < x.length - ((k : Nat) : Int).toNat
      rw [wrap64 (by omega)]; omega
  · have hc := of_decide_eq_false hc
    have : k = x.length := by omega
    rw [this, List.take_length]
    rfl
theorem ok317 : Ok317 := con_ok (C := C317) (kk1 ok338) mx7 (by kernel_rfl) run317
theorem run339 : RunC C339 6 39 [9] [31] W339 [] := by
  intro (n : Int) hn hp
  obtain ⟨h0, h1⟩ : P339 n := hp _ rfl
  refine of_eq (q339 n _) ?_
  rw [wrapU (by omega)]
  exact ⟨⟨rfl, h0, by omega⟩, rfl⟩
theorem ok339 : Ok339 := con_ok (C := C339) (kk1 ok356) mx7 (by kernel_rfl) run339
theorem run340 : RunC C340 6 40 [9] [3] W340 [] := by
  intro (n : Int) hn hp
  have hp : P333 n := hp _ rfl
  exact of_eq (q340 n _) ⟨hp, rfl⟩
theorem ok340 : Ok340 := con_ok (C := C340) (kk1 ok333) mx7 (by kernel_rfl) run340
theorem itoa_len {n : Int} (h : P333 n) : (Lib.itoa n).length ≤ 21 := by
  by_cases hn : n < 0
  · obtain ⟨u, rfl⟩ : ∃ u : Nat, n = -(u : Int) := ⟨n.natAbs, by omega⟩
    have := h.1
    have := len20 u (by omega)
    rw [Lib.itoa_neg u (by omega), List.length_cons]; omega
  · obtain ⟨u, rfl⟩ : ∃ u : Nat, n = (u : Int) := ⟨n.toNat, by omega⟩
    have := h.2
    have := len20 u (by omega)
    rw [Lib.itoa_nonneg]; omega
theorem p333 {n : Int} (h : 0 ≤ n ∧ n ≤ 4294967295) : P333 n := ⟨by omega, by omega⟩
theorem text_len {n : Int} (h : P333 n) : (textL (S333 n)).length ≤ 43 := by
  have h1 := itoa_len h
  rw [textL, List.length_append, List.length_cons, S333, data_bs, size_bs]
  have := itoa_len (n := ((Lib.itoa n).length : Int)) ⟨by omega, by omega⟩
  omega
theorem hop_len {h : api_Hop} (hh : okHop h) : (textsL (hopL h)).length ≤ 215 := by
  obtain ⟨h1, h2, h3, h4, h5⟩ := hh
  have h1 := text_len (p333 h1)
  have h2 := text_len h2
  have h3 := text_len (p333 h3)
  have h4 := text_len h4
  have h5 := text_len h5
  simp only [textsL, hopL, List.flatMap_cons, List.flatMap_nil, List.length_append, List.length_nil]
  omega
theorem run319 : RunC C319 6 19 [9] [35] W319 [] := by
  intro (h : api_Hop) hx hp
  have hp : okHop h := hp _ rfl
  have hl := hop_len hp
  obtain ⟨h1, h2, h3, h4, h5⟩ := hp
  refine of_eq (q319 h _) ⟨h1, h2, h3, h4, h5, ?_, rfl⟩
  show (textsL (hopL h)).length ≤ 70368744177664
  omega
theorem ok319 : Ok319 := by
  refine con_ok (C := C319) ?_ mx7 (by kernel_rfl) run319
  exact kok_cons ok314 (kok_cons ok339 (kok_cons ok340 kok_nil))
theorem run321 : RunC C321 6 21 [9] [35] W321 [] := by
  intro (h : api_Hop) hx hp
  have hp : okHop h := hp _ rfl
  have hl := hop_len hp
  obtain ⟨h1, h2, h3, h4, h5⟩ := hp
  refine of_eq (q321 h _) ?_
  rw [wrap64 (n := h.fPrefix.fAddr) (by omega), wrap64 (n := h.fNext) (by omega)]
  refine ⟨p333 h1, h2, p333 h3, h4, h5, ?_, rfl⟩
  show (textsL (hopL h)).length ≤ 70368744177664
  omega
theorem ok321 : Ok321 := by
  refine con_ok (C := C321) ?_ mx7 (by kernel_rfl) run321
  exact kok_cons ok338 (kok_cons ok317 kok_nil)
end Go.Rx
namespace Go.Rx
open Go.Ab Go.L21
set_option maxRecDepth 100000
set_option maxHeartbeats 20000000
set_option linter.unusedVariables false
def R320 (z : List ByteArray × Bool) (x0 : ByteArray) (v : HR S [35, 4]) : Prop := x0.size.le (nat_lit 1099511627776) ∧ bif decide ((↑z.fst.length : Int) = (0
 : Int)) then (nat_lit 0 ≤ nat_lit 281474976710656 ∧ (10 : Int) = (10 : Int) ∧ ((32 : Int) = (32 : Int) ∨ (32 : Int) = (64 : Int))) ∧ bif decide
 ((↑z.fst.length : Int) = (0 : Int)) then Nat.le (nat_lit 0) (nat_lit 281474976710656) ∧ bif decide ((↑z.fst.length : Int) = (0 : Int)) then (nat_lit 0 ≤
 nat_lit 281474976710656 ∧ (10 : Int) = (10 : Int) ∧ ((32 : Int) = (32 : Int) ∨ (32 : Int) = (64 : Int))) ∧ bif decide ((↑z.fst.length : Int) = (0 : Int)) then
 Nat.le (nat_lit 0) (nat_lit 281474976710656) ∧ bif decide ((↑z.fst.length : Int) = (0 : Int)) then Nat.le (nat_lit 0) (nat_lit 281474976710656) ∧ (api_Hop.mk
 (api_Prefix.mk (0 : Int) (0 : Int)) (0 : Int) (0 : Int) (0 : Int), false) = v else ((0 : Int) ≤ (0 : Int) ∧ (0 : Int) < (↑z.fst.length : Int)) ∧ ((0 : Int) ≤
 (1 : Int) ∧ (1 : Int) ≤ (↑z.fst.length : Int) ∧ (↑z.fst.length : Int) ≤ (↑z.fst.length : Int)) ∧ (ix z.fst (0 : Int)).size.le (nat_lit 281474976710656) ∧
 (api_Hop.mk (api_Prefix.mk (0 : Int) (0 : Int)) (0 : Int) (0 : Int) (0 : Int), false) = v else ((0 : Int) ≤ (0 : Int) ∧ (0 : Int) < (↑z.fst.length : Int)) ∧
 ((0 : Int) ≤ (1 : Int) ∧ (1 : Int) ≤ (↑z.fst.length : Int) ∧ (↑z.fst.length : Int) ≤ (↑z.fst.length : Int)) ∧ (ix z.fst (0 : Int)).size.le (nat_lit
 281474976710656) ∧ bif decide ((↑(sub z.fst (1 : Int) (↑z.fst.length : Int)).length : Int) = (0 : Int)) then Nat.le (nat_lit 0) (nat_lit 281474976710656) ∧
 (api_Hop.mk (api_Prefix.mk (0 : Int) (0 : Int)) (0 : Int) (0 : Int) (0 : Int), false) = v else ((0 : Int) ≤ (0 : Int) ∧ (0 : Int) < (↑(sub z.fst (1 : Int)
 (↑z.fst.length : Int)).length : Int)) ∧ ((0 : Int) ≤ (1 : Int) ∧ (1 : Int) ≤ (↑(sub z.fst (1 : Int) (↑z.fst.length : Int)).length : Int) ∧ (↑(sub z.fst (1 :
 Int) (↑z.fst.length : Int)).length : Int) ≤ (↑(sub z.fst (1 : Int) (↑z.fst.length : Int)).length : Int)) ∧ (ix (sub z.fst (1 : Int) (↑z.fst.length : Int)) (0
 : Int)).size.le (nat_lit 281474976710656) ∧ (api_Hop.mk (api_Prefix.mk (0 : Int) (0 : Int)) (0 : Int) (0 : Int) (0 : Int), false) = v else ((0 : Int) ≤ (0 :
 Int) ∧ (0 : Int) < (↑z.fst.length : Int)) ∧ ((0 : Int) ≤ (1 : Int) ∧ (1 : Int) ≤ (↑z.fst.length : Int) ∧ (↑z.fst.length : Int) ≤ (↑z.fst.length : Int)) ∧ ((ix
 z.fst (0 : Int)).size ≤ nat_lit 281474976710656 ∧ (10 : Int) = (10 : Int) ∧ ((32 : Int) = (32 : Int) ∨ (32 : Int) = (64 : Int))) ∧ bif decide ((↑(sub z.fst (1
 : Int) (↑z.fst.length : Int)).length : Int) = (0 : Int)) then Nat.le (nat_lit 0) (nat_lit 281474976710656) ∧ bif decide ((↑(sub z.fst (1 : Int) (↑z.fst.length
 : Int)).length : Int) = (0 : Int)) then Nat.le (nat_lit 0) (nat_lit 281474976710656) ∧ (api_Hop.mk (api_Prefix.mk (0 : Int) (0 : Int)) (0 : Int) (0 : Int) (0
 : Int), false) = v else ((0 : Int) ≤ (0 : Int) ∧ (0 : Int) < (↑(sub z.fst (1 : Int) (↑z.fst.length : Int)).length : Int)) ∧ ((0 : Int) ≤ (1 : Int) ∧ (1 : Int)
 ≤ (↑(sub z.fst (1 : Int) (↑z.fst.length : Int)).length : Int) ∧ (↑(sub z.fst (1 : Int) (↑z.fst.length : Int)).length : Int) ≤ (↑(sub z.fst (1 : Int)
 (↑z.fst.length : Int)).length : Int)) ∧ (ix (sub z.fst (1 : Int) (↑z.fst.length : Int)) (0 : Int)).size.le (nat_lit 281474976710656) ∧ (api_Hop.mk
 (api_Prefix.mk (0 : Int) (0 : Int)) (0 : Int) (0 : Int) (0 : Int), false) = v else ((0 : Int) ≤ (0 : Int) ∧ (0 : Int) < (↑(sub z.fst (1 : Int) (↑z.fst.length
 : Int)).length : Int)) ∧ ((0 : Int) ≤ (1 : Int) ∧ (1 : Int) ≤ (↑(sub z.fst (1 : Int) (↑z.fst.length : Int)).length : Int) ∧ (↑(sub z.fst (1 : Int)
 (↑z.fst.length : Int)).length : Int) ≤ (↑(sub z.fst (1 : Int) (↑z.fst.length : Int)).length : Int)) ∧ (ix (sub z.fst (1 : Int) (↑z.fst.length : Int)) (0 :
 Int)).size.le (nat_lit 281474976710656) ∧ bif decide ((↑(sub (sub z.fst (1 : Int) (↑z.fst.length : Int)) (1 : Int) (↑(sub z.fst (1 : Int) (↑z.fst.length :
 Int)).length : Int)).length : Int) = (0 : Int)) then Nat.le (nat_lit 0) (nat_lit 281474976710656) ∧ (api_Hop.mk (api_Prefix.mk (0 : Int) (0 : Int)) (0 : Int)
 (0 : Int) (0 : Int), false) = v else ((0 : Int) ≤ (0 : Int) ∧ (0 : Int) < (↑(sub (sub z.fst (1 : Int) (↑z.fst.length : Int)) (1 : Int) (↑(sub z.fst (1 : Int)
 (↑z.fst.length : Int)).length : Int)).length : Int)) ∧ ((0 : Int) ≤ (1 : Int) ∧ (1 : Int) ≤ (↑(sub (sub z.fst (1 : Int) (↑z.fst.length : Int)) (1 : Int)
 (↑(sub z.fst (1 : Int) (↑z.fst.length : Int)).length : Int)).length : Int) ∧ (↑(sub (sub z.fst (1 : Int) (↑z.fst.length : Int)) (1 : Int) (↑(sub z.fst (1 :
 Int) (↑z.fst.length : Int)).length : Int)).length : Int) ≤ (↑(sub (sub z.fst (1 : Int) (↑z.fst.length : Int)) (1 : Int) (↑(sub z.fst (1 : Int) (↑z.fst.length
 : Int)).length : Int)).length : Int)) ∧ (ix (sub (sub z.fst (1 : Int) (↑z.fst.length : Int)) (1 : Int) (↑(sub z.fst (1 : Int) (↑z.fst.length : Int)).length :
 Int)) (0 : Int)).size.le (nat_lit 281474976710656) ∧ (api_Hop.mk (api_Prefix.mk (0 : Int) (0 : Int)) (0 : Int) (0 : Int) (0 : Int), false) = v else ((0 : Int)
 ≤ (0 : Int) ∧ (0 : Int) < (↑z.fst.length : Int)) ∧ ((0 : Int) ≤ (1 : Int) ∧ (1 : Int) ≤ (↑z.fst.length : Int) ∧ (↑z.fst.length : Int) ≤ (↑z.fst.length : Int))
 ∧ (ix z.fst (0 : Int)).size.le (nat_lit 281474976710656) ∧ bif decide ((↑(sub z.fst (1 : Int) (↑z.fst.length : Int)).length : Int) = (0 : Int)) then (nat_lit
 0 ≤ nat_lit 281474976710656 ∧ (10 : Int) = (10 : Int) ∧ ((32 : Int) = (32 : Int) ∨ (32 : Int) = (64 : Int))) ∧ bif decide ((↑(sub z.fst (1 : Int)
 (↑z.fst.length : Int)).length : Int) = (0 : Int)) then Nat.le (nat_lit 0) (nat_lit 281474976710656) ∧ bif decide ((↑(sub z.fst (1 : Int) (↑z.fst.length :
 Int)).length : Int) = (0 : Int)) then Nat.le (nat_lit 0) (nat_lit 281474976710656) ∧ (api_Hop.mk (api_Prefix.mk (0 : Int) (0 : Int)) (0 : Int) (0 : Int) (0 :
 Int), false) = v else ((0 : Int) ≤ (0 : Int) ∧ (0 : Int) < (↑(sub z.fst (1 : Int) (↑z.fst.length : Int)).length : Int)) ∧ ((0 : Int) ≤ (1 : Int) ∧ (1 : Int) ≤
 (↑(sub z.fst (1 : Int) (↑z.fst.length : Int)).length : Int) ∧ (↑(sub z.fst (1 : Int) (↑z.fst.length : Int)).length : Int) ≤ (↑(sub z.fst (1 : Int)
 (↑z.fst.length : Int)).length : Int)) ∧ (ix (sub z.fst (1 : Int) (↑z.fst.length : Int)) (0 : Int)).size.le (nat_lit 281474976710656) ∧ (api_Hop.mk
 (api_Prefix.mk (0 : Int) (0 : Int)) (0 : Int) (0 : Int) (0 : Int), false) = v else ((0 : Int) ≤ (0 : Int) ∧ (0 : Int) < (↑(sub z.fst (1 : Int) (↑z.fst.length
 : Int)).length : Int)) ∧ ((0 : Int) ≤ (1 : Int) ∧ (1 : Int) ≤ (↑(sub z.fst (1 : Int) (↑z.fst.length : Int)).length : Int) ∧ (↑(sub z.fst (1 : Int)
 (↑z.fst.length : Int)).length : Int) ≤ (↑(sub z.fst (1 : Int) (↑z.fst.length : Int)).length : Int)) ∧ (ix (sub z.fst (1 : Int) (↑z.fst.length : Int)) (0 :
 Int)).size.le (nat_lit 281474976710656) ∧ bif decide ((↑(sub (sub z.fst (1 : Int) (↑z.fst.length : Int)) (1 : Int) (↑(sub z.fst (1 : Int) (↑z.fst.length :
 Int)).length : Int)).length : Int) = (0 : Int)) then Nat.le (nat_lit 0) (nat_lit 281474976710656) ∧ (api_Hop.mk (api_Prefix.mk (0 : Int) (0 : Int)) (0 : Int)
 (0 : Int) (0 : Int), false) = v else ((0 : Int) ≤ (0 : Int) ∧ (0 : Int) < (↑(sub (sub z.fst (1 : Int) (↑z.fst.length : Int)) (1 : Int) (↑(sub z.fst (1 : Int)
 (↑z.fst.length : Int)).length : Int)).length : Int)) ∧ ((0 : Int) ≤ (1 : Int) ∧ (1 : Int) ≤ (↑(sub (sub z.fst (1 : Int) (↑z.fst.length : Int)) (1 : Int)
 (↑(sub z.fst (1 : Int) (↑z.fst.length : Int)).length : Int)).length : Int) ∧ (↑(sub (sub z.fst (1 : Int) (↑z.fst.length : Int)) (1 : Int) (↑(sub z.fst (1 :
 Int) (↑z.fst.length : Int)).length : Int)).length : Int) ≤ (↑(sub (sub z.fst (1 : Int) (↑z.fst.length : Int)) (1 : Int) (↑(sub z.fst (1 : Int) (↑z.fst.length
 : Int)).length : Int)).length : Int)) ∧ (ix (sub (sub z.fst (1 : Int) (↑z.fst.length : Int)) (1 : Int) (↑(sub z.fst (1 : Int) (↑z.fst.length : Int)).length :
 Int)) (0 : Int)).size.le (nat_lit 281474976710656) ∧ (api_Hop.mk (api_Prefix.mk (0 : Int) (0 : Int)) (0 : Int) (0 : Int) (0 : Int), false) = v else ((0 : Int)
 ≤ (0 : Int) ∧ (0 : Int) < (↑(sub z.fst (1 : Int) (↑z.fst.length : Int)).length : Int)) ∧ ((0 : Int) ≤ (1 : Int) ∧ (1 : Int) ≤ (↑(sub z.fst (1 : Int)
 (↑z.fst.length : Int)).length : Int) ∧ (↑(sub z.fst (1 : Int) (↑z.fst.length : Int)).length : Int) ≤ (↑(sub z.fst (1 : Int) (↑z.fst.length : Int)).length :
 Int)) ∧ ((ix (sub z.fst (1 : Int) (↑z.fst.length : Int)) (0 : Int)).size ≤ nat_lit 281474976710656 ∧ (10 : Int) = (10 : Int) ∧ ((32 : Int) = (32 : Int) ∨ (32
 : Int) = (64 : Int))) ∧ bif decide ((↑(sub (sub z.fst (1 : Int) (↑z.fst.length : Int)) (1 : Int) (↑(sub z.fst (1 : Int) (↑z.fst.length : Int)).length :
 Int)).length : Int) = (0 : Int)) then Nat.le (nat_lit 0) (nat_lit 281474976710656) ∧ bif decide ((↑(sub (sub z.fst (1 : Int) (↑z.fst.length : Int)) (1 : Int)
 (↑(sub z.fst (1 : Int) (↑z.fst.length : Int)).length : Int)).length : Int) = (0 : Int)) then Nat.le (nat_lit 0) (nat_lit 281474976710656) ∧ (api_Hop.mk
 (api_Prefix.mk (0 : Int) (0 : Int)) (0 : Int) (0 : Int) (0 : Int), false) = v else ((0 : Int) ≤ (0 : Int) ∧ (0 : Int) < (↑(sub (sub z.fst (1 : Int)
 (↑z.fst.length : Int)) (1 : Int) (↑(sub z.fst (1 : Int) (↑z.fst.length : Int)).length : Int)).length : Int)) ∧ ((0 : Int) ≤ (1 : Int) ∧ (1 : Int) ≤ (↑(sub
 (sub z.fst (1 : Int) (↑z.fst.length : Int)) (1 : Int) (↑(sub z.fst (1 : Int) (↑z.fst.length : Int)).length : Int)).length : Int) ∧ (↑(sub (sub z.fst (1 : Int)
 (↑z.fst.length : Int)) (1 : Int) (↑(sub z.fst (1 : Int) (↑z.fst.length : Int)).length : Int)).length : Int) ≤ (↑(sub (sub z.fst (1 : Int) (↑z.fst.length :
 Int)) (1 : Int) (↑(sub z.fst (1 : Int) (↑z.fst.length : Int)).length : Int)).length : Int)) ∧ (ix (sub (sub z.fst (1 : Int) (↑z.fst.length : Int)) (1 : Int)
 (↑(sub z.fst (1 : Int) (↑z.fst.length : Int)).length : Int)) (0 : Int)).size.le (nat_lit 281474976710656) ∧ (api_Hop.mk (api_Prefix.mk (0 : Int) (0 : Int)) (0
 : Int) (0 : Int) (0 : Int), false) = v else ((0 : Int) ≤ (0 : Int) ∧ (0 : Int) < (↑(sub (sub z.fst (1 : Int) (↑z.fst.length : Int)) (1 : Int) (↑(sub z.fst (1
 : Int) (↑z.fst.length : Int)).length : Int)).length : Int)) ∧ ((0 : Int) ≤ (1 : Int) ∧ (1 : Int) ≤ (↑(sub (sub z.fst (1 : Int) (↑z.fst.length : Int)) (1 :
 Int) (↑(sub z.fst (1 : Int) (↑z.fst.length : Int)).length : Int)).length : Int) ∧ (↑(sub (sub z.fst (1 : Int) (↑z.fst.length : Int)) (1 : Int) (↑(sub z.fst (1
 : Int) (↑z.fst.length : Int)).length : Int)).length : Int) ≤ (↑(sub (sub z.fst (1 : Int) (↑z.fst.length : Int)) (1 : Int) (↑(sub z.fst (1 : Int)
 (↑z.fst.length : Int)).length : Int)).length : Int)) ∧ (ix (sub (sub z.fst (1 : Int) (↑z.fst.length : Int)) (1 : Int) (↑(sub z.fst (1 : Int) (↑z.fst.length :
 Int)).length : Int)) (0 : Int)).size.le (nat_lit 281474976710656) ∧ bif decide ((↑(sub (sub (sub z.fst (1 : Int) (↑z.fst.length : Int)) (1 : Int) (↑(sub z.fst
 (1 : Int) (↑z.fst.length : Int)).length : Int)) (1 : Int) (↑(sub (sub z.fst (1 : Int) (↑z.fst.length : Int)) (1 : Int) (↑(sub z.fst (1 : Int) (↑z.fst.length :
 Int)).length : Int)).length : Int)).length : Int) = (0 : Int)) then Nat.le (nat_lit 0) (nat_lit 281474976710656) ∧ (api_Hop.mk (api_Prefix.mk (0 : Int) (0 :
 Int)) (0 : Int) (0 : Int) (0 : Int), false) = v else ((0 : Int) ≤ (0 : Int) ∧ (0 : Int) < (↑(sub (sub (sub z.fst (1 : Int) (↑z.fst.length : Int)) (1 : Int)
 (↑(sub z.fst (1 : Int) (↑z.fst.length : Int)).length : Int)) (1 : Int) (↑(sub (sub z.fst (1 : Int) (↑z.fst.length : Int)) (1 : Int) (↑(sub z.fst (1 : Int)
 (↑z.fst.length : Int)).length : Int)).length : Int)).length : Int)) ∧ ((0 : Int) ≤ (1 : Int) ∧ (1 : Int) ≤ (↑(sub (sub (sub z.fst (1 : Int) (↑z.fst.length :
 Int)) (1 : Int) (↑(sub z.fst (1 : Int) (↑z.fst.length : Int)).length : Int)) (1 : Int) (↑(sub (sub z.fst (1 : Int) (↑z.fst.length : Int)) (1 : Int) (↑(sub
 z.fst (1 : Int) (↑z.fst.length : Int)).length : Int)).length : Int)).length : Int) ∧ (↑(sub (sub (sub z.fst (1 : Int) (↑z.fst.length : Int)) (1 : Int) (↑(sub
 z.fst (1 : Int) (↑z.fst.length : Int)).length : Int)) (1 : Int) (↑(sub (sub z.fst (1 : Int) (↑z.fst.length : Int)) (1 : Int) (↑(sub z.fst (1 : Int)
 (↑z.fst.length : Int)).length : Int)).length : Int)).length : Int) ≤ (↑(sub (sub (sub z.fst (1 : Int) (↑z.fst.length : Int)) (1 : Int) (↑(sub z.fst (1 : Int)
 (↑z.fst.length : Int)).length : Int)) (1 : Int) (↑(sub (sub z.fst (1 : Int) (↑z.fst.length : Int)) (1 : Int) (↑(sub z.fst (1 : Int) (↑z.fst.length :
 Int)).length : Int)).length : Int)).length : Int)) ∧ (ix (sub (sub (sub z.fst (1 : Int) (↑z.fst.length : Int)) (1 : Int) (↑(sub z.fst (1 : Int) (↑z.fst.length
 : Int)).length : Int)) (1 : Int) (↑(sub (sub z.fst (1 : Int) (↑z.fst.length : Int)) (1 : Int) (↑(sub z.fst (1 : Int) (↑z.fst.length : Int)).length :
 Int)).length : Int)) (0 : Int)).size.le (nat_lit 281474976710656) ∧ (api_Hop.mk (api_Prefix.mk (0 : Int) (0 : Int)) (0 : Int) (0 : Int) (0 : Int), false) = v
 else ((0 : Int) ≤ (0 : Int) ∧ (0 : Int) < (↑z.fst.length : Int)) ∧ ((0 : Int) ≤ (1 : Int) ∧ (1 : Int) ≤ (↑z.fst.length : Int) ∧ (↑z.fst.length : Int) ≤
 (↑z.fst.length : Int)) ∧ ((ix z.fst (0 : Int)).size ≤ nat_lit 281474976710656 ∧ (10 : Int) = (10 : Int) ∧ ((32 : Int) = (32 : Int) ∨ (32 : Int) = (64 : Int)))
 ∧ bif decide ((↑(sub z.fst (1 : Int) (↑z.fst.length : Int)).length : Int) = (0 : Int)) then Nat.le (nat_lit 0) (nat_lit 281474976710656) ∧ bif decide ((↑(sub
 z.fst (1 : Int) (↑z.fst.length : Int)).length : Int) = (0 : Int)) then (nat_lit 0 ≤ nat_lit 281474976710656 ∧ (10 : Int) = (10 : Int) ∧ ((32 : Int) = (32 :
 Int) ∨ (32 : Int) = (64 : Int))) ∧ bif decide ((↑(sub z.fst (1 : Int) (↑z.fst.length : Int)).length : Int) = (0 : Int)) then Nat.le (nat_lit 0) (nat_lit
 281474976710656) ∧ bif decide ((↑(sub z.fst (1 : Int) (↑z.fst.length : Int)).length : Int) = (0 : Int)) then Nat.le (nat_lit 0) (nat_lit 281474976710656) ∧
 (api_Hop.mk (api_Prefix.mk (0 : Int) (0 : Int)) (0 : Int) (0 : Int) (0 : Int), false) = v else ((0 : Int) ≤ (0 : Int) ∧ (0 : Int) < (↑(sub z.fst (1 : Int)
 (↑z.fst.length : Int)).length : Int)) ∧ ((0 : Int) ≤ (1 : Int) ∧ (1 : Int) ≤ (↑(sub z.fst (1 : Int) (↑z.fst.length : Int)).length : Int) ∧ (↑(sub z.fst (1 :
 Int) (↑z.fst.length : Int)).length : Int) ≤ (↑(sub z.fst (1 : Int) (↑z.fst.length : Int)).length : Int)) ∧ (ix (sub z.fst (1 : Int) (↑z.fst.length : Int)) (0
 : Int)).size.le (nat_lit 281474976710656) ∧ (api_Hop.mk (api_Prefix.mk (0 : Int) (0 : Int)) (0 : Int) (0 : Int) (0 : Int), false) = v else ((0 : Int) ≤ (0 :
 Int) ∧ (0 : Int) < (↑(sub z.fst (1 : Int) (↑z.fst.length : Int)).length : Int)) ∧ ((0 : Int) ≤ (1 : Int) ∧ (1 : Int) ≤ (↑(sub z.fst (1 : Int) (↑z.fst.length :
 Int)).length : Int) ∧ (↑(sub z.fst (1 : Int) (↑z.fst.length : Int)).length : Int) ≤ (↑(sub z.fst (1 : Int) (↑z.fst.length : Int)).length : Int)) ∧ (ix (sub
 z.fst (1 : Int) (↑z.fst.length : Int)) (0 : Int)).size.le (nat_lit 281474976710656) ∧ bif decide ((↑(sub (sub z.fst (1 : Int) (↑z.fst.length : Int)) (1 : Int)
 (↑(sub z.fst (1 : Int) (↑z.fst.length : Int)).length : Int)).length : Int) = (0 : Int)) then Nat.le (nat_lit 0) (nat_lit 281474976710656) ∧ (api_Hop.mk
 (api_Prefix.mk (0 : Int) (0 : Int)) (0 : Int) (0 : Int) (0 : Int), false) = v else ((0 : Int) ≤ (0 : Int) ∧ (0 : Int) < (↑(sub (sub z.fst (1 : Int)
 (↑z.fst.length : Int)) (1 : Int) (↑(sub z.fst (1 : Int) (↑z.fst.length : Int)).length : Int)).length : Int)) ∧ ((0 : Int) ≤ (1 : Int) ∧ (1 : Int) ≤ (↑(sub
 (sub z.fst (1 : Int) (↑z.fst.length : Int)) (1 : Int) (↑(sub z.fst (1 : Int) (↑z.fst.length : Int)).length : Int)).length : Int) ∧ (↑(sub (sub z.fst (1 : Int)
 (↑z.fst.length : Int)) (1 : Int) (↑(sub z.fst (1 : Int) (↑z.fst.length : Int)).length : Int)).length : Int) ≤ (↑(sub (sub z.fst (1 : Int) (↑z.fst.length :
 Int)) (1 : Int) (↑(sub z.fst (1 : Int) (↑z.fst.length : Int)).length : Int)).length : Int)) ∧ (ix (sub (sub z.fst (1 : Int) (↑z.fst.length : Int)) (1 : Int)
 (↑(sub z.fst (1 : Int) (↑z.fst.length : Int)).length : Int)) (0 : Int)).size.le (nat_lit 281474976710656) ∧ (api_Hop.mk (api_Prefix.mk (0 : Int) (0 : Int)) (0
 : Int) (0 : Int) (0 : Int), false) = v else ((0 : Int) ≤ (0 : Int) ∧ (0 : Int) < (↑(sub z.fst (1 : Int) (↑z.fst.length : Int)).length : Int)) ∧ ((0 : Int) ≤
 (1 : Int) ∧ (1 : Int) ≤ (↑(sub z.fst (1 : Int) (↑z.fst.length : Int)).length : Int) ∧ (↑(sub z.fst (1 : Int) (↑z.fst.length : Int)).length : Int) ≤ (↑(sub
 z.fst (1 : Int) (↑z.fst.length : Int)).length : Int)) ∧ ((ix (sub z.fst (1 : Int) (↑z.fst.length : Int)) (0 : Int)).size ≤ nat_lit 281474976710656 ∧ (10 :
 Int) = (10 : Int) ∧ ((32 : Int) = (32 : Int) ∨ (32 : Int) = (64 : Int))) ∧ bif decide ((↑(sub (sub z.fst (1 : Int) (↑z.fst.length : Int)) (1 : Int) (↑(sub
 z.fst (1 : Int) (↑z.fst.length : Int)).length : Int)).length : Int) = (0 : Int)) then Nat.le (nat_lit 0) (nat_lit 281474976710656) ∧ bif decide ((↑(sub (sub
 z.fst (1 : Int) (↑z.fst.length : Int)) (1 : Int) (↑(sub z.fst (1 : Int) (↑z.fst.length : Int)).length : Int)).length : Int) = (0 : Int)) then Nat.le (nat_lit
 0) (nat_lit 281474976710656) ∧ (api_Hop.mk (api_Prefix.mk (0 : Int) (0 : Int)) (0 : Int) (0 : Int) (0 : Int), false) = v else ((0 : Int) ≤ (0 : Int) ∧ (0 :
 Int) < (↑(sub (sub z.fst (1 : Int) (↑z.fst.length : Int)) (1 : Int) (↑(sub z.fst (1 : Int) (↑z.fst.length : Int)).length : Int)).length : Int)) ∧ ((0 : Int) ≤
 (1 : Int) ∧ (1 : Int) ≤ (↑(sub (sub z.fst (1 : Int) (↑z.fst.length : Int)) (1 : Int) (↑(sub z.fst (1 : Int) (↑z.fst.length : Int)).length : Int)).length :
 Int) ∧ (↑(sub (sub z.fst (1 : Int) (↑z.fst.length : Int)) (1 : Int) (↑(sub z.fst (1 : Int) (↑z.fst.length : Int)).length : Int)).length : Int) ≤ (↑(sub (sub
 z.fst (1 : Int) (↑z.fst.length : Int)) (1 : Int) (↑(sub z.fst (1 : Int) (↑z.fst.length : Int)).length : Int)).length : Int)) ∧ (ix (sub (sub z.fst (1 : Int)
 (↑z.fst.length : Int)) (1 : Int) (↑(sub z.fst (1 : Int) (↑z.fst.length : Int)).length : Int)) (0 : Int)).size.le (nat_lit 281474976710656) ∧ (api_Hop.mk
 (api_Prefix.mk (0 : Int) (0 : Int)) (0 : Int) (0 : Int) (0 : Int), false) = v else ((0 : Int) ≤ (0 : Int) ∧ (0 : Int) < (↑(sub (sub z.fst (1 : Int)
 (↑z.fst.length : Int)) (1 : Int) (↑(sub z.fst (1 : Int) (↑z.fst.length : Int)).length : Int)).length : Int)) ∧ ((0 : Int) ≤ (1 : Int) ∧ (1 : Int) ≤ (↑(sub
 (sub z.fst (1 : Int) (↑z.fst.length : Int)) (1 : Int) (↑(sub z.fst (1 : Int) (↑z.fst.length : Int)).length : Int)).length : Int) ∧ (↑(sub (sub z.fst (1 : Int)
 (↑z.fst.length : Int)) (1 : Int) (↑(sub z.fst (1 : Int) (↑z.fst.length : Int)).length : Int)).length : Int) ≤ (↑(sub (sub z.fst (1 : Int) (↑z.fst.length :
 Int)) (1 : Int) (↑(sub z.fst (1 : Int) (↑z.fst.length : Int)).length : Int)).length : Int)) ∧ (ix (sub (sub z.fst (1 : Int) (↑z.fst.length : Int)) (1 : Int)
 (↑(sub z.fst (1 : Int) (↑z.fst.length : Int)).length : Int)) (0 : Int)).size.le (nat_lit 281474976710656) ∧ bif decide ((↑(sub (sub (sub z.fst (1 : Int)
 (↑z.fst.length : Int)) (1 : Int) (↑(sub z.fst (1 : Int) (↑z.fst.length : Int)).length : Int)) (1 : Int) (↑(sub (sub z.fst (1 : Int) (↑z.fst.length : Int)) (1
 : Int) (↑(sub z.fst (1 : Int) (↑z.fst.length : Int)).length : Int)).length : Int)).length : Int) = (0 : Int)) then Nat.le (nat_lit 0) (nat_lit
 281474976710656) ∧ (api_Hop.mk (api_Prefix.mk (0 : Int) (0 : Int)) (0 : Int) (0 : Int) (0 : Int), false) = v else ((0 : Int) ≤ (0 : Int) ∧ (0 : Int) < (↑(sub
 (sub (sub z.fst (1 : Int) (↑z.fst.length : Int)) (1 : Int) (↑(sub z.fst (1 : Int) (↑z.fst.length : Int)).length : Int)) (1 : Int) (↑(sub (sub z.fst (1 : Int)
 (↑z.fst.length : Int)) (1 : Int) (↑(sub z.fst (1 : Int) (↑z.fst.length : Int)).length : Int)).length : Int)).length : Int)) ∧ ((0 : Int) ≤ (1 : Int) ∧ (1 :
 Int) ≤ (↑(sub (sub (sub z.fst (1 : Int) (↑z.fst.length : Int)) (1 : Int) (↑(sub z.fst (1 : Int) (↑z.fst.length : Int)).length : Int)) (1 : Int) (↑(sub (sub
 z.fst (1 : Int) (↑z.fst.length : Int)) (1 : Int) (↑(sub z.fst (1 : Int) (↑z.fst.length : Int)).length : Int)).length : Int)).length : Int) ∧ (↑(sub (sub (sub
 z.fst (1 : Int) (↑z.fst.length : Int)) (1 : Int) (↑(sub z.fst (1 : Int) (↑z.fst.length : Int)).length : Int)) (1 : Int) (↑(sub (sub z.fst (1 : Int)
 (↑z.fst.length : Int)) (1 : Int) (↑(sub z.fst (1 : Int) (↑z.fst.length : Int)).length : Int)).length : Int)).length : Int) ≤ (↑(sub (sub (sub z.fst (1 : Int)
 (↑z.fst.length : Int)) (1 : Int) (↑(sub z.fst (1 : Int) (↑z.fst.length : Int)).length : Int)) (1 : Int) (↑(sub (sub z.fst (1 : Int) (↑z.fst.length : Int)) (1
 : Int) (↑(sub z.fst (1 : Int) (↑z.fst.length : Int)).length : Int)).length : Int)).length : Int)) ∧ (ix (sub (sub (sub z.fst (1 : Int) (↑z.fst.length : Int))
 (1 : Int) (↑(sub z.fst (1 : Int) (↑z.fst.length : Int)).length : Int)) (1 : Int) (↑(sub (sub z.fst (1 : Int) (↑z.fst.length : Int)) (1 : Int) (↑(sub z.fst (1
 : Int) (↑z.fst.length : Int)).length : Int)).length : Int)) (0 : Int)).size.le (nat_lit 281474976710656) ∧ (api_Hop.mk (api_Prefix.mk (0 : Int) (0 : Int)) (0
 : Int) (0 : Int) (0 : Int), false) = v else ((0 : Int) ≤ (0 : Int) ∧ (0 : Int) < (↑(sub z.fst (1 : Int) (↑z.fst.length : Int)).length : Int)) ∧ ((0 : Int) ≤
 (1 : Int) ∧ (1 : Int) ≤ (↑(sub z.fst (1 : Int) (↑z.fst.length : Int)).length : Int) ∧ (↑(sub z.fst (1 : Int) (↑z.fst.length : Int)).length : Int) ≤ (↑(sub
 z.fst (1 : Int) (↑z.fst.length : Int)).length : Int)) ∧ (ix (sub z.fst (1 : Int) (↑z.fst.length : Int)) (0 : Int)).size.le (nat_lit 281474976710656) ∧ bif
 decide ((↑(sub (sub z.fst (1 : Int) (↑z.fst.length : Int)) (1 : Int) (↑(sub z.fst (1 : Int) (↑z.fst.length : Int)).length : Int)).length : Int) = (0 : Int))
 then (nat_lit 0 ≤ nat_lit 281474976710656 ∧ (10 : Int) = (10 : Int) ∧ ((32 : Int) = (32 : Int) ∨ (32 : Int) = (64 : Int))) ∧ bif decide ((↑(sub (sub z.fst (1
 : Int) (↑z.fst.length : Int)) (1 : Int) (↑(sub z.fst (1 : Int) (↑z.fst.length : Int)).length : Int)).length : Int) = (0 : Int)) then Nat.le (nat_lit 0)
 (nat_lit 281474976710656) ∧ bif decide ((↑(sub (sub z.fst (1 : Int) (↑z.fst.length : Int)) (1 : Int) (↑(sub z.fst (1 : Int) (↑z.fst.length : Int)).length :
 Int)).length : Int) = (0 : Int)) then Nat.le (nat_lit 0) (nat_lit 281474976710656) ∧ (api_Hop.mk (api_Prefix.mk (0 : Int) (0 : Int)) (0 : Int) (0 : Int) (0 :
 Int), false) = v else ((0 : Int) ≤ (0 : Int) ∧ (0 : Int) < (↑(sub (sub z.fst (1 : Int) (↑z.fst.length : Int)) (1 : Int) (↑(sub z.fst (1 : Int) (↑z.fst.length
 : Int)).length : Int)).length : Int)) ∧ ((0 : Int) ≤ (1 : Int) ∧ (1 : Int) ≤ (↑(sub (sub z.fst (1 : Int) (↑z.fst.length : Int)) (1 : Int) (↑(sub z.fst (1 :
 Int) (↑z.fst.length : Int)).length : Int)).length : Int) ∧ (↑(sub (sub z.fst (1 : Int) (↑z.fst.length : Int)) (1 : Int) (↑(sub z.fst (1 : Int) (↑z.fst.length
 : Int)).length : Int)).length : Int) ≤ (↑(sub (sub z.fst (1 : Int) (↑z.fst.length : Int)) (1 : Int) (↑(sub z.fst (1 : Int) (↑z.fst.length : Int)).length :
 Int)).length : Int)) ∧ (ix (sub (sub z.fst (1 : Int) (↑z.fst.length : Int)) (1 : Int) (↑(sub z.fst (1 : Int) (↑z.fst.length : Int)).length : Int)) (0 :
 Int)).size.le (nat_lit 281474976710656) ∧ (api_Hop.mk (api_Prefix.mk (0 : Int) (0 : Int)) (0 : Int) (0 : Int) (0 : Int), false) = v else ((0 : Int) ≤ (0 :
 Int) ∧ (0 : Int) < (↑(sub (sub z.fst (1 : Int) (↑z.fst.length : Int)) (1 : Int) (↑(sub z.fst (1 : Int) (↑z.fst.length : Int)).length : Int)).length : Int)) ∧
 ((0 : Int) ≤ (1 : Int) ∧ (1 : Int) ≤ (↑(sub (sub z.fst (1 : Int) (↑z.fst.length : Int)) (1 : Int) (↑(sub z.fst (1 : Int) (↑z.fst.length : Int)).length :
 Int)).length : Int) ∧ (↑(sub (sub z.fst (1 : Int) (↑z.fst.length : Int)) (1 : Int) (↑(sub z.fst (1 : Int) (↑z.fst.length : Int)).length : Int)).length : Int)
 ≤ (↑(sub (sub z.fst (1 : Int) (↑z.fst.length : Int)) (1 : Int) (↑(sub z.fst (1 : Int) (↑z.fst.length : Int)).length : Int)).length : Int)) ∧ (ix (sub (sub
 z.fst (1 : Int) (↑z.fst.length : Int)) (1 : Int) (↑(sub z.fst (1 : Int) (↑z.fst.length : Int)).length : Int)) (0 : Int)).size.le (nat_lit 281474976710656) ∧
 bif decide ((↑(sub (sub (sub z.fst (1 : Int) (↑z.fst.length : Int)) (1 : Int) (↑(sub z.fst (1 : Int) (↑z.fst.length : Int)).length : Int)) (1 : Int) (↑(sub
 (sub z.fst (1 : Int) (↑z.fst.length : Int)) (1 : Int) (↑(sub z.fst (1 : Int) (↑z.fst.length : Int)).length : Int)).length : Int)).length : Int) = (0 : Int))
 then Nat.le (nat_lit 0) (nat_lit 281474976710656) ∧ (api_Hop.mk (api_Prefix.mk (0 : Int) (0 : Int)) (0 : Int) (0 : Int) (0 : Int), false) = v else ((0 : Int)
 ≤ (0 : Int) ∧ (0 : Int) < (↑(sub (sub (sub z.fst (1 : Int) (↑z.fst.length : Int)) (1 : Int) (↑(sub z.fst (1 : Int) (↑z.fst.length : Int)).length : Int)) (1 :
 Int) (↑(sub (sub z.fst (1 : Int) (↑z.fst.length : Int)) (1 : Int) (↑(sub z.fst (1 : Int) (↑z.fst.length : Int)).length : Int)).length : Int)).length : Int)) ∧
 ((0 : Int) ≤ (1 : Int) ∧ (1 : Int) ≤ (↑(sub (sub (sub z.fst (1 : Int) (↑z.fst.length : Int)) (1 : Int) (↑(sub z.fst (1 : Int) (↑z.fst.length : Int)).length :
 Int)) (1 : Int) (↑(sub (sub z.fst (1 : Int) (↑z.fst.length : Int)) (1 : Int) (↑(sub z.fst (1 : Int) (↑z.fst.length : Int)).length : Int)).length :
 Int)).length : Int) ∧ (↑(sub (sub (sub z.fst (1 : Int) (↑z.fst.length : Int)) (1 : Int) (↑(sub z.fst (1 : Int) (↑z.fst.length : Int)).length : Int)) (1 : Int)
 (↑(sub (sub z.fst (1 : Int) (↑z.fst.length : Int)) (1 : Int) (↑(sub z.fst (1 : Int) (↑z.fst.length : Int)).length : Int)).length : Int)).length : Int) ≤
 (↑(sub (sub (sub z.fst (1 : Int) (↑z.fst.length : Int)) (1 : Int) (↑(sub z.fst (1 : Int) (↑z.fst.length : Int)).length : Int)) (1 : Int) (↑(sub (sub z.fst (1
 : Int) (↑z.fst.length : Int)) (1 : Int) (↑(sub z.fst (1 : Int) (↑z.fst.length : Int)).length : Int)).length : Int)).length : Int)) ∧ (ix (sub (sub (sub z.fst
 (1 : Int) (↑z.fst.length : Int)) (1 : Int) (↑(sub z.fst (1 : Int) (↑z.fst.length : Int)).length : Int)) (1 : Int) (↑(sub (sub z.fst (1 : Int) (↑z.fst.length :
 Int)) (1 : Int) (↑(sub z.fst (1 : Int) (↑z.fst.length : Int)).length : Int)).length : Int)) (0 : Int)).size.le (nat_lit 281474976710656) ∧ (api_Hop.mk
 (api_Prefix.mk (0 : Int) (0 : Int)) (0 : Int) (0 : Int) (0 : Int), false) = v else ((0 : Int) ≤ (0 : Int) ∧ (0 : Int) < (↑(sub (sub z.fst (1 : Int)
 (↑z.fst.length : Int)) (1 : Int) (↑(sub z.fst (1 : Int) (↑z.fst.length : Int)).length : Int)).length : Int)) ∧ ((0 : Int) ≤ (1 : Int) ∧ (1 : Int) ≤ (↑(sub
 (sub z.fst (1 : Int) (↑z.fst.length : Int)) (1 : Int) (↑(sub z.fst (1 : Int) (↑z.fst.length : Int)).length : Int)).length : Int) ∧ (↑(sub (sub z.fst (1 : Int)
 (↑z.fst.length : Int)) (1 : Int) (↑(sub z.fst (1 : Int) (↑z.fst.length : Int)).length : Int)).length : Int) ≤ (↑(sub (sub z.fst (1 : Int) (↑z.fst.length :
 Int)) (1 : Int) (↑(sub z.fst (1 : Int) (↑z.fst.length : Int)).length : Int)).length : Int)) ∧ ((ix (sub (sub z.fst (1 : Int) (↑z.fst.length : Int)) (1 : Int)
 (↑(sub z.fst (1 : Int) (↑z.fst.length : Int)).length : Int)) (0 : Int)).size ≤ nat_lit 281474976710656 ∧ (10 : Int) = (10 : Int) ∧ ((32 : Int) = (32 : Int) ∨
 (32 : Int) = (64 : Int))) ∧ bif decide ((↑(sub (sub (sub z.fst (1 : Int) (↑z.fst.length : Int)) (1 : Int) (↑(sub z.fst (1 : Int) (↑z.fst.length : Int)).length
 : Int)) (1 : Int) (↑(sub (sub z.fst (1 : Int) (↑z.fst.length : Int)) (1 : Int) (↑(sub z.fst (1 : Int) (↑z.fst.length : Int)).length : Int)).length :
 Int)).length : Int) = (0 : Int)) then Nat.le (nat_lit 0) (nat_lit 281474976710656) ∧ bif decide ((↑(sub (sub (sub z.fst (1 : Int) (↑z.fst.length : Int)) (1 :
 Int) (↑(sub z.fst (1 : Int) (↑z.fst.length : Int)).length : Int)) (1 : Int) (↑(sub (sub z.fst (1 : Int) (↑z.fst.length : Int)) (1 : Int) (↑(sub z.fst (1 :
 Int) (↑z.fst.length : Int)).length : Int)).length : Int)).length : Int) = (0 : Int)) then Nat.le (nat_lit 0) (nat_lit 281474976710656) ∧ (api_Hop.mk
 (api_Prefix.mk (0 : Int) (0 : Int)) (0 : Int) (0 : Int) (0 : Int), false) = v else ((0 : Int) ≤ (0 : Int) ∧ (0 : Int) < (↑(sub (sub (sub z.fst (1 : Int)
 (↑z.fst.length : Int)) (1 : Int) (↑(sub z.fst (1 : Int) (↑z.fst.length : Int)).length : Int)) (1 : Int) (↑(sub (sub z.fst (1 : Int) (↑z.fst.length : Int)) (1
 : Int) (↑(sub z.fst (1 : Int) (↑z.fst.length : Int)).length : Int)).length : Int)).length : Int)) ∧ ((0 : Int) ≤ (1 : Int) ∧ (1 : Int) ≤ (↑(sub (sub (sub
 z.fst (1 : Int) (↑z.fst.length : Int)) (1 : Int) (↑(sub z.fst (1 : Int) (↑z.fst.length : Int)).length : Int)) (1 : Int) (↑(sub (sub z.fst (1 : Int)
 (↑z.fst.length : Int)) (1 : Int) (↑(sub z.fst (1 : Int) (↑z.fst.length : Int)).length : Int)).length : Int)).length : Int) ∧ (↑(sub (sub (sub z.fst (1 : Int)
 (↑z.fst.length : Int)) (1 : Int) (↑(sub z.fst (1 : Int) (↑z.fst.length : Int)).length : Int)) (1 : Int) (↑(sub (sub z.fst (1 : Int) (↑z.fst.length : Int)) (1
 : Int) (↑(sub z.fst (1 : Int) (↑z.fst.length : Int)).length : Int)).length : Int)).length : Int) ≤ (↑(sub (sub (sub z.fst (1 : Int) (↑z.fst.length : Int)) (1
 : Int) (↑(sub z.fst (1 : Int) (↑z.fst.length : Int)).length : Int)) (1 : Int) (↑(sub (sub z.fst (1 : Int) (↑z.fst.length : Int)) (1 : Int) (↑(sub z.fst (1 :
 Int) (↑z.fst.length : Int)).length : Int)).length : Int)).length : Int)) ∧ (ix (sub (sub (sub z.fst (1 : Int) (↑z.fst.length : Int)) (1 : Int) (↑(sub z.fst (1
 : Int) (↑z.fst.length : Int)).length : Int)) (1 : Int) (↑(sub (sub z.fst (1 : Int) (↑z.fst.length : Int)) (1 : Int) (↑(sub z.fst (1 : Int) (↑z.fst.length :
 Int)).length : Int)).length : Int)) (0 : Int)).size.le (nat_lit 281474976710656) ∧ (api_Hop.mk (api_Prefix.mk (0 : Int) (0 : Int)) (0 : Int) (0 : Int) (0 :
 Int), false) = v else ((0 : Int) ≤ (0 : Int) ∧ (0 : Int) < (↑(sub (sub (sub z.fst (1 : Int) (↑z.fst.length : Int)) (1 : Int) (↑(sub z.fst (1 : Int)
 (↑z.fst.length : Int)).length : Int)) (1 : Int) (↑(sub (sub z.fst (1 : Int) (↑z.fst.length : Int)) (1 : Int) (↑(sub z.fst (1 : Int) (↑z.fst.length :
 Int)).length : Int)).length : Int)).length : Int)) ∧ ((0 : Int) ≤ (1 : Int) ∧ (1 : Int) ≤ (↑(sub (sub (sub z.fst (1 : Int) (↑z.fst.length : Int)) (1 : Int)
 (↑(sub z.fst (1 : Int) (↑z.fst.length : Int)).length : Int)) (1 : Int) (↑(sub (sub z.fst (1 : Int) (↑z.fst.length : Int)) (1 : Int) (↑(sub z.fst (1 : Int)
 (↑z.fst.length : Int)).length : Int)).length : Int)).length : Int) ∧ (↑(sub (sub (sub z.fst (1 : Int) (↑z.fst.length : Int)) (1 : Int) (↑(sub z.fst (1 : Int)
 (↑z.fst.length : Int)).length : Int)) (1 : Int) (↑(sub (sub z.fst (1 : Int) (↑z.fst.length : Int)) (1 : Int) (↑(sub z.fst (1 : Int) (↑z.fst.length :
 Int)).length : Int)).length : Int)).length : Int) ≤ (↑(sub (sub (sub z.fst (1 : Int) (↑z.fst.length : Int)) (1 : Int) (↑(sub z.fst (1 : Int) (↑z.fst.length :
 Int)).length : Int)) (1 : Int) (↑(sub (sub z.fst (1 : Int) (↑z.fst.length : Int)) (1 : Int) (↑(sub z.fst (1 : Int) (↑z.fst.length : Int)).length :
 Int)).length : Int)).length : Int)) ∧ (ix (sub (sub (sub z.fst (1 : Int) (↑z.fst.length : Int)) (1 : Int) (↑(sub z.fst (1 : Int) (↑z.fst.length : Int)).length
 : Int)) (1 : Int) (↑(sub (sub z.fst (1 : Int) (↑z.fst.length : Int)) (1 : Int) (↑(sub z.fst (1 : Int) (↑z.fst.length : Int)).length : Int)).length : Int)) (0
 : Int)).size.le (nat_lit 281474976710656) ∧ bif decide ((↑(sub (sub (sub (sub z.fst (1 : Int) (↑z.fst.length : Int)) (1 : Int) (↑(sub z.fst (1 : Int)
 (↑z.fst.length : Int)).length : Int)) (1 : Int) (↑(sub (sub z.fst (1 : Int) (↑z.fst.length : Int)) (1 : Int) (↑(sub z.fst (1 : Int) (↑z.fst.length :
 Int)).length : Int)).length : Int)) (1 : Int) (↑(sub (sub (sub z.fst (1 : Int) (↑z.fst.length : Int)) (1 : Int) (↑(sub z.fst (1 : Int) (↑z.fst.length :
 Int)).length : Int)) (1 : Int) (↑(sub (sub z.fst (1 : Int) (↑z.fst.length : Int)) (1 : Int) (↑(sub z.fst (1 : Int) (↑z.fst.length : Int)).length :
 Int)).length : Int)).length : Int)).length : Int) = (0 : Int)) then Nat.le (nat_lit 0) (nat_lit 281474976710656) ∧ (api_Hop.mk (api_Prefix.mk (0 : Int) (0 :
 Int)) (0 : Int) (0 : Int) (0 : Int), false) = v else ((0 : Int) ≤ (0 : Int) ∧ (0 : Int) < (↑(sub (sub (sub (sub z.fst (1 : Int) (↑z.fst.length : Int)) (1 :
 Int) (↑(sub z.fst (1 : Int) (↑z.fst.length : Int)).length : Int)) (1 : Int) (↑(sub (sub z.fst (1 : Int) (↑z.fst.length : Int)) (1 : Int) (↑(sub z.fst (1 :
 Int) (↑z.fst.length : Int)).length : Int)).length : Int)) (1 : Int) (↑(sub (sub (sub z.fst (1 : Int) (↑z.fst.length : Int)) (1 : Int) (↑(sub z.fst (1 : Int)
 (↑z.fst.length : Int)).length : Int)) (1 : Int) (↑(sub (sub z.fst (1 : Int) (↑z.fst.length : Int)) (1 : Int) (↑(sub z.fst (1 : Int) (↑z.fst.length :
 Int)).length : Int)).length : Int)).length : Int)).length : Int)) ∧ ((0 : Int) ≤ (1 : Int) ∧ (1 : Int) ≤ (↑(sub (sub (sub (sub z.fst (1 : Int) (↑z.fst.length
 : Int)) (1 : Int) (↑(sub z.fst (1 : Int) (↑z.fst.length : Int)).length : Int)) (1 : Int) (↑(sub (sub z.fst (1 : Int) (↑z.fst.length : Int)) (1 : Int) (↑(sub
 z.fst (1 : Int) (↑z.fst.length : Int)).length : Int)).length : Int)) (1 : Int) (↑(sub (sub (sub z.fst (1 : Int) (↑z.fst.length : Int)) (1 : Int) (↑(sub z.fst
 (1 : Int) (↑z.fst.length : Int)).length : Int)) (1 : Int) (↑(sub (sub z.fst (1 : Int) (↑z.fst.length : Int)) (1 : Int) (↑(sub z.fst (1 : Int) (↑z.fst.length :
 Int)).length : Int)).length : Int)).length : Int)).length : Int) ∧ (↑(sub (sub (sub (sub z.fst (1 : Int) (↑z.fst.length : Int)) (1 : Int) (↑(sub z.fst (1 :
 Int) (↑z.fst.length : Int)).length : Int)) (1 : Int) (↑(sub (sub z.fst (1 : Int) (↑z.fst.length : Int)) (1 : Int) (↑(sub z.fst (1 : Int) (↑z.fst.length :
 Int)).length : Int)).length : Int)) (1 : Int) (↑(sub (sub (sub z.fst (1 : Int) (↑z.fst.length : Int)) (1 : Int) (↑(sub z.fst (1 : Int) (↑z.fst.length :
 Int)).length : Int)) (1 : Int) (↑(sub (sub z.fst (1 : Int) (↑z.fst.length : Int)) (1 : Int) (↑(sub z.fst (1 : Int) (↑z.fst.length : Int)).length :
 Int)).length : Int)).length : Int)).length : Int) ≤ (↑(sub (sub (sub (sub z.fst (1 : Int) (↑z.fst.length : Int)) (1 : Int) (↑(sub z.fst (1 : Int)
 (↑z.fst.length : Int)).length : Int)) (1 : Int) (↑(sub (sub z.fst (1 : Int) (↑z.fst.length : Int)) (1 : Int) (↑(sub z.fst (1 : Int) (↑z.fst.length :
 Int)).length : Int)).length : Int)) (1 : Int) (↑(sub (sub (sub z.fst (1 : Int) (↑z.fst.length : Int)) (1 : Int) (↑(sub z.fst (1 : Int) (↑z.fst.length :
 Int)).length : Int)) (1 : Int) (↑(sub (sub z.fst (1 : Int) (↑z.fst.length : Int)) (1 : Int) (↑(sub z.fst (1 : Int) (↑z.fst.length : Int)).length :
 Int)).length : Int)).length : Int)).length : Int)) ∧ (ix (sub (sub (sub (sub z.fst (1 : Int) (↑z.fst.length : Int)) (1 : Int) (↑(sub z.fst (1 : Int)
 (↑z.fst.length : Int)).length : Int)) (1 : Int) (↑(sub (sub z.fst (1 : Int) (↑z.fst.length : Int)) (1 : Int) (↑(sub z.fst (1 : Int) (↑z.fst.length :
 Int)).length : Int)).length : Int)) (1 : Int) (↑(sub (sub (sub z.fst (1 : Int) (↑z.fst.length : Int)) (1 : Int) (↑(sub z.fst (1 : Int) (↑z.fst.length :
 Int)).length : Int)) (1 : Int) (↑(sub (sub z.fst (1 : Int) (↑z.fst.length : Int)) (1 : Int) (↑(sub z.fst (1 : Int) (↑z.fst.length : Int)).length :
 Int)).length : Int)).length : Int)) (0 : Int)).size.le (nat_lit 281474976710656) ∧ bif !z.snd || !decide ((↑z.fst.length : Int) = (5 : Int)) || (S357 (ix
 z.fst (0 : Int)) (10 : Int) (32 : Int)).snd || (S337 (ix (sub z.fst (1 : Int) (↑z.fst.length : Int)) (0 : Int))).snd || (S357 (ix (sub (sub z.fst (1 : Int)
 (↑z.fst.length : Int)) (1 : Int) (↑(sub z.fst (1 : Int) (↑z.fst.length : Int)).length : Int)) (0 : Int)) (10 : Int) (32 : Int)).snd || (S337 (ix (sub (sub
 (sub z.fst (1 : Int) (↑z.fst.length : Int)) (1 : Int) (↑(sub z.fst (1 : Int) (↑z.fst.length : Int)).length : Int)) (1 : Int) (↑(sub (sub z.fst (1 : Int)
 (↑z.fst.length : Int)) (1 : Int) (↑(sub z.fst (1 : Int) (↑z.fst.length : Int)).length : Int)).length : Int)) (0 : Int))).snd || (S337 (ix (sub (sub (sub (sub
 z.fst (1 : Int) (↑z.fst.length : Int)) (1 : Int) (↑(sub z.fst (1 : Int) (↑z.fst.length : Int)).length : Int)) (1 : Int) (↑(sub (sub z.fst (1 : Int)
 (↑z.fst.length : Int)) (1 : Int) (↑(sub z.fst (1 : Int) (↑z.fst.length : Int)).length : Int)).length : Int)) (1 : Int) (↑(sub (sub (sub z.fst (1 : Int)
 (↑z.fst.length : Int)) (1 : Int) (↑(sub z.fst (1 : Int) (↑z.fst.length : Int)).length : Int)) (1 : Int) (↑(sub (sub z.fst (1 : Int) (↑z.fst.length : Int)) (1
 : Int) (↑(sub z.fst (1 : Int) (↑z.fst.length : Int)).length : Int)).length : Int)).length : Int)) (0 : Int))).snd then (api_Hop.mk (api_Prefix.mk (0 : Int) (0
 : Int)) (0 : Int) (0 : Int) (0 : Int), false) = v else (((0 : Int) ≤ IntKind.u32.wrap (S357 (ix z.fst (0 : Int)) (10 : Int) (32 : Int)).fst ∧ IntKind.u32.wrap
 (S357 (ix z.fst (0 : Int)) (10 : Int) (32 : Int)).fst ≤ (4294967295 : Int)) ∧ ((-9223372036854775808 : Int) ≤ (S337 (ix (sub z.fst (1 : Int) (↑z.fst.length :
 Int)) (0 : Int))).fst ∧ (S337 (ix (sub z.fst (1 : Int) (↑z.fst.length : Int)) (0 : Int))).fst ≤ (9223372036854775807 : Int)) ∧ ((0 : Int) ≤ IntKind.u32.wrap
 (S357 (ix (sub (sub z.fst (1 : Int) (↑z.fst.length : Int)) (1 : Int) (↑(sub z.fst (1 : Int) (↑z.fst.length : Int)).length : Int)) (0 : Int)) (10 : Int) (32 :
 Int)).fst ∧ IntKind.u32.wrap (S357 (ix (sub (sub z.fst (1 : Int) (↑z.fst.length : Int)) (1 : Int) (↑(sub z.fst (1 : Int) (↑z.fst.length : Int)).length : Int))
 (0 : Int)) (10 : Int) (32 : Int)).fst ≤ (4294967295 : Int)) ∧ ((-9223372036854775808 : Int) ≤ (S337 (ix (sub (sub (sub z.fst (1 : Int) (↑z.fst.length : Int))
 (1 : Int) (↑(sub z.fst (1 : Int) (↑z.fst.length : Int)).length : Int)) (1 : Int) (↑(sub (sub z.fst (1 : Int) (↑z.fst.length : Int)) (1 : Int) (↑(sub z.fst (1
 : Int) (↑z.fst.length : Int)).length : Int)).length : Int)) (0 : Int))).fst ∧ (S337 (ix (sub (sub (sub z.fst (1 : Int) (↑z.fst.length : Int)) (1 : Int) (↑(sub
 z.fst (1 : Int) (↑z.fst.length : Int)).length : Int)) (1 : Int) (↑(sub (sub z.fst (1 : Int) (↑z.fst.length : Int)) (1 : Int) (↑(sub z.fst (1 : Int)
 (↑z.fst.length : Int)).length : Int)).length : Int)) (0 : Int))).fst ≤ (9223372036854775807 : Int)) ∧ (-9223372036854775808 : Int) ≤ (S337 (ix (sub (sub (sub
 (sub z.fst (1 : Int) (↑z.fst.length : Int)) (1 : Int) (↑(sub z.fst (1 : Int) (↑z.fst.length : Int)).length : Int)) (1 : Int) (↑(sub (sub z.fst (1 : Int)
 (↑z.fst.length : Int)) (1 : Int) (↑(sub z.fst (1 : Int) (↑z.fst.length : Int)).length : Int)).length : Int)) (1 : Int) (↑(sub (sub (sub z.fst (1 : Int)
 (↑z.fst.length : Int)) (1 : Int) (↑(sub z.fst (1 : Int) (↑z.fst.length : Int)).length : Int)) (1 : Int) (↑(sub (sub z.fst (1 : Int) (↑z.fst.length : Int)) (1
 : Int) (↑(sub z.fst (1 : Int) (↑z.fst.length : Int)).length : Int)).length : Int)).length : Int)) (0 : Int))).fst ∧ (S337 (ix (sub (sub (sub (sub z.fst (1 :
 Int) (↑z.fst.length : Int)) (1 : Int) (↑(sub z.fst (1 : Int) (↑z.fst.length : Int)).length : Int)) (1 : Int) (↑(sub (sub z.fst (1 : Int) (↑z.fst.length :
 Int)) (1 : Int) (↑(sub z.fst (1 : Int) (↑z.fst.length : Int)).length : Int)).length : Int)) (1 : Int) (↑(sub (sub (sub z.fst (1 : Int) (↑z.fst.length : Int))
 (1 : Int) (↑(sub z.fst (1 : Int) (↑z.fst.length : Int)).length : Int)) (1 : Int) (↑(sub (sub z.fst (1 : Int) (↑z.fst.length : Int)) (1 : Int) (↑(sub z.fst (1
 : Int) (↑z.fst.length : Int)).length : Int)).length : Int)).length : Int)) (0 : Int))).fst ≤ (9223372036854775807 : Int)) ∧ bif !(S319 (api_Hop.mk
 (api_Prefix.mk (IntKind.u32.wrap (S357 (ix z.fst (0 : Int)) (10 : Int) (32 : Int)).fst) (S337 (ix (sub z.fst (1 : Int) (↑z.fst.length : Int)) (0 : Int))).fst)
 (IntKind.u32.wrap (S357 (ix (sub (sub z.fst (1 : Int) (↑z.fst.length : Int)) (1 : Int) (↑(sub z.fst (1 : Int) (↑z.fst.length : Int)).length : Int)) (0 : Int))
 (10 : Int) (32 : Int)).fst) (S337 (ix (sub (sub (sub z.fst (1 : Int) (↑z.fst.length : Int)) (1 : Int) (↑(sub z.fst (1 : Int) (↑z.fst.length : Int)).length :
 Int)) (1 : Int) (↑(sub (sub z.fst (1 : Int) (↑z.fst.length : Int)) (1 : Int) (↑(sub z.fst (1 : Int) (↑z.fst.length : Int)).length : Int)).length : Int)) (0 :
 Int))).fst (S337 (ix (sub (sub (sub (sub z.fst (1 : Int) (↑z.fst.length : Int)) (1 : Int) (↑(sub z.fst (1 : Int) (↑z.fst.length : Int)).length : Int)) (1 :
 Int) (↑(sub (sub z.fst (1 : Int) (↑z.fst.length : Int)) (1 : Int) (↑(sub z.fst (1 : Int) (↑z.fst.length : Int)).length : Int)).length : Int)) (1 : Int) (↑(sub
 (sub (sub z.fst (1 : Int) (↑z.fst.length : Int)) (1 : Int) (↑(sub z.fst (1 : Int) (↑z.fst.length : Int)).length : Int)) (1 : Int) (↑(sub (sub z.fst (1 : Int)
 (↑z.fst.length : Int)) (1 : Int) (↑(sub z.fst (1 : Int) (↑z.fst.length : Int)).length : Int)).length : Int)).length : Int)) (0 : Int))).fst)).toList ==
 x0.toList then (api_Hop.mk (api_Prefix.mk (0 : Int) (0 : Int)) (0 : Int) (0 : Int) (0 : Int), false) = v else (api_Hop.mk (api_Prefix.mk (IntKind.u32.wrap
 (S357 (ix z.fst (0 : Int)) (10 : Int) (32 : Int)).fst) (S337 (ix (sub z.fst (1 : Int) (↑z.fst.length : Int)) (0 : Int))).fst) (IntKind.u32.wrap (S357 (ix (sub
 (sub z.fst (1 : Int) (↑z.fst.length : Int)) (1 : Int) (↑(sub z.fst (1 : Int) (↑z.fst.length : Int)).length : Int)) (0 : Int)) (10 : Int) (32 : Int)).fst)
 (S337 (ix (sub (sub (sub z.fst (1 : Int) (↑z.fst.length : Int)) (1 : Int) (↑(sub z.fst (1 : Int) (↑z.fst.length : Int)).length : Int)) (1 : Int) (↑(sub (sub
 z.fst (1 : Int) (↑z.fst.length : Int)) (1 : Int) (↑(sub z.fst (1 : Int) (↑z.fst.length : Int)).length : Int)).length : Int)) (0 : Int))).fst (S337 (ix (sub
 (sub (sub (sub z.fst (1 : Int) (↑z.fst.length : Int)) (1 : Int) (↑(sub z.fst (1 : Int) (↑z.fst.length : Int)).length : Int)) (1 : Int) (↑(sub (sub z.fst (1 :
 Int) (↑z.fst.length : Int)) (1 : Int) (↑(sub z.fst (1 : Int) (↑z.fst.length : Int)).length : Int)).length : Int)) (1 : Int) (↑(sub (sub (sub z.fst (1 : Int)
 (↑z.fst.length : Int)) (1 : Int) (↑(sub z.fst (1 : Int) (↑z.fst.length : Int)).length : Int)) (1 : Int) (↑(sub (sub z.fst (1 : Int) (↑z.fst.length : Int)) (1
 : Int) (↑(sub z.fst (1 : Int) (↑z.fst.length : Int)).length : Int)).length : Int)).length : Int)) (0 : Int))).fst, true) = v
end Go.Rx
namespace Go.Rx
open Go.Ab Go.L21
set_option maxRecDepth 100000
set_option maxHeartbeats 20000000
set_option linter.unusedVariables false
/-- interregnum/row.ReadHop -/
noncomputable def C320 : Cfg S := { P := P7, inl := [], K := [(37, ctr P7 [9] [3, 67] (fun x0 => (some (P337 x0), S337 x0))), (57, ctr P7 [9, 3, 3] [59, 67] (fun x0 x1 x2 => (some (P357 x0 x1 x2), S357 x0 x1 x2))), (15, ctr P7 [9] [22, 4] (fun x0 => (some (P315 x0), S315 x0))), (19, ctr P7 [35] [9] (fun x0 => (some (P319 x0), S319 x0)))], ann := [] }
abbrev W320 : CT S [35, 4] [9] := (fun x0 => (some (P320 x0), S320 x0))
abbrev Ok320 : Prop := ConOk P7 20 (ctr P7 [9] [35, 4] W320) ∧ ConMon (ctr P7 [9] [35, 4] W320)
end Go.Rx
namespace Go.Rx
open Go.Ab Go.L21
set_option maxRecDepth 100000
set_option linter.unusedVariables false
theorem q320r (x0 : ByteArray) (v : HR S [35, 4]) : (Xf C320 6 (emp 0) 20 (argsA C320 [⟨9, x0⟩]) (emp 0) (fun r _ => isR C320.P [35, 4] v r) (fun _ _ => False)) = R320 (S315 x0) x0 v := by kernel_rfl
theorem r320 (a b c d e : ByteArray) (x0 : ByteArray) (v : HR S [35, 4]) : R320 ([a, b, c, d, e], true) x0 v = (x0.size.le (nat_lit 1099511627776) ∧ ((0 : Int) ≤ (0 : Int) ∧ (0 : Int) < (5 : Int)) ∧ ((0 : Int) ≤ (1 : Int) ∧ (1 : Int) ≤ (5 : Int) ∧ (5 : Int) ≤ (5 : Int)) ∧ (a.size ≤ nat_lit 281474976710656 ∧ (10 : Int) = (10 : Int) ∧ ((32 : Int) = (32 : Int) ∨ (32 : Int) = (64 : Int))) ∧ ((0 : Int) ≤ (0 : Int) ∧ (0 : Int) < (4 : Int)) ∧ ((0 : Int) ≤ (1 : Int) ∧ (1 : Int) ≤ (4 : Int) ∧ (4 : Int) ≤ (4 : Int)) ∧ b.size.le (nat_lit 281474976710656) ∧ ((0 : Int) ≤ (0 : Int) ∧ (0 : Int) < (3 : Int)) ∧ ((0 : Int) ≤ (1 : Int) ∧ (1 : Int) ≤ (3 : Int) ∧ (3 : Int) ≤ (3 : Int)) ∧ (c.size ≤ nat_lit 281474976710656 ∧ (10 : Int) = (10 : Int) ∧ ((32 : Int) = (32 : Int) ∨ (32 : Int) = (64 : Int))) ∧ ((0 : Int) ≤ (0 : Int) ∧ (0 : Int) < (2 : Int)) ∧ ((0 : Int) ≤ (1 : Int) ∧ (1 : Int) ≤ (2 : Int) ∧ (2 : Int) ≤ (2 : Int)) ∧ d.size.le (nat_lit 281474976710656) ∧ ((0 : Int) ≤ (0 : Int) ∧ (0 : Int) < (1 : Int)) ∧ ((0 : Int) ≤ (1 : Int) ∧ (1 : Int) ≤ (1 : Int) ∧ (1 : Int) ≤ (1 : Int)) ∧ e.size.le (nat_lit 281474976710656) ∧ bif !true || !decide ((5 : Int) = (5 : Int)) || (S357 a (10 : Int) (32 : Int)).snd || (S337 b).snd || (S357 c (10 : Int) (32 : Int)).snd || (S337 d).snd || (S337 e).snd then (api_Hop.mk (api_Prefix.mk (0 : Int) (0 : Int)) (0 : Int) (0 : Int) (0 : Int), false) = v else (((0 : Int) ≤ IntKind.u32.wrap (S357 a (10 : Int) (32 : Int)).fst ∧ IntKind.u32.wrap (S357 a (10 : Int) (32 : Int)).fst ≤ (4294967295 : Int)) ∧ ((-9223372036854775808 : Int) ≤ (S337 b).fst ∧ (S337 b).fst ≤ (9223372036854775807 : Int)) ∧ ((0 : Int) ≤ IntKind.u32.wrap (S357 c (10 : Int) (32 : Int)).fst ∧ IntKind.u32.wrap (S357 c (10 : Int) (32 : Int)).fst ≤ (4294967295 : Int)) ∧ ((-9223372036854775808 : Int) ≤ (S337 d).fst ∧ (S337 d).fst ≤ (9223372036854775807 : Int)) ∧ (-9223372036854775808 : Int) ≤ (S337 e).fst ∧ (S337 e).fst ≤ (9223372036854775807 : Int)) ∧ bif !(S319 (api_Hop.mk (api_Prefix.mk (IntKind.u32.wrap (S357 a (10 : Int) (32 : Int)).fst) (S337 b).fst) (IntKind.u32.wrap (S357 c (10 : Int) (32 : Int)).fst) (S337 d).fst (S337 e).fst)).toList == x0.toList then (api_Hop.mk (api_Prefix.mk (0 : Int) (0 : Int)) (0 : Int) (0 : Int) (0 : Int), false) = v else (api_Hop.mk (api_Prefix.mk (IntKind.u32.wrap (S357 a (10 : Int) (32 : Int)).fst) (S337 b).fst) (IntKind.u32.wrap (S357 c (10 : Int) (32 : Int)).fst) (S337 d).fst (S337 e).fst, true) = v) := by kernel_rfl
end Go.Rx
namespace Go.Rx
open Go.Ab Go.L21
set_option maxRecDepth 100000
set_option maxHeartbeats 20000000
set_option linter.unusedVariables false
/-- interregnum/interregnumlaw21.answers -/
noncomputable def C313 : Cfg S := { P := P7, inl := [], K := [(14, ctr P7 [22] [9] (fun x0 => (some (P314 x0), S314 x0))), (15, ctr P7 [9] [22, 4] (fun x0 => (some (P315 x0), S315 x0))), (19, ctr P7 [35] [9] (fun x0 => (some (P319 x0), S319 x0))), (20, ctr P7 [9] [35, 4] (fun x0 => (some (P320 x0), S320 x0)))], ann := [] }
abbrev W313 : CT S [4] [] := (none, S313)
abbrev Ok313 : Prop := ConOk P7 13 (ctr P7 [] [4] W313) ∧ ConMon (ctr P7 [] [4] W313)
theorem q313 (v : HR S [4]) : (Xf C313 6 (emp 0) 13 (argsA C313 []) (emp 0) (fun r _ => isR C313.P [4] v r) (fun _ _ => False)) = (Nat.le (nat_lit 6) (nat_lit
 1099511627776) ∧ (((0 : Int) ≤ (0 : Int) ∧ (0 : Int) ≤ (4294967295 : Int)) ∧ ((-9223372036854775808 : Int) ≤ (0 : Int) ∧ (0 : Int) ≤ (9223372036854775807 :
 Int)) ∧ ((0 : Int) ≤ (7 : Int) ∧ (7 : Int) ≤ (4294967295 : Int)) ∧ ((-9223372036854775808 : Int) ≤ (0 : Int) ∧ (0 : Int) ≤ (9223372036854775807 : Int)) ∧
 (-9223372036854775808 : Int) ≤ (0 : Int) ∧ (0 : Int) ≤ (9223372036854775807 : Int)) ∧ (∃ (h : api_Hop), (((0 : Int) ≤ h.fPrefix.fAddr ∧ h.fPrefix.fAddr ≤
 (4294967295 : Int)) ∧ ((-9223372036854775808 : Int) ≤ h.fPrefix.fLen ∧ h.fPrefix.fLen ≤ (9223372036854775807 : Int)) ∧ ((0 : Int) ≤ h.fNext ∧ h.fNext ≤
 (4294967295 : Int)) ∧ ((-9223372036854775808 : Int) ≤ h.fPeer ∧ h.fPeer ≤ (9223372036854775807 : Int)) ∧ (-9223372036854775808 : Int) ≤ h.fStale ∧ h.fStale ≤
 (9223372036854775807 : Int)) ∧ S319 (api_Hop.mk (api_Prefix.mk (0 : Int) (0 : Int)) (7 : Int) (0 : Int) (0 : Int)) = S319 h) ∧ (true = true → (0 : Int) ≤ (0 :
 Int) ∧ (0 : Int) < (↑(nat_lit 2) : Int)) ∧ Nat.le (nat_lit 6) (nat_lit 70368744177664) ∧ true = v) := by kernel_rfl
end Go.Rx
namespace Go.Rx
open Go.Ab Go.L21
set_option maxRecDepth 100000
set_option maxHeartbeats 20000000
set_option linter.unusedVariables false
/-- interregnum/interregnumlaw21.RowTexts -/
noncomputable def C303 : Cfg S := { P := P7, inl := [], K := [(14, ctr P7 [22] [9] (fun x0 => (some (P314 x0), S314 x0))), (15, ctr P7 [9] [22, 4] (fun x0 => (some (P315 x0), S315 x0))), (17, ctr P7 [22] [9] (fun x0 => (some (P317 x0), S317 x0))), (16, ctr P7 [9] [22, 4] (fun x0 => (some (P316 x0), S316 x0))), (18, ctr P7 [22, 22] [4] (fun x0 x1 => (some (P318 x0 x1), S318 x0 x1))), (12, ctr P7 [22] [4] (fun x0 => (some (P312 x0), S312 x0))), (13, ctr P7 [] [4] (none, S313))], ann := [] }
abbrev W303 : CT S [4] [22, 9] := (fun x0 x1 => (some (P303 x0 x1), S303 x0 x1))
abbrev Ok303 : Prop := ConOk P7 3 (ctr P7 [22, 9] [4] W303) ∧ ConMon (ctr P7 [22, 9] [4] W303)
theorem q303 (x0 : List ByteArray) (x1 : ByteArray) (v : HR S [4]) : (Xf C303 6 (emp 0) 3 (argsA C303 [⟨22, x0⟩, ⟨9, x1⟩]) (emp 0) (fun r _ => isR C303.P [4] v
 r) (fun _ _ => False)) = ((x0.length ≤ nat_lit 1152921504606846976 ∧ ∀ (x : ByteArray), List.Mem x x0 → x.size ≤ nat_lit 1152921504606846976) ∧ bif !S312 x0
 || decide ((3000 : Int) < (↑x1.size : Int)) then true = v else (textsL x0).length.le (nat_lit 70368744177664) ∧ (S314 x0).size.le (nat_lit 1099511627776) ∧
 x1.size.le (nat_lit 1099511627776) ∧ x1.size.le (nat_lit 1099511627776) ∧ (textsL x0).length.le (nat_lit 70368744177664) ∧ bif (S314 x0).toList == (S317
 x0).toList && (S315 (S314 x0)).snd then x0.length.le (nat_lit 1152921504606846976) ∧ bif S318 x0 (S315 (S314 x0)).fst && decide ((S315 x1).snd = (S316
 x1).snd) then (S315 x1).fst.length.le (nat_lit 1152921504606846976) ∧ S318 (S315 x1).fst (S316 x1).fst = v else false = v else false = v) := by kernel_rfl
end Go.Rx
/-! The law RowTexts, and what answers does. -/
namespace Go.Rx
open Go.Ab Go.L21
set_option linter.unusedVariables false
set_option maxRecDepth 100000
theorem run318 : RunC C318 6 18 [4] [22, 22] W318 [] := by
  intro (a : List ByteArray) hx (b : List ByteArray) hy hp
  have hp : a.length ≤ 1152921504606846976 := hp _ rfl
  refine of_eq (q318 a b _) (bif_of (fun hc => ?_) (fun hc => ?_))
  · have hc : ¬ a.length = b.length := by
      intro e; rw [e] at hc; simp at hc
    show false = S318 a b
    unfold S318
    rw [decide_eq_false (fun e => hc (by rw [e]))]
  · have hc : a.length = b.length := by
      have : decide ((a.length : Int) = (b.length : Int)) = true := by
        cases hd : decide ((a.length : Int) = (b.length : Int)) with
        | true => rfl
        | false => rw [hd] at hc; cases hc
      have := of_decide_eq_true this
      omega
    refine LOOP.of (fun y => ∃ k : Nat, y = (k : Int) ∧ k ≤ a.length ∧ a.take k = b.take k) (fun y => a.length - y.toNat) ⟨0, rfl, by omega, rfl⟩ ?_
    rintro _ ⟨k, rfl, hk, he⟩ J hJ
    dsimp only
    refine bif_of (fun h => ?_) (fun h => ?_)
    · have h := of_decide_eq_true h
      have hka : k < a.length := by omega
      have hkb : k < b.length := by omega
      rw [ix_get (List.getElem?_eq_getElem hka), ix_get (List.getElem?_eq_getElem hkb)]
      refine ⟨⟨by omega, h⟩, ⟨by omega, by omega⟩, bif_of (fun hn => ?_) (fun hn => ?_)⟩
      · show false = S318 a b
        unfold S318
        rw [decide_eq_false]
        intro e
        subst e
        simp at hn
      · have hab : a[k] = b[k] := by
          have hn : a[k].toList = b[k].toList := by simpa using hn
          rw [Lib.toList_data, Lib.toList_data] at hn
          exact congrArg bs hn
        have hw : IntKind.i64.wrap ((k : Int) + 1) = ((k + 1 : Nat) : Int) := by rw [wrap64 (by omega)]; omega
        rw [hw]
        refine hJ _ ⟨k + 1, rfl, by omega, ?_⟩ (by omega)
        rw [List.take_add_one, List.take_add_one, he, List.getElem?_eq_getElem hka, List.getElem?_eq_getElem hkb, hab]
    · have h := of_decide_eq_false h
      have : k = a.length := by omega
      subst this
      rw [List.take_length, hc, List.take_length] at he
      show true = S318 a b
      unfold S318
      rw [decide_eq_true he]
theorem ok318 : Ok318 := con_ok (C := C318) kok_nil mx7 (by kernel_rfl) run318
def sumS (l : List ByteArray) : Nat := (l.map (·.size)).sum
theorem sum_take {l : List ByteArray} {k : Nat} {y : ByteArray} (h : l[k]? = some y) : sumS (l.take (k + 1)) = sumS (l.take k) + y.size := by
  rw [List.take_add_one, h]; simp [sumS]
theorem sum_le (l : List ByteArray) (k : Nat) : sumS (l.take k) ≤ sumS l := by
  conv => rhs; rw [← List.take_append_drop k l]
  simp only [sumS, List.map_append, List.sum_append]; omega
theorem run312 : RunC C312 6 12 [4] [22] W312 [] := by
  intro (a : List ByteArray) hx hp
  obtain ⟨h1, h2⟩ : P312 a := hp _ rfl
  refine of_eq (q312 a _) ?_
  refine LOOP.of (fun y => ∃ k : Nat, y = (((a.length + sumS (a.take k) : Nat) : Int), (k : Int)) ∧ k ≤ a.length ∧ a.length + sumS (a.take k) ≤ 2305843009213703952) (fun y => a.length - y.2.toNat) ⟨0, rfl, by omega, by simp [sumS]; omega⟩ ?_
  rintro _ ⟨k, rfl, hk, hs⟩ J hJ
  dsimp only
  refine bif_of (fun h => ?_) (fun h => ?_)
  · rw [Bool.and_eq_true] at h
    have g1 := of_decide_eq_true h.1
    have g2 := of_decide_eq_true h.2
    have hka : k < a.length := by omega
    have hy := List.getElem?_eq_getElem hka
    have hz := h2 _ (List.getElem_mem hka)
    generalize a[k] = y at hy hz
    have ht := sum_take hy
    rw [ix_get hy, wrap64 (n := ((a.length + sumS (a.take k) : Nat) : Int) + (y.size : Int)) (by omega), wrap64 (n := (k : Int) + 1) (by omega)]
    refine ⟨⟨by omega, g1⟩, hJ _ ⟨k + 1, Prod.ext ?_ ?_, by omega, by omega⟩ ?_⟩
    · show _ = ((_ : Nat) : Int); rw [ht]; omega
    · show (k : Int) + 1 = ((k + 1 : Nat) : Int); omega
    · show a.length - ((k : Int) + 1).toNat < a.length - ((k : Nat) : Int).toNat
      omega
  · have hl := sum_le a k
    show decide _ = S312 a
    unfold S312
    show decide _ = decide (a.length + sumS a < 10000)
    by_cases g2 : ((a.length + sumS (a.take k) : Nat) : Int) < 10000
    · have : k = a.length := by
        have : decide ((k : Int) < (a.length : Int)) = false := by
          rw [decide_eq_true g2, Bool.and_true] at h; exact h
        have := of_decide_eq_false this
        omega
      subst this
      rw [List.take_length] at g2 ⊢
      rw [decide_eq_true g2, decide_eq_true (by omega)]
    · rw [decide_eq_false g2, decide_eq_false (by omega)]
theorem ok312 : Ok312 := con_ok (C := C312) kok_nil mx7 (by kernel_rfl) run312
theorem s357_of {u : Int} (h : 0 ≤ u ∧ u ≤ 4294967295) : S357 (S333 u) 10 32 = (u, false) := by
  obtain ⟨n, rfl⟩ : ∃ n : Nat, u = (n : Int) := ⟨u.toNat, by omega⟩
  unfold S357
  rw [S333, data_bs, Lib.itoa_nonneg, show (32 : Int).toNat = 32 from rfl, uint_dec 32 (by omega) n (by omega)]
  rfl
theorem s337_of {n : Int} (h : P333 n) : S337 (S333 n) = (n, false) := by
  unfold S337
  rw [S333, data_bs, atoi_itoa n h]
  rfl
theorem wrap32 {n : Int} (h : 0 ≤ n ∧ n ≤ 4294967295) : IntKind.u32.wrap n = n := by
  have : IntKind.u32.wrap n = n % 4294967296 := rfl
  rw [this]; omega
theorem size333 {n : Int} (h : P333 n) : (S333 n).size ≤ 281474976710656 := by
  have := itoa_len h
  rw [S333, size_bs]; omega
theorem run320 : RunC C320 6 20 [35, 4] [9] W320 [] := by
  intro (s : ByteArray) hx hp
  obtain ⟨h, hh, rfl⟩ : P320 s := hp _ rfl
  refine of_eq (q320r _ _) ?_
  have e : S315 (S319 h) = ([S333 h.fPrefix.fAddr, S333 h.fPrefix.fLen, S333 h.fNext, S333 h.fPeer, S333 h.fStale], true) := split_texts (hopL h)
  have hl := hop_len hh
  obtain ⟨h1, h2, h3, h4, h5⟩ := hh
  have ev : S320 (S319 h) = (h, true) := by
    unfold S320
    rw [e]
    show (api_Hop.mk ⟨(S357 (S333 h.fPrefix.fAddr) 10 32).1, (S337 (S333 h.fPrefix.fLen)).1⟩ (S357 (S333 h.fNext) 10 32).1 (S337 (S333 h.fPeer)).1 (S337 (S333 h.fStale)).1, true) = _
    rw [s357_of h1, s337_of h2, s357_of h3, s337_of h4, s337_of h5]
  rw [e]
  refine of_eq (r320 _ _ _ _ _ _ _) ?_
  rw [s357_of h1, s337_of h2, s357_of h3, s337_of h4, s337_of h5]
  simp only [wrap32 h1, wrap32 h3]
  refine ⟨?_, ⟨by decide, by decide⟩, ⟨by decide, by decide, by decide⟩, ⟨size333 (p333 h1), trivial, .inl trivial⟩, ⟨by decide, by decide⟩, ⟨by decide, by decide, by decide⟩, size333 h2, ⟨by decide, by decide⟩, ⟨by decide, by decide, by decide⟩, ⟨size333 (p333 h3), trivial, .inl trivial⟩, ⟨by decide, by decide⟩, ⟨by decide, by decide, by decide⟩, size333 h4, ⟨by decide, by decide⟩, ⟨by decide, by decide, by decide⟩, size333 h5, ?_⟩
  · show (bs _).size ≤ 1099511627776
    rw [size_bs]; omega
  · refine bif_of (fun hc => absurd hc (by decide)) (fun _ => ⟨⟨h1, h2, h3, h4, h5⟩, bif_of (fun hc => ?_) (fun _ => ev.symm)⟩)
    simp at hc
theorem ok320 : Ok320 := by
  refine con_ok (C := C320) ?_ mx7 (by kernel_rfl) run320
  exact kok_cons ok337 (kok_cons ok357 (kok_cons ok315 (kok_cons ok319 kok_nil)))
theorem run313 : RunC C313 6 13 [4] [] W313 [] := by
  intro hp
  refine of_eq (q313 _) ⟨show (6 : Nat) ≤ 1099511627776 by decide, ⟨⟨by decide, by decide⟩, ⟨by decide, by decide⟩, ⟨by decide, by decide⟩, ⟨by decide, by decide⟩, by decide, by decide⟩, ⟨_, ⟨⟨by decide, by decide⟩, ⟨by decide, by decide⟩, ⟨by decide, by decide⟩, ⟨by decide, by decide⟩, by decide, by decide⟩, rfl⟩, fun _ => ⟨by decide, by decide⟩, show (6 : Nat) ≤ 70368744177664 by decide, rfl⟩
theorem ok313 : Ok313 := by
  refine con_ok (C := C313) ?_ mx7 (by kernel_rfl) run313
  exact kok_cons ok314 (kok_cons ok315 (kok_cons ok319 (kok_cons ok320 kok_nil)))
theorem texts_few (l : List ByteArray) (h : sumS l < 10000) : (textsL l).length ≤ 22 * l.length + sumS l := by
  induction l with
  | nil => exact Nat.zero_le _
  | cons x r ih =>
    have e : sumS (x :: r) = x.size + sumS r := rfl
    have e2 : textsL (x :: r) = textL x ++ textsL r := rfl
    have := itoa_len (n := (x.size : Int)) ⟨by omega, by omega⟩
    have := ih (by omega)
    rw [e2, List.length_append, textL, List.length_append, List.length_cons, ← Lib.size_eq, List.length_cons]
    omega
theorem splitN_len (n : Nat) (l : List UInt8) {t : List (List UInt8)} (h : splitN n l = some t) : t.length ≤ n := by
  induction n generalizing l t with
  | zero => cases h; exact Nat.le_refl _
  | succ n ih =>
    rw [splitN] at h
    split at h
    · cases h; exact Nat.zero_le _
    · split at h
      · cases h
      · rename_i x r _
        cases hr : splitN n r with
        | none => rw [hr] at h; cases h
        | some u =>
          rw [hr] at h
          cases h
          have := ih r hr
          simp only [List.length_cons]; omega
theorem s315_len (x : ByteArray) : (S315 x).1.length ≤ x.size := by
  unfold S315
  cases h : splitL x.data.toList with
  | none => exact Nat.zero_le _
  | some t =>
    have := splitN_len _ _ h
    rw [← Lib.size_eq] at this
    simpa using this
theorem run303 : RunC C303 6 3 [4] [22, 9] W303 [] := by
  intro (l : List ByteArray) hx (s : ByteArray) hy hp
  have hp : P312 l := hp _ rfl
  refine of_eq (q303 l s _) ⟨hp, bif_of (fun _ => rfl) (fun hc => ?_)⟩
  have hc : S312 l = true ∧ ¬ (3000 : Int) < (s.size : Int) := by
    rw [Bool.or_eq_false_iff] at hc
    refine ⟨by simpa using hc.1, of_decide_eq_false hc.2⟩
  obtain ⟨hf, hs⟩ := hc
  have hf : l.length + sumS l < 10000 := of_decide_eq_true hf
  have ht := texts_few l (by omega)
  have e : S315 (S314 l) = (l, true) := split_texts l
  have hsz : (S314 l).size = (textsL l).length := size_bs _
  have hsl := s315_len s
  rw [e]
  refine ⟨by show _ ≤ 70368744177664; omega, by show _ ≤ 1099511627776; omega, by show _ ≤ 1099511627776; omega, by show _ ≤ 1099511627776; omega, by show _ ≤ 70368744177664; omega, bif_of (fun _ => ⟨hp.1, bif_of (fun _ => ⟨by show _ ≤ 1152921504606846976; omega, ?_⟩) (fun hn => ?_)⟩) (fun hn => ?_)⟩
  · show S318 (S315 s).1 (S315 s).1 = true
    unfold S318; exact decide_eq_true rfl
  · have : (S318 l l && decide ((S315 s).2 = (S316 s).2)) = true := by
      rw [Bool.and_eq_true]
      exact ⟨decide_eq_true rfl, decide_eq_true rfl⟩
    rw [this] at hn; cases hn
  · have : ((S314 l).toList == (S317 l).toList) = true := beq_iff_eq.2 rfl
    rw [this] at hn; cases hn
theorem ok303 : Ok303 := by
  refine con_ok (C := C303) ?_ mx7 (by kernel_rfl) run303
  exact kok_cons ok314 (kok_cons ok315 (kok_cons ok317 (kok_cons ok316 (kok_cons ok318 (kok_cons ok312 (kok_cons ok313 kok_nil))))))
end Go.Rx
namespace Go.Rx
open Go.Ab Go.L21
set_option maxRecDepth 100000
set_option maxHeartbeats 20000000
set_option linter.unusedVariables false
/-- interregnum/interregnumlaw21.RowHops -/
noncomputable def C304 : Cfg S := { P := P7, inl := [], K := [(19, ctr P7 [35] [9] (fun x0 => (some (P319 x0), S319 x0))), (21, ctr P7 [35] [9] (fun x0 => (some (P321 x0), S321 x0))), (20, ctr P7 [9] [35, 4] (fun x0 => (some (P320 x0), S320 x0))), (13, ctr P7 [] [4] (none, S313))], ann := [] }
abbrev W304 : CT S [4] [35] := (fun x0 => (some (P304 x0), S304 x0))
abbrev Ok304 : Prop := ConOk P7 4 (ctr P7 [35] [4] W304) ∧ ConMon (ctr P7 [35] [4] W304)
theorem q304 (x0 : api_Hop) (v : HR S [4]) : (Xf C304 6 (emp 0) 4 (argsA C304 [⟨35, x0⟩]) (emp 0) (fun r _ => isR C304.P [4] v r) (fun _ _ => False)) = ((((0 :
 Int) ≤ x0.fPrefix.fAddr ∧ x0.fPrefix.fAddr ≤ (4294967295 : Int)) ∧ ((-9223372036854775808 : Int) ≤ x0.fPrefix.fLen ∧ x0.fPrefix.fLen ≤ (9223372036854775807 :
 Int)) ∧ ((0 : Int) ≤ x0.fNext ∧ x0.fNext ≤ (4294967295 : Int)) ∧ ((-9223372036854775808 : Int) ≤ x0.fPeer ∧ x0.fPeer ≤ (9223372036854775807 : Int)) ∧
 (-9223372036854775808 : Int) ≤ x0.fStale ∧ x0.fStale ≤ (9223372036854775807 : Int)) ∧ (∃ (h : api_Hop), (((0 : Int) ≤ h.fPrefix.fAddr ∧ h.fPrefix.fAddr ≤
 (4294967295 : Int)) ∧ ((-9223372036854775808 : Int) ≤ h.fPrefix.fLen ∧ h.fPrefix.fLen ≤ (9223372036854775807 : Int)) ∧ ((0 : Int) ≤ h.fNext ∧ h.fNext ≤
 (4294967295 : Int)) ∧ ((-9223372036854775808 : Int) ≤ h.fPeer ∧ h.fPeer ≤ (9223372036854775807 : Int)) ∧ (-9223372036854775808 : Int) ≤ h.fStale ∧ h.fStale ≤
 (9223372036854775807 : Int)) ∧ S319 x0 = S319 h) ∧ (((0 : Int) ≤ x0.fPrefix.fAddr ∧ x0.fPrefix.fAddr ≤ (4294967295 : Int)) ∧ ((-9223372036854775808 : Int) ≤
 x0.fPrefix.fLen ∧ x0.fPrefix.fLen ≤ (9223372036854775807 : Int)) ∧ ((0 : Int) ≤ x0.fNext ∧ x0.fNext ≤ (4294967295 : Int)) ∧ ((-9223372036854775808 : Int) ≤
 x0.fPeer ∧ x0.fPeer ≤ (9223372036854775807 : Int)) ∧ (-9223372036854775808 : Int) ≤ x0.fStale ∧ x0.fStale ≤ (9223372036854775807 : Int)) ∧ ((S319 x0).toList
 == (S321 x0).toList && true && (decide (valU ((S315 (S319 x0)).fst.getD (nat_lit 0) (bs [])) = x0.fPrefix.fAddr) && (decide (valI ((S315 (S319 x0)).fst.getD
 (nat_lit 1) (bs [])) = x0.fPrefix.fLen) && true) && (decide (valU ((S315 (S319 x0)).fst.getD (nat_lit 2) (bs [])) = x0.fNext) && (decide (valI ((S315 (S319
 x0)).fst.getD (nat_lit 3) (bs [])) = x0.fPeer) && (decide (valI ((S315 (S319 x0)).fst.getD (nat_lit 4) (bs [])) = x0.fStale) && true))))) = v) := by kernel_rfl
end Go.Rx
/-! The law RowHops. -/
namespace Go.Rx
open Go.Ab Go.L21
set_option linter.unusedVariables false
set_option maxRecDepth 100000
theorem run304 : RunC C304 6 4 [4] [35] W304 [] := by
  intro (h : api_Hop) hx hp
  have hp : okHop h := hp _ rfl
  have e : S315 (S319 h) = (hopL h, true) := split_texts (hopL h)
  refine of_eq (q304 h _) ⟨hp, ⟨h, hp, rfl⟩, hp, ?_⟩
  obtain ⟨h1, h2, h3, h4, h5⟩ := hp
  rw [e]
  have a1 : valU (S333 h.fPrefix.fAddr) = h.fPrefix.fAddr := by unfold valU; rw [s357_of h1]
  have a2 : valI (S333 h.fPrefix.fLen) = h.fPrefix.fLen := by unfold valI; rw [s337_of h2]
  have a3 : valU (S333 h.fNext) = h.fNext := by unfold valU; rw [s357_of h3]
  have a4 : valI (S333 h.fPeer) = h.fPeer := by unfold valI; rw [s337_of h4]
  have a5 : valI (S333 h.fStale) = h.fStale := by unfold valI; rw [s337_of h5]
  show ((S319 h).toList == (S319 h).toList && true && (decide (valU (S333 h.fPrefix.fAddr) = h.fPrefix.fAddr) && (decide (valI (S333 h.fPrefix.fLen) = h.fPrefix.fLen) && true) && (decide (valU (S333 h.fNext) = h.fNext) && (decide (valI (S333 h.fPeer) = h.fPeer) && (decide (valI (S333 h.fStale) = h.fStale) && true))))) = true
  rw [a1, a2, a3, a4, a5]
  simp
theorem ok304 : Ok304 := by
  refine con_ok (C := C304) ?_ mx7 (by kernel_rfl) run304
  exact kok_cons ok319 (kok_cons ok321 (kok_cons ok320 (kok_cons ok313 kok_nil)))
end Go.Rx
namespace Go.Rx
open Go.Ab Go.L21
set_option maxRecDepth 100000
set_option maxHeartbeats 20000000
set_option linter.unusedVariables false
/-- interregnum/row.rules -/
noncomputable def C345 : Cfg S := { P := P7, inl := [], K := [(39, ctr P7 [31] [9] (fun x0 => (some (P339 x0), S339 x0))), (40, ctr P7 [3] [9] (fun x0 => (some (P340 x0), S340 x0)))], ann := [(45, [(9, .join [(.sl 3, .own 9)]), (8, .join [(.sl 6, .str)]), (3, .loop [(.sl 3, .own 9), (.sl 9, .int .i64)])])] }
abbrev W345 : CT S [22] [40] := (fun x0 => (some (P345 x0), S345 x0))
abbrev Ok345 : Prop := ConOk P7 45 (ctr P7 [40] [22] W345) ∧ ConMon (ctr P7 [40] [22] W345)
theorem q345 (x0 : List api_Rule) (v : HR S [22]) : (Xf C345 6 (emp 0) 45 (argsA C345 [⟨40, x0⟩]) (emp 0) (fun r _ => isR C345.P [22] v r) (fun _ _ => False))
 = (LOOP (fun (h : List ByteArray × Int) (J : List ByteArray × Int → Prop) => bif decide (h.snd < (↑x0.length : Int)) then h.fst.length = h.fst.length ∧ JP
 (fun (h_1 : List ByteArray) => h_1.length = h_1.length ∧ J (h_1, IntKind.i64.wrap (h.snd + (1 : Int)))) fun (J : List ByteArray → Prop) => ((0 : Int) ≤ h.snd
 ∧ h.snd < (↑x0.length : Int)) ∧ JP (fun (h_1 : ByteArray) => ((0 : Int) ≤ (ix x0 h.snd).fPrefix.fAddr ∧ (ix x0 h.snd).fPrefix.fAddr ≤ (4294967295 : Int)) ∧
 ((-9223372036854775808 : Int) ≤ (ix x0 h.snd).fPrefix.fLen ∧ (ix x0 h.snd).fPrefix.fLen ≤ (9223372036854775807 : Int)) ∧ ((-9223372036854775808 : Int) ≤ (ix
 x0 h.snd).fMin ∧ (ix x0 h.snd).fMin ≤ (9223372036854775807 : Int)) ∧ ((-9223372036854775808 : Int) ≤ (ix x0 h.snd).fMax ∧ (ix x0 h.snd).fMax ≤
 (9223372036854775807 : Int)) ∧ ((-9223372036854775808 : Int) ≤ (ix x0 h.snd).fPref ∧ (ix x0 h.snd).fPref ≤ (9223372036854775807 : Int)) ∧ (h.fst.length =
 h.fst.length ∧ (h.fst.length + [S339 (ix x0 h.snd).fPrefix.fAddr, S340 (ix x0 h.snd).fPrefix.fLen, S340 (ix x0 h.snd).fMin, S340 (ix x0 h.snd).fMax, h_1, S340
 (ix x0 h.snd).fPref].length) * nat_lit 16 ≤ nat_lit 140737488355328) ∧ ∀ (y : List (ByteArray)), y = h.fst ++ [S339 (ix x0 h.snd).fPrefix.fAddr, S340 (ix x0
 h.snd).fPrefix.fLen, S340 (ix x0 h.snd).fMin, S340 (ix x0 h.snd).fMax, h_1, S340 (ix x0 h.snd).fPref] → y.length = y.length ∧ J y) fun (J : ByteArray → Prop)
 => bif (ix x0 h.snd).fDeny then J (ByteArray.mk #[(49 : UInt8)]) else J (ByteArray.mk #[(48 : UInt8)]) else h.fst = v) ([], (0 : Int))) := by kernel_rfl
end Go.Rx
namespace Go.Rx
open Go.Ab Go.L21
set_option maxRecDepth 100000
set_option maxHeartbeats 20000000
set_option linter.unusedVariables false
/-- interregnum/row.Peer -/
noncomputable def C322 : Cfg S := { P := P7, inl := [], K := [(14, ctr P7 [22] [9] (fun x0 => (some (P314 x0), S314 x0))), (40, ctr P7 [3] [9] (fun x0 => (some (P340 x0), S340 x0))), (45, ctr P7 [40] [22] (fun x0 => (some (P345 x0), S345 x0)))], ann := [] }
abbrev W322 : CT S [9] [42] := (fun x0 => (some (P322 x0), S322 x0))
abbrev Ok322 : Prop := ConOk P7 22 (ctr P7 [42] [9] W322) ∧ ConMon (ctr P7 [42] [9] W322)
theorem q322 (x0 : api_PeerConf) (v : HR S [9]) : (Xf C322 6 (emp 0) 22 (argsA C322 [⟨42, x0⟩]) (emp 0) (fun r _ => isR C322.P [9] v r) (fun _ _ => False)) =
 (((-9223372036854775808 : Int) ≤ x0.fNum ∧ x0.fNum ≤ (9223372036854775807 : Int)) ∧ ((-9223372036854775808 : Int) ≤ x0.fAS ∧ x0.fAS ≤ (9223372036854775807 :
 Int)) ∧ ((-9223372036854775808 : Int) ≤ (↑x0.fIn.length : Int) ∧ (↑x0.fIn.length : Int) ≤ (9223372036854775807 : Int)) ∧ (x0.fIn.length ≤ nat_lit 8000 ∧ ∀ (r
 : api_Rule), List.Mem r x0.fIn → ((0 : Int) ≤ r.fPrefix.fAddr ∧ r.fPrefix.fAddr ≤ (4294967295 : Int)) ∧ ((-9223372036854775808 : Int) ≤ r.fPrefix.fLen ∧
 r.fPrefix.fLen ≤ (9223372036854775807 : Int)) ∧ ((-9223372036854775808 : Int) ≤ r.fMin ∧ r.fMin ≤ (9223372036854775807 : Int)) ∧ ((-9223372036854775808 : Int)
 ≤ r.fMax ∧ r.fMax ≤ (9223372036854775807 : Int)) ∧ (-9223372036854775808 : Int) ≤ r.fPref ∧ r.fPref ≤ (9223372036854775807 : Int)) ∧ ([S340 x0.fNum, S340
 x0.fAS, S340 (↑x0.fIn.length : Int)].length = [S340 x0.fNum, S340 x0.fAS, S340 (↑x0.fIn.length : Int)].length ∧ ([S340 x0.fNum, S340 x0.fAS, S340
 (↑x0.fIn.length : Int)].length + (S345 x0.fIn).length) * nat_lit 16 ≤ nat_lit 140737488355328) ∧ ∀ (y : List (ByteArray)), y = [S340 x0.fNum, S340 x0.fAS,
 S340 (↑x0.fIn.length : Int)] ++ S345 x0.fIn → (x0.fOut.length ≤ nat_lit 8000 ∧ ∀ (r : api_Rule), List.Mem r x0.fOut → ((0 : Int) ≤ r.fPrefix.fAddr ∧
 r.fPrefix.fAddr ≤ (4294967295 : Int)) ∧ ((-9223372036854775808 : Int) ≤ r.fPrefix.fLen ∧ r.fPrefix.fLen ≤ (9223372036854775807 : Int)) ∧
 ((-9223372036854775808 : Int) ≤ r.fMin ∧ r.fMin ≤ (9223372036854775807 : Int)) ∧ ((-9223372036854775808 : Int) ≤ r.fMax ∧ r.fMax ≤ (9223372036854775807 :
 Int)) ∧ (-9223372036854775808 : Int) ≤ r.fPref ∧ r.fPref ≤ (9223372036854775807 : Int)) ∧ (y.length = y.length ∧ (y.length + (S345 x0.fOut).length) * nat_lit
 16 ≤ nat_lit 140737488355328) ∧ ∀ (y_1 : List (ByteArray)), y_1 = y ++ S345 x0.fOut → (textsL y_1).length.le (nat_lit 70368744177664) ∧ S314 y_1 = v) := by
 kernel_rfl
end Go.Rx
namespace Go.Rx
open Go.Ab Go.L21
set_option maxRecDepth 100000
set_option maxHeartbeats 20000000
set_option linter.unusedVariables false
/-- interregnum/interregnumref11.Peer -/
noncomputable def C325 : Cfg S := { P := P7, inl := [], K := [(38, ctr P7 [3] [9] (fun x0 => (some (P338 x0), S338 x0))), (17, ctr P7 [22] [9] (fun x0 => (some (P317 x0), S317 x0)))], ann := [(25, [(5, .join [(.sl 3, .own 9)]), (9, .join [(.sl 6, .str)]), (4, .loop [(.sl 3, .own 9), (.sl 5, .int .i64)])])] }
abbrev W325 : CT S [9] [42] := (fun x0 => (some (P325 x0), S325 x0))
abbrev Ok325 : Prop := ConOk P7 25 (ctr P7 [42] [9] W325) ∧ ConMon (ctr P7 [42] [9] W325)
theorem q325 (x0 : api_PeerConf) (v : HR S [9]) : (Xf C325 6 (emp 0) 25 (argsA C325 [⟨42, x0⟩]) (emp 0) (fun r _ => isR C325.P [9] v r) (fun _ _ => False)) =
 (((-9223372036854775808 : Int) ≤ x0.fNum ∧ x0.fNum ≤ (9223372036854775807 : Int)) ∧ ((-9223372036854775808 : Int) ≤ x0.fAS ∧ x0.fAS ≤ (9223372036854775807 :
 Int)) ∧ ((-9223372036854775808 : Int) ≤ (↑x0.fIn.length : Int) ∧ (↑x0.fIn.length : Int) ≤ (9223372036854775807 : Int)) ∧ (nat_lit 0 = nat_lit 0 ∧ (nat_lit 0 +
 x0.fIn.length) * nat_lit 48 ≤ nat_lit 140737488355328) ∧ ∀ (y : List (api_Rule)), y = [] ++ x0.fIn → (y.length = y.length ∧ (y.length + x0.fOut.length) *
 nat_lit 48 ≤ nat_lit 140737488355328) ∧ ∀ (y_1 : List (api_Rule)), y_1 = y ++ x0.fOut → [S338 x0.fNum, S338 x0.fAS, S338 (↑x0.fIn.length : Int)].length =
 [S338 x0.fNum, S338 x0.fAS, S338 (↑x0.fIn.length : Int)].length ∧ LOOP (fun (h : List ByteArray × Int) (J : List ByteArray × Int → Prop) => bif decide (h.snd
 < (↑y_1.length : Int)) then h.fst.length = h.fst.length ∧ JP (fun (h_1 : List ByteArray) => h_1.length = h_1.length ∧ J (h_1, IntKind.i64.wrap (h.snd + (1 :
 Int)))) fun (J : List ByteArray → Prop) => JP (fun (h_1 : ByteArray) => ((0 : Int) ≤ h.snd ∧ h.snd < (↑y_1.length : Int)) ∧ ((0 : Int) ≤ h.snd ∧ h.snd <
 (↑y_1.length : Int)) ∧ ((0 : Int) ≤ h.snd ∧ h.snd < (↑y_1.length : Int)) ∧ ((0 : Int) ≤ h.snd ∧ h.snd < (↑y_1.length : Int)) ∧ ((0 : Int) ≤ h.snd ∧ h.snd <
 (↑y_1.length : Int)) ∧ ((-9223372036854775808 : Int) ≤ IntKind.i64.wrap (ix y_1 h.snd).fPrefix.fAddr ∧ IntKind.i64.wrap (ix y_1 h.snd).fPrefix.fAddr ≤
 (9223372036854775807 : Int)) ∧ ((-9223372036854775808 : Int) ≤ (ix y_1 h.snd).fPrefix.fLen ∧ (ix y_1 h.snd).fPrefix.fLen ≤ (9223372036854775807 : Int)) ∧
 ((-9223372036854775808 : Int) ≤ (ix y_1 h.snd).fMin ∧ (ix y_1 h.snd).fMin ≤ (9223372036854775807 : Int)) ∧ ((-9223372036854775808 : Int) ≤ (ix y_1 h.snd).fMax
 ∧ (ix y_1 h.snd).fMax ≤ (9223372036854775807 : Int)) ∧ ((-9223372036854775808 : Int) ≤ (ix y_1 h.snd).fPref ∧ (ix y_1 h.snd).fPref ≤ (9223372036854775807 :
 Int)) ∧ (h.fst.length = h.fst.length ∧ (h.fst.length + [S338 (IntKind.i64.wrap (ix y_1 h.snd).fPrefix.fAddr), S338 (ix y_1 h.snd).fPrefix.fLen, S338 (ix y_1
 h.snd).fMin, S338 (ix y_1 h.snd).fMax, h_1, S338 (ix y_1 h.snd).fPref].length) * nat_lit 16 ≤ nat_lit 140737488355328) ∧ ∀ (y : List (ByteArray)), y = h.fst
 ++ [S338 (IntKind.i64.wrap (ix y_1 h.snd).fPrefix.fAddr), S338 (ix y_1 h.snd).fPrefix.fLen, S338 (ix y_1 h.snd).fMin, S338 (ix y_1 h.snd).fMax, h_1, S338 (ix
 y_1 h.snd).fPref] → y.length = y.length ∧ J y) fun (J : ByteArray → Prop) => ((0 : Int) ≤ h.snd ∧ h.snd < (↑y_1.length : Int)) ∧ bif (ix y_1 h.snd).fDeny then
 J (ByteArray.mk #[(49 : UInt8)]) else J (ByteArray.mk #[(48 : UInt8)]) else (textsL h.fst).length.le (nat_lit 70368744177664) ∧ S317 h.fst = v) ([S338
 x0.fNum, S338 x0.fAS, S338 (↑x0.fIn.length : Int)], (0 : Int))) := by kernel_rfl
end Go.Rx
namespace Go.Rx
open Go.Ab Go.L21
set_option maxRecDepth 100000
set_option maxHeartbeats 20000000
set_option linter.unusedVariables false
/-- interregnum/interregnumref11.SamePeer -/
noncomputable def C323 : Cfg S := { P := P7, inl := [], K := [(25, ctr P7 [42] [9] (fun x0 => (some (P325 x0), S325 x0)))], ann := [] }
abbrev W323 : CT S [4] [42, 42] := (fun x0 x1 => (some (P323 x0 x1), S323 x0 x1))
abbrev Ok323 : Prop := ConOk P7 23 (ctr P7 [42, 42] [4] W323) ∧ ConMon (ctr P7 [42, 42] [4] W323)
theorem q323 (x0 : api_PeerConf) (x1 : api_PeerConf) (v : HR S [4]) : (Xf C323 6 (emp 0) 23 (argsA C323 [⟨42, x0⟩, ⟨42, x1⟩]) (emp 0) (fun r _ => isR C323.P
 [4] v r) (fun _ _ => False)) = (bif decide ((↑x0.fIn.length : Int) = (↑x1.fIn.length : Int)) then OkP x0 ∧ OkP x1 ∧ ((S325 x0).toList == (S325 x1).toList) = v
 else false = v) := by kernel_rfl
end Go.Rx
/-! A peer as text. -/
namespace Go.Rx
open Go.Ab Go.L21
set_option linter.unusedVariables false
set_option maxRecDepth 100000
theorem JP.of {ι : Type} {rest : ι → Prop} {body : (ι → Prop) → Prop} (I : ι → Prop) (hb : ∀ J : ι → Prop, (∀ y, I y → J y) → body J) (hr : ∀ y, I y → rest y) : JP rest body := ⟨hb rest hr⟩
theorem ixR {l : List api_Rule} {k : Nat} {y : api_Rule} (h : l[k]? = some y) : ix l (k : Int) = y := by
  unfold ix
  rw [Int.toNat_natCast, List.getD_eq_getElem?_getD, h]; rfl
theorem rules_take {l : List api_Rule} {k : Nat} {y : api_Rule} (h : l[k]? = some y) : rulesL (l.take (k + 1)) = rulesL (l.take k) ++ ruleL y := by
  rw [List.take_add_one, h]; simp [rulesL]
theorem rules_len (l : List api_Rule) : (rulesL l).length = 6 * l.length := by
  induction l with
  | nil => rfl
  | cons x r ih =>
    have e : rulesL (x :: r) = ruleL x ++ rulesL r := rfl
    rw [e, List.length_append, ih, List.length_cons]
    show 6 + 6 * r.length = _
    omega
theorem rules_app (a b : List api_Rule) : rulesL (a ++ b) = rulesL a ++ rulesL b := List.flatMap_append
theorem run345 : RunC C345 6 45 [22] [40] W345 [] := by
  intro (l : List api_Rule) hx hp
  obtain ⟨h1, h2⟩ : P345 l := hp _ rfl
  refine of_eq (q345 l _) ?_
  refine LOOP.of (fun y => ∃ k : Nat, y = (rulesL (l.take k), (k : Int)) ∧ k ≤ l.length) (fun y => l.length - y.2.toNat) ⟨0, rfl, by omega⟩ ?_
  rintro _ ⟨k, rfl, hk⟩ J hJ
  dsimp only
  refine bif_of (fun hc => ?_) (fun hc => ?_)
  · have hc := of_decide_eq_true hc
    have hkl : k < l.length := by omega
    have hy : l[k]? = some l[k] := List.getElem?_eq_getElem hkl
    obtain ⟨r1, r2, r3, r4, r5⟩ := h2 _ (List.getElem_mem hkl)
    generalize l[k] = y at hy r1 r2 r3 r4 r5
    rw [ixR hy]
    have ht := rules_take hy
    have hl : (rulesL (l.take k)).length = 6 * k := by rw [rules_len, List.length_take]; omega
    refine ⟨rfl, JP.of (fun z => z = rulesL (l.take (k + 1))) (fun J1 hJ1 => ⟨⟨by omega, hc⟩, ?_⟩) ?_⟩
    · refine JP.of (fun z => z = b2 y.fDeny) (fun J2 hJ2 => bif_of (fun h => hJ2 _ ?_) (fun h => hJ2 _ ?_)) ?_
      · rw [h]; rfl
      · rw [h]; rfl
      · rintro z hz
        refine ⟨r1, r2, r3, r4, r5, ⟨rfl, ?_⟩, fun w hw => ⟨rfl, hJ1 _ ?_⟩⟩
        · show (_ + 6) * 16 ≤ 140737488355328
          omega
        · rw [hw, hz, ht]; rfl
    · rintro z hz
      refine ⟨rfl, hJ _ ⟨k + 1, ?_, by omega⟩ ?_⟩
      · rw [hz, wrap64 (by omega)]; rfl
      · show l.length - (IntKind.i64.wrap ((k : Int) + 1)).toNat < l.length - ((k : Nat) : Int).toNat
        rw [wrap64 (by omega)]; omega
  · have hc := of_decide_eq_false hc
    have : k = l.length := by omega
    rw [this, List.take_length]
    rfl
theorem ok345 : Ok345 := by
  refine con_ok (C := C345) ?_ mx7 (by kernel_rfl) run345
  exact kok_cons ok339 (kok_cons ok340 kok_nil)
theorem b2_len (b : Bool) : (textL (b2 b)).length ≤ 43 := by
  cases b
  · show (textL ⟨#[48]⟩).length ≤ 43
    have := itoa_len (n := (1 : Int)) ⟨by omega, by omega⟩
    rw [textL, List.length_append, List.length_cons]
    show (Lib.itoa 1).length + 2 ≤ 43
    omega
  · show (textL ⟨#[49]⟩).length ≤ 43
    have := itoa_len (n := (1 : Int)) ⟨by omega, by omega⟩
    rw [textL, List.length_append, List.length_cons]
    show (Lib.itoa 1).length + 2 ≤ 43
    omega
theorem texts_app (a b : List ByteArray) : textsL (a ++ b) = textsL a ++ textsL b := List.flatMap_append
theorem rules_texts (l : List api_Rule) (h : ∀ r ∈ l, okRule r) : (textsL (rulesL l)).length ≤ 258 * l.length := by
  induction l with
  | nil => exact Nat.zero_le _
  | cons x r ih =>
    have e : rulesL (x :: r) = ruleL x ++ rulesL r := rfl
    have := ih fun y hy => h y (List.mem_cons_of_mem _ hy)
    obtain ⟨h1, h2, h3, h4, h5⟩ := h x List.mem_cons_self
    have h1 := text_len (p333 h1)
    have h2 := text_len h2
    have h3 := text_len h3
    have h4 := text_len h4
    have h5 := text_len h5
    have h6 := b2_len x.fDeny
    rw [e, texts_app, List.length_append, List.length_cons]
    have : (textsL (ruleL x)).length ≤ 258 := by
      simp only [textsL, ruleL, List.flatMap_cons, List.flatMap_nil, List.length_append, List.length_nil]
      omega
    omega
theorem peer_len {p : api_PeerConf} (h : okPeer p) : (textsL (peerL p)).length ≤ 6000000 := by
  obtain ⟨h1, h2, h3, h4, h5, h6⟩ := h
  have a1 := text_len h1
  have a2 := text_len h2
  have a3 := text_len (n := (p.fIn.length : Int)) ⟨by omega, by omega⟩
  have a4 := rules_texts _ h5
  have a5 := rules_texts _ h6
  unfold peerL
  rw [texts_app, texts_app, List.length_append, List.length_append]
  have : (textsL [S333 p.fNum, S333 p.fAS, S333 p.fIn.length]).length ≤ 129 := by
    simp only [textsL, List.flatMap_cons, List.flatMap_nil, List.length_append, List.length_nil]
    omega
  omega
theorem run322 : RunC C322 6 22 [9] [42] W322 [] := by
  intro (p : api_PeerConf) hx hp
  obtain ⟨hp⟩ : OkP p := hp _ rfl
  have hl := peer_len hp
  obtain ⟨h1, h2, h3, h4, h5, h6⟩ := hp
  have l1 : (S345 p.fIn).length = 6 * p.fIn.length := rules_len _
  have l2 : (S345 p.fOut).length = 6 * p.fOut.length := rules_len _
  refine of_eq (q322 p _) ⟨h1, h2, ⟨by omega, by omega⟩, ⟨h3, h5⟩, ⟨rfl, ?_⟩, fun y hy => ⟨⟨h4, h6⟩, ⟨rfl, ?_⟩, fun z hz => ?_⟩⟩
  · show (3 + _) * 16 ≤ 140737488355328
    omega
  · have : y.length = 3 + 6 * p.fIn.length := by rw [hy, List.length_append, l1]; rfl
    show (_ + _) * 16 ≤ 140737488355328
    omega
  · have e : z = peerL p := by rw [hz, hy]; rfl
    subst e
    refine ⟨?_, rfl⟩
    show _ ≤ 70368744177664
    omega
theorem ok322 : Ok322 := by
  refine con_ok (C := C322) ?_ mx7 (by kernel_rfl) run322
  exact kok_cons ok314 (kok_cons ok340 (kok_cons ok345 kok_nil))
theorem run325 : RunC C325 6 25 [9] [42] W325 [] := by
  intro (p : api_PeerConf) hx hp
  obtain ⟨hp⟩ : OkP p := hp _ rfl
  have hpl := peer_len hp
  obtain ⟨h1, h2, h3, h4, h5, h6⟩ := hp
  refine of_eq (q325 p _) ⟨h1, h2, ⟨by omega, by omega⟩, ⟨rfl, by show (0 + _) * 48 ≤ 140737488355328; omega⟩, fun y hy => ?_⟩
  have hy : y = p.fIn := hy
  subst hy
  refine ⟨⟨rfl, by show (_ + _) * 48 ≤ 140737488355328; omega⟩, fun l hl => ⟨rfl, ?_⟩⟩
  have hll : l.length ≤ 16000 := by rw [hl, List.length_append]; omega
  have hlo : ∀ r ∈ l, okRule r := fun r hr => by
    rw [hl] at hr
    exact (List.mem_append.1 hr).elim (h5 r) (h6 r)
  refine LOOP.of (fun y => ∃ k : Nat, y = ([S333 p.fNum, S333 p.fAS, S333 p.fIn.length] ++ rulesL (l.take k), (k : Int)) ∧ k ≤ l.length) (fun y => l.length - y.2.toNat) ⟨0, rfl, by omega⟩ ?_
  rintro _ ⟨k, rfl, hk⟩ J hJ
  dsimp only
  refine bif_of (fun hc => ?_) (fun hc => ?_)
  · have hc := of_decide_eq_true hc
    have hkl : k < l.length := by omega
    have hy : l[k]? = some l[k] := List.getElem?_eq_getElem hkl
    obtain ⟨r1, r2, r3, r4, r5⟩ := hlo _ (List.getElem_mem hkl)
    generalize l[k] = y at hy r1 r2 r3 r4 r5
    rw [ixR hy, wrap64 (n := y.fPrefix.fAddr) (by omega)]
    have ht := rules_take hy
    have hl : (rulesL (l.take k)).length = 6 * k := by rw [rules_len, List.length_take]; omega
    have hb : (0 : Int) ≤ (k : Int) ∧ (k : Int) < (l.length : Int) := ⟨by omega, hc⟩
    refine ⟨rfl, JP.of (fun z => z = [S333 p.fNum, S333 p.fAS, S333 p.fIn.length] ++ rulesL (l.take (k + 1))) (fun J1 hJ1 => ?_) ?_⟩
    · refine JP.of (fun z => z = b2 y.fDeny) (fun J2 hJ2 => ⟨hb, bif_of (fun h => hJ2 _ ?_) (fun h => hJ2 _ ?_)⟩) ?_
      · rw [h]; rfl
      · rw [h]; rfl
      · rintro z hz
        refine ⟨hb, hb, hb, hb, hb, p333 r1, r2, r3, r4, r5, ⟨rfl, ?_⟩, fun w hw => ⟨rfl, hJ1 _ ?_⟩⟩
        · rw [List.length_append, hl]
          show (3 + 6 * k + 6) * 16 ≤ 140737488355328
          omega
        · rw [hw, hz, ht, ← List.append_assoc]; rfl
    · rintro z hz
      refine ⟨rfl, hJ _ ⟨k + 1, ?_, by omega⟩ ?_⟩
      · rw [hz, wrap64 (by omega)]; rfl
      · show l.length - (IntKind.i64.wrap ((k : Int) + 1)).toNat < l.length - ((k : Nat) : Int).toNat
        rw [wrap64 (by omega)]; omega
  · have hc := of_decide_eq_false hc
    have : k = l.length := by omega
    have e : [S333 p.fNum, S333 p.fAS, S333 p.fIn.length] ++ rulesL (l.take k) = peerL p := by
      rw [this, List.take_length, hl, rules_app, ← List.append_assoc]; rfl
    rw [e]
    refine ⟨?_, rfl⟩
    show _ ≤ 70368744177664
    omega
theorem ok325 : Ok325 := by
  refine con_ok (C := C325) ?_ mx7 (by kernel_rfl) run325
  exact kok_cons ok338 (kok_cons ok317 kok_nil)
theorem run323 : RunC C323 6 23 [4] [42, 42] W323 [] := by
  intro (p : api_PeerConf) hx (q : api_PeerConf) hy hp
  obtain ⟨hp, hq⟩ : OkP p ∧ OkP q := hp _ rfl
  refine of_eq (q323 p q _) (bif_of (fun hc => ⟨hp, hq, ?_⟩) (fun hc => ?_))
  · have hc : p.fIn.length = q.fIn.length := by have := of_decide_eq_true hc; omega
    show _ = S323 p q
    unfold S323
    rw [decide_eq_true hc, Bool.true_and]
  · have hc : ¬ p.fIn.length = q.fIn.length := by have := of_decide_eq_false hc; omega
    show _ = S323 p q
    unfold S323
    rw [decide_eq_false hc, Bool.false_and]
theorem ok323 : Ok323 := by
  refine con_ok (C := C323) ?_ mx7 (by kernel_rfl) run323
  exact kok_cons ok325 kok_nil
end Go.Rx
namespace Go.Rx
open Go.Ab Go.L21
set_option maxRecDepth 100000
set_option maxHeartbeats 20000000
set_option linter.unusedVariables false
/-- (*interregnum/row.reader).text -/
noncomputable def C358 : Cfg S := { P := P7, inl := [], K := [], ann := [] }
noncomputable abbrev W358 : S.A 82 → CTB S 82 [9] [] := (fun z => (none, (S358 z).1, (S358 z).2))
abbrev Ok358 : Prop := ConOk P7 58 (ctb (S := S) P7 82 [] [9] W358) ∧ ConMon (ctb (S := S) P7 82 [] [9] W358)
theorem q358 (z : row_reader) (v : HR S [9]) (y : row_reader) : (Xf C358 6 (emp 1) 58 (.loc 0 0 :: argsA C358 []) (boxS 82 z) (fun r m => isR C358.P [9] v r ∧
 isB 82 y m) (fun _ _ => False)) = (bif decide ((↑z.flist.length : Int) = (0 : Int)) then ByteArray.mk #[] = v ∧ row_reader.mk z.flist true = y else ((0 : Int)
 ≤ (0 : Int) ∧ (0 : Int) < (↑z.flist.length : Int)) ∧ ((0 : Int) ≤ (1 : Int) ∧ (1 : Int) ≤ (↑z.flist.length : Int) ∧ (↑z.flist.length : Int) ≤ (↑z.flist.length
 : Int)) ∧ ix z.flist (0 : Int) = v ∧ row_reader.mk (sub z.flist (1 : Int) (↑z.flist.length : Int)) z.fbad = y) := by kernel_rfl
end Go.Rx
namespace Go.Rx
open Go.Ab Go.L21
set_option maxRecDepth 100000
set_option maxHeartbeats 20000000
set_option linter.unusedVariables false
/-- (*interregnum/row.reader).num -/
noncomputable def C344 : Cfg S := { P := P7, inl := [], K := [(37, ctr P7 [9] [3, 67] (fun x0 => (some (P337 x0), S337 x0))), (58, ctb (S := S) P7 82 [] [9] (fun z => (none, (S358 z).1, (S358 z).2)))], ann := [] }
noncomputable abbrev W344 : S.A 82 → CTB S 82 [3] [] := (fun z => (some (P344 z), (S344 z).1, (S344 z).2))
abbrev Ok344 : Prop := ConOk P7 44 (ctb (S := S) P7 82 [] [3] W344) ∧ ConMon (ctb (S := S) P7 82 [] [3] W344)
theorem q344 (z : row_reader) (v : HR S [3]) (y : row_reader) : (Xf C344 6 (emp 1) 44 (.loc 0 0 :: argsA C344 []) (boxS 82 z) (fun r m => isR C344.P [3] v r ∧
 isB 82 y m) (fun _ _ => False)) = (∀ (u : row_reader), u = (S358 z).snd → (S358 z).fst.size.le (nat_lit 281474976710656) ∧ (S337 (S358 z).fst).fst = v ∧
 row_reader.mk u.flist (u.fbad || (S337 (S358 z).fst).snd) = y) := by kernel_rfl
end Go.Rx
namespace Go.Rx
open Go.Ab Go.L21
set_option maxRecDepth 100000
set_option maxHeartbeats 20000000
set_option linter.unusedVariables false
/-- (*interregnum/row.reader).addr -/
noncomputable def C343 : Cfg S := { P := P7, inl := [], K := [(57, ctr P7 [9, 3, 3] [59, 67] (fun x0 x1 x2 => (some (P357 x0 x1 x2), S357 x0 x1 x2))), (58, ctb (S := S) P7 82 [] [9] (fun z => (none, (S358 z).1, (S358 z).2)))], ann := [] }
noncomputable abbrev W343 : S.A 82 → CTB S 82 [31] [] := (fun z => (some (P343 z), (S343 z).1, (S343 z).2))
abbrev Ok343 : Prop := ConOk P7 43 (ctb (S := S) P7 82 [] [31] W343) ∧ ConMon (ctb (S := S) P7 82 [] [31] W343)
theorem q343 (z : row_reader) (v : HR S [31]) (y : row_reader) : (Xf C343 6 (emp 1) 43 (.loc 0 0 :: argsA C343 []) (boxS 82 z) (fun r m => isR C343.P [31] v r
 ∧ isB 82 y m) (fun _ _ => False)) = (∀ (u : row_reader), u = (S358 z).snd → ((S358 z).fst.size ≤ nat_lit 281474976710656 ∧ (10 : Int) = (10 : Int) ∧ ((32 :
 Int) = (32 : Int) ∨ (32 : Int) = (64 : Int))) ∧ IntKind.u32.wrap (S357 (S358 z).fst (10 : Int) (32 : Int)).fst = v ∧ row_reader.mk u.flist (u.fbad || (S357
 (S358 z).fst (10 : Int) (32 : Int)).snd) = y) := by kernel_rfl
end Go.Rx
namespace Go.Rx
open Go.Ab Go.L21
set_option maxRecDepth 100000
set_option maxHeartbeats 20000000
set_option linter.unusedVariables false
/-- (*interregnum/row.reader).prefix -/
noncomputable def C342 : Cfg S := { P := P7, inl := [], K := [(44, ctb (S := S) P7 82 [] [3] (fun z => (some (P344 z), (S344 z).1, (S344 z).2))), (43, ctb (S := S) P7 82 [] [31] (fun z => (some (P343 z), (S343 z).1, (S343 z).2)))], ann := [] }
noncomputable abbrev W342 : S.A 82 → CTB S 82 [33] [] := (fun z => (some (P342 z), (S342 z).1, (S342 z).2))
abbrev Ok342 : Prop := ConOk P7 42 (ctb (S := S) P7 82 [] [33] W342) ∧ ConMon (ctb (S := S) P7 82 [] [33] W342)
theorem q342 (z : row_reader) (v : HR S [33]) (y : row_reader) : (Xf C342 6 (emp 1) 42 (.loc 0 0 :: argsA C342 []) (boxS 82 z) (fun r m => isR C342.P [33] v r
 ∧ isB 82 y m) (fun _ _ => False)) = (PR z ∧ ∀ (u : row_reader), u = (S343 z).snd → PR u ∧ ∀ (u_1 : row_reader), u_1 = (S344 u).snd → api_Prefix.mk (S343
 z).fst (S344 u).fst = v ∧ u_1 = y) := by kernel_rfl
end Go.Rx
namespace Go.Rx
open Go.Ab Go.L21
set_option maxRecDepth 100000
set_option maxHeartbeats 20000000
set_option linter.unusedVariables false
/-- (*interregnum/row.reader).rule -/
noncomputable def C346 : Cfg S := { P := P7, inl := [], K := [(58, ctb (S := S) P7 82 [] [9] (fun z => (none, (S358 z).1, (S358 z).2))), (44, ctb (S := S) P7 82 [] [3] (fun z => (some (P344 z), (S344 z).1, (S344 z).2))), (42, ctb (S := S) P7 82 [] [33] (fun z => (some (P342 z), (S342 z).1, (S342 z).2)))], ann := [] }
noncomputable abbrev W346 : S.A 82 → CTB S 82 [85] [] := (fun z => (some (P346 z), (S346 z).1, (S346 z).2))
abbrev Ok346 : Prop := ConOk P7 46 (ctb (S := S) P7 82 [] [85] W346) ∧ ConMon (ctb (S := S) P7 82 [] [85] W346)
theorem q346 (z : row_reader) (v : HR S [85]) (y : row_reader) : (Xf C346 6 (emp 1) 46 (.loc 0 0 :: argsA C346 []) (boxS 82 z) (fun r m => isR C346.P [85] v r
 ∧ isB 82 y m) (fun _ _ => False)) = (PR z ∧ ∀ (u : row_reader), u = (S342 z).snd → PR u ∧ ∀ (u_1 : row_reader), u_1 = (S344 u).snd → PR u_1 ∧ ∀ (u_2 :
 row_reader), u_2 = (S344 u_1).snd → ∀ (u_3 : row_reader), u_3 = (S358 u_2).snd → PR u_3 ∧ ∀ (u_4 : row_reader), u_4 = (S344 u_3).snd → api_Rule.mk (S342
 z).fst (S344 u).fst (S344 u_1).fst ((S358 u_2).fst.toList == (ByteArray.mk #[(49 : UInt8)]).toList) (S344 u_3).fst = v ∧ u_4 = y) := by kernel_rfl
end Go.Rx
/-! The reader of texts. -/
namespace Go.Rx
open Go.Ab Go.L21
set_option linter.unusedVariables false
set_option maxRecDepth 100000
theorem sub_drop {α : Type} (l : List α) {k : Int} {n : Nat} (h : k.toNat = n) : sub l k (l.length : Int) = l.drop n := by
  unfold sub; rw [h, Int.toNat_natCast, List.take_of_length_le (Nat.le_refl _)]
theorem valI_ok (s : ByteArray) : P333 (valI s) := by
  unfold valI S337 P333
  generalize s.data.toList = l
  have hs : -9223372036854775808 ≤ Lib.atoiSat l ∧ Lib.atoiSat l ≤ 9223372036854775807 := by
    unfold Lib.atoiSat
    split <;> omega
  cases h : Lib.atoiAll l
  rotate_left
  · exact ⟨by show (-9223372036854775808 : Int) ≤ 0; omega, by show (0 : Int) ≤ _; omega⟩
  · exact hs
  · rename_i v
    show -9223372036854775808 ≤ v ∧ v ≤ 9223372036854775807
    unfold Lib.atoiAll at h
    split at h
    · cases h
    · split at h
      · cases h
      · cases h
      · rename_i u hu
        have := Lib.parseMag_lt hu
        simp only at h
        split at h
        · cases h
        · split at h
          · cases h
          · rename_i c r _ h1 h2
            simp only [Lib.NumEnd.ok.injEq] at h
            subst h
            by_cases hn : c.toNat = 45
            · rw [if_pos hn]
              have : ¬ (9223372036854775808 < u) := fun h => h2 ⟨hn, h⟩
              omega
            · rw [if_neg hn]
              have : ¬ (9223372036854775808 ≤ u) := fun h => h1 ⟨hn, h⟩
              omega
theorem parseM_le (M : Nat) : ∀ (l : List UInt8) (acc u : Nat), acc ≤ M → Lib.parseUintM M acc l = .ok u → u ≤ M
  | [], acc, u, ha, h => by cases h; exact ha
  | c :: r, acc, u, ha, h => by
    unfold Lib.parseUintM at h
    split at h
    · split at h
      · cases h
      · split at h
        · cases h
        · rename_i h3
          exact parseM_le M r _ u (by omega) h
    · cases h
theorem s357_range (s : ByteArray) : 0 ≤ valU s ∧ valU s ≤ 4294967295 := by
  unfold valU S357
  show 0 ≤ (endN (Lib.parseUintB 32 s.data.toList) (2 ^ 32 - 1)).1 ∧ (endN (Lib.parseUintB 32 s.data.toList) (2 ^ 32 - 1)).1 ≤ 4294967295
  cases h : Lib.parseUintB 32 s.data.toList
  rotate_left
  · exact ⟨by show (0 : Int) ≤ 0; omega, by show (0 : Int) ≤ _; omega⟩
  · exact ⟨by show (0 : Int) ≤ (2 ^ 32 - 1); omega, by show (2 ^ 32 - 1 : Int) ≤ _; omega⟩
  · rename_i v
    have : v ≤ 2 ^ 32 - 1 := by
      unfold Lib.parseUintB at h
      split at h
      · cases h
      · exact parseM_le _ _ 0 v (Nat.zero_le _) h
    exact ⟨by show (0 : Int) ≤ (v : Int); omega, by show (v : Int) ≤ _; omega⟩
theorem rText_cons (s : ByteArray) (l : List ByteArray) (b : Bool) : rText ⟨s :: l, b⟩ = (s, ⟨l, b⟩) := rfl
theorem rText_eq (r : row_reader) : (∀ x : Unit, r.flist = [] → rText r = (bs [], ⟨[], true⟩)) ∧ ∀ s l, r.flist = s :: l → rText r = (s, ⟨l, r.fbad⟩) := by
  obtain ⟨l, b⟩ := r
  exact ⟨fun _ h => by cases h; rfl, fun s l h => by cases h; rfl⟩
theorem run358 (z : row_reader) : RunB C358 6 58 82 [9] z [] (W358 z) [] := by
  intro _
  refine of_eq (q358 z _ _) ?_
  obtain ⟨l, b⟩ := z
  cases l with
  | nil => exact bif_of (fun _ => ⟨rfl, rfl⟩) (fun h => by simp at h)
  | cons s l =>
    refine bif_of (fun h => ?_) (fun h => ⟨⟨by omega, ?_⟩, ⟨by omega, ?_, by omega⟩, rfl, ?_⟩)
    · have h := of_decide_eq_true h
      simp only [List.length_cons] at h
      omega
    · simp only [List.length_cons]; omega
    · simp only [List.length_cons]; omega
    · rw [sub_drop _ (n := 1) rfl]
      rfl
theorem ok358 : Ok358 := bx_ok (C := C358) kok_nil mx7 (by kernel_rfl) fun x _ => run358 x
theorem pr_text {z : row_reader} (h : PR z) : (S358 z).1.size ≤ 1099511627776 ∧ PR (S358 z).2 := by
  obtain ⟨h⟩ := h
  obtain ⟨l, b⟩ := z
  cases l with
  | nil => exact ⟨by show (bs []).size ≤ _; rw [size_bs]; exact Nat.zero_le _, ⟨fun s hs => by cases hs⟩⟩
  | cons s l => exact ⟨h s List.mem_cons_self, ⟨fun t ht => h t (List.mem_cons_of_mem _ ht)⟩⟩
theorem s344 (z : row_reader) : S344 z = (valI (rText z).1, ⟨(rText z).2.flist, (rText z).2.fbad || (S337 (rText z).1).2⟩) := by
  unfold S344; rw [lk_eq]; rfl
theorem s343 (z : row_reader) : S343 z = (valU (rText z).1, ⟨(rText z).2.flist, (rText z).2.fbad || (S357 (rText z).1 10 32).2⟩) := by
  unfold S343; rw [lk_eq]; rfl
theorem s342 (z : row_reader) : S342 z = rPre z := by unfold S342; rw [lk_eq]
theorem s346 (z : row_reader) : S346 z = rRule z := by unfold S346; rw [lk_eq]
theorem pr_num {z : row_reader} (h : PR z) : PR (S344 z).2 := by
  rw [s344]; exact ⟨(pr_text h).2.1⟩
theorem pr_addr {z : row_reader} (h : PR z) : PR (S343 z).2 := by
  rw [s343]; exact ⟨(pr_text h).2.1⟩
theorem run344 (z : row_reader) : RunB C344 6 44 82 [3] z [] (W344 z) [] := by
  intro hp
  have h : PR z := hp _ rfl
  refine of_eq (q344 z _ _) fun u hu => ?_
  subst hu
  refine ⟨?_, ?_, ?_⟩
  · exact Nat.le_trans (pr_text h).1 (by decide)
  · show _ = (S344 z).1; rw [s344]; rfl
  · show _ = (S344 z).2; rw [s344]; rfl
theorem ok344 : Ok344 := bx_ok (C := C344) (kok_cons ok337 (kok_cons ok358 kok_nil)) mx7 (by kernel_rfl) fun x _ => run344 x
theorem run343 (z : row_reader) : RunB C343 6 43 82 [31] z [] (W343 z) [] := by
  intro hp
  have h : PR z := hp _ rfl
  refine of_eq (q343 z _ _) fun u hu => ?_
  subst hu
  refine ⟨⟨?_, rfl, .inl rfl⟩, ?_, ?_⟩
  · exact Nat.le_trans (pr_text h).1 (by decide)
  · show _ = (S343 z).1; rw [s343]; exact wrap32 (s357_range _)
  · show _ = (S343 z).2; rw [s343]; rfl
theorem ok343 : Ok343 := bx_ok (C := C343) (kok_cons ok357 (kok_cons ok358 kok_nil)) mx7 (by kernel_rfl) fun x _ => run343 x
theorem n344 (z : row_reader) : rNum z = S344 z := by rw [s344]; rfl
theorem n343 (z : row_reader) : rAddr z = S343 z := by rw [s343]; rfl
theorem n358 (z : row_reader) : rText z = S358 z := rfl
theorem r342 (z : row_reader) : S342 z = (⟨(S343 z).1, (S344 (S343 z).2).1⟩, (S344 (S343 z).2).2) := by
  rw [s342]
  show (((⟨(rAddr z).1, (rNum (rAddr z).2).1⟩ : api_Prefix), (rNum (rAddr z).2).2) : api_Prefix × row_reader) = _
  rw [n343, n344]
theorem run342 (z : row_reader) : RunB C342 6 42 82 [33] z [] (W342 z) [] := by
  intro hp
  have h : PR z := hp _ rfl
  refine of_eq (q342 z _ _) ⟨h, fun u hu => ⟨hu ▸ pr_addr h, fun w hw => ?_⟩⟩
  subst hu hw
  show _ = (S342 z).1 ∧ _ = (S342 z).2
  rw [r342]
  exact ⟨rfl, rfl⟩
theorem ok342 : Ok342 := bx_ok (C := C342) (kok_cons ok344 (kok_cons ok343 kok_nil)) mx7 (by kernel_rfl) fun x _ => run342 x
theorem pr_pre {z : row_reader} (h : PR z) : PR (S342 z).2 := by
  rw [s342]
  show PR (rNum (rAddr z).2).2
  rw [n343, n344]
  exact pr_num (pr_addr h)
theorem r346 (z : row_reader) : S346 z =
    (⟨(S342 z).1, (S344 (S342 z).2).1, (S344 (S344 (S342 z).2).2).1, (S358 (S344 (S344 (S342 z).2).2).2).1.toList == [49], (S344 (S358 (S344 (S344 (S342 z).2).2).2).2).1⟩, (S344 (S358 (S344 (S344 (S342 z).2).2).2).2).2) := by
  rw [s346]
  show (((⟨(rPre z).1, (rNum (rPre z).2).1, (rNum (rNum (rPre z).2).2).1, (rText (rNum (rNum (rPre z).2).2).2).1.toList == [49], (rNum (rText (rNum (rNum (rPre z).2).2).2).2).1⟩ : api_Rule), (rNum (rText (rNum (rNum (rPre z).2).2).2).2).2) : api_Rule × row_reader) = _
  rw [← s342]
  simp only [n344, n358]
theorem run346 (z : row_reader) : RunB C346 6 46 82 [85] z [] (W346 z) [] := by
  intro hp
  have h : PR z := hp _ rfl
  refine of_eq (q346 z _ _) ⟨h, fun u hu => ?_⟩
  subst hu
  refine ⟨pr_pre h, fun u hu => ?_⟩
  subst hu
  refine ⟨pr_num (pr_pre h), fun u hu => ?_⟩
  subst hu
  intro u hu
  subst hu
  refine ⟨(pr_text (pr_num (pr_num (pr_pre h)))).2, fun u hu => ?_⟩
  subst hu
  show _ = (S346 z).1 ∧ _ = (S346 z).2
  rw [r346]
  refine ⟨?_, rfl⟩
  have : (⟨#[(49 : UInt8)]⟩ : ByteArray).toList = [49] := by rw [Lib.toList_data]
  rw [this]
theorem ok346 : Ok346 := bx_ok (C := C346) (kok_cons ok358 (kok_cons ok344 (kok_cons ok342 kok_nil))) mx7 (by kernel_rfl) fun x _ => run346 x
theorem pr_rule {z : row_reader} (h : PR z) : PR (S346 z).2 := by
  rw [r346]; exact pr_num (pr_text (pr_num (pr_num (pr_pre h)))).2
end Go.Rx
namespace Go.Rx
open Go.Ab Go.L21
set_option maxRecDepth 100000
set_option maxHeartbeats 20000000
set_option linter.unusedVariables false
/-- interregnum/row.ReadPeer -/
noncomputable def C324 : Cfg S := { P := P7, inl := [], K := [(15, ctr P7 [9] [22, 4] (fun x0 => (some (P315 x0), S315 x0))), (22, ctr P7 [42] [9] (fun x0 => (some (P322 x0), S322 x0))), (44, ctb (S := S) P7 82 [] [3] (fun z => (some (P344 z), (S344 z).1, (S344 z).2))), (46, ctb (S := S) P7 82 [] [85] (fun z => (some (P346 z), (S346 z).1, (S346 z).2)))], ann := [(24, [(6, .hyb [(0, ([], [1])), (1, ([0, 3], [5, 7])), (2, ([], [3])), (4, ([3], [5])), (6, ([], [7]))] (.one 0 (.one 2 (.alt 1 (.alt 3 (.one 4 (.alt 5 (.one 6 (.alt 7 .done .done)) .done)) .done) (.alt 3 (.one 1 (.one 4 (.alt 5 (.one 6 (.alt 7 .done .done)) .done))) .done))))), (8, .hyb [(0, ([], [1])), (1, ([0, 3], [5, 7])), (2, ([], [3])), (4, ([3], [5])), (6, ([], [7]))] (.one 0 (.one 2 (.alt 1 (.alt 3 (.one 4 (.alt 5 (.one 6 (.alt 7 .done .done)) .done)) .done) (.alt 3 (.one 1 (.one 4 (.alt 5 (.one 6 (.alt 7 .done .done)) .done))) .done))))), (7, .loop [(.ce 4 0, .sl 9), (.ce 4 1, .bool), (.ce 5 0, .int .i64), (.ce 5 1, .int .i64), (.ce 5 2, .own 85), (.ce 5 3, .own 85)]), (4, .loop [(.sl 6, .int .i64), (.ce 4 0, .sl 9), (.ce 4 1, .bool), (.ce 5 0, .int .i64), (.ce 5 1, .int .i64), (.ce 5 2, .own 85), (.ce 5 3, .own 85)])])] }
abbrev W324 : CT S [42, 4] [9] := (fun x0 => (some (P324 x0), S324 x0))
abbrev Ok324 : Prop := ConOk P7 24 (ctr P7 [9] [42, 4] W324) ∧ ConMon (ctr P7 [9] [42, 4] W324)
theorem q324 (x0 : ByteArray) (v : HR S [42, 4]) : (Xf C324 9 (emp 0) 24 (argsA C324 [⟨9, x0⟩]) (emp 0) (fun r _ => isR C324.P [42, 4] v r) (fun _ _ => False))
 = (x0.size.le (nat_lit 1099511627776) ∧ PR (row_reader.mk (S315 x0).fst (!(S315 x0).snd && true)) ∧ ∀ (u : row_reader), u = (S344 (row_reader.mk (S315 x0).fst
 (!(S315 x0).snd && true))).snd → PR u ∧ ∀ (u_1 : row_reader), u_1 = (S344 u).snd → PR u_1 ∧ ∀ (u_2 : row_reader), u_2 = (S344 u_1).snd → LOOP (fun (h : Int ×
 List ByteArray × Bool × Int × Int × List api_Rule × List api_Rule) (J : Int × List ByteArray × Bool × Int × Int × List api_Rule × List api_Rule → Prop) => bif
 decide ((0 : Int) < h.fst) && !h.snd.snd.fst then ((PR (row_reader.mk h.snd.fst h.snd.snd.fst) ∧ ∀ (u : row_reader), u = (S346 (row_reader.mk h.snd.fst
 h.snd.snd.fst)).snd → ((h.snd.snd.snd.snd.snd.fst.length = h.snd.snd.snd.snd.snd.fst.length ∧ (h.snd.snd.snd.snd.snd.fst.length + [(S346 (row_reader.mk
 h.snd.fst h.snd.snd.fst)).fst].length) * nat_lit 48 ≤ nat_lit 140737488355328) ∧ ∀ (y : List (api_Rule)), y = h.snd.snd.snd.snd.snd.fst ++ [(S346
 (row_reader.mk h.snd.fst h.snd.snd.fst)).fst] → ((y.length = y.length ∧ h.snd.snd.snd.snd.snd.snd.length = h.snd.snd.snd.snd.snd.snd.length) ∧ J
 (IntKind.i64.wrap (h.fst - (1 : Int)), u.flist, u.fbad, h.snd.snd.snd.fst, h.snd.snd.snd.snd.fst, y, h.snd.snd.snd.snd.snd.snd)) ∧ True) ∧ True) ∧ True) ∧ (PR
 (row_reader.mk h.snd.fst h.snd.snd.fst) ∧ ∀ (u : row_reader), u = (S346 (row_reader.mk h.snd.fst h.snd.snd.fst)).snd → ((h.snd.snd.snd.snd.snd.fst.length =
 h.snd.snd.snd.snd.snd.fst.length ∧ (h.snd.snd.snd.snd.snd.fst.length + [(S346 (row_reader.mk h.snd.fst h.snd.snd.fst)).fst].length) * nat_lit 48 ≤ nat_lit
 140737488355328) ∧ ∀ (y : List (api_Rule)), y = h.snd.snd.snd.snd.snd.fst ++ [(S346 (row_reader.mk h.snd.fst h.snd.snd.fst)).fst] → ((y.length = y.length ∧
 h.snd.snd.snd.snd.snd.snd.length = h.snd.snd.snd.snd.snd.snd.length) ∧ J (IntKind.i64.wrap (h.fst - (1 : Int)), u.flist, u.fbad, h.snd.snd.snd.fst,
 h.snd.snd.snd.snd.fst, y, h.snd.snd.snd.snd.snd.snd)) ∧ True) ∧ True) ∧ True else (h.snd.snd.snd.snd.snd.fst.length = h.snd.snd.snd.snd.snd.fst.length ∧
 h.snd.snd.snd.snd.snd.snd.length = h.snd.snd.snd.snd.snd.snd.length) ∧ LOOP (fun (h : List ByteArray × Bool × Int × Int × List api_Rule × List api_Rule) (J :
 List ByteArray × Bool × Int × Int × List api_Rule × List api_Rule → Prop) => bif decide ((6 : Int) ≤ (↑h.fst.length : Int)) && !h.snd.fst then ((PR
 (row_reader.mk h.fst h.snd.fst) ∧ ∀ (u : row_reader), u = (S346 (row_reader.mk h.fst h.snd.fst)).snd → ((h.snd.snd.snd.snd.snd.length =
 h.snd.snd.snd.snd.snd.length ∧ (h.snd.snd.snd.snd.snd.length + [(S346 (row_reader.mk h.fst h.snd.fst)).fst].length) * nat_lit 48 ≤ nat_lit 140737488355328) ∧
 ∀ (y : List (api_Rule)), y = h.snd.snd.snd.snd.snd ++ [(S346 (row_reader.mk h.fst h.snd.fst)).fst] → ((h.snd.snd.snd.snd.fst.length =
 h.snd.snd.snd.snd.fst.length ∧ y.length = y.length) ∧ J (u.flist, u.fbad, h.snd.snd.fst, h.snd.snd.snd.fst, h.snd.snd.snd.snd.fst, y)) ∧ True) ∧ True) ∧ True)
 ∧ (PR (row_reader.mk h.fst h.snd.fst) ∧ ∀ (u : row_reader), u = (S346 (row_reader.mk h.fst h.snd.fst)).snd → ((h.snd.snd.snd.snd.snd.length =
 h.snd.snd.snd.snd.snd.length ∧ (h.snd.snd.snd.snd.snd.length + [(S346 (row_reader.mk h.fst h.snd.fst)).fst].length) * nat_lit 48 ≤ nat_lit 140737488355328) ∧
 ∀ (y : List (api_Rule)), y = h.snd.snd.snd.snd.snd ++ [(S346 (row_reader.mk h.fst h.snd.fst)).fst] → ((h.snd.snd.snd.snd.fst.length =
 h.snd.snd.snd.snd.fst.length ∧ y.length = y.length) ∧ J (u.flist, u.fbad, h.snd.snd.fst, h.snd.snd.snd.fst, h.snd.snd.snd.snd.fst, y)) ∧ True) ∧ True) ∧ True
 else bif h.snd.fst then (api_PeerConf.mk (0 : Int) (0 : Int) [] [], false) = v else OkP (api_PeerConf.mk h.snd.snd.fst h.snd.snd.snd.fst h.snd.snd.snd.snd.fst
 h.snd.snd.snd.snd.snd) ∧ bif !(S322 (api_PeerConf.mk h.snd.snd.fst h.snd.snd.snd.fst h.snd.snd.snd.snd.fst h.snd.snd.snd.snd.snd)).toList == x0.toList then
 (api_PeerConf.mk (0 : Int) (0 : Int) [] [], false) = v else (api_PeerConf.mk h.snd.snd.fst h.snd.snd.snd.fst h.snd.snd.snd.snd.fst h.snd.snd.snd.snd.snd,
 true) = v) h.snd) ((S344 u_1).fst, u_2.flist, u_2.fbad, (S344 (row_reader.mk (S315 x0).fst (!(S315 x0).snd && true))).fst, (S344 u).fst, [], [])) := by
 kernel_rfl
end Go.Rx
/-! A peer out of its text. -/
namespace Go.Rx
open Go.Ab Go.L21
set_option linter.unusedVariables false
set_option maxRecDepth 100000
theorem t358 (r : row_reader) : (S358 r).2.flist = r.flist.drop 1 ∧ ((S358 r).2.fbad = false → r.fbad = false ∧ 1 ≤ r.flist.length) := by
  obtain ⟨l, b⟩ := r
  cases l with
  | nil => exact ⟨rfl, fun h => by cases h⟩
  | cons s l => exact ⟨rfl, fun h => ⟨h, by simp⟩⟩
theorem t344 (r : row_reader) : (S344 r).2.flist = r.flist.drop 1 ∧ ((S344 r).2.fbad = false → r.fbad = false ∧ 1 ≤ r.flist.length) := by
  rw [s344]
  refine ⟨(t358 r).1, fun h => (t358 r).2 ?_⟩
  have h : ((rText r).2.fbad || (S337 (rText r).1).2) = false := h
  rw [Bool.or_eq_false_iff] at h
  exact h.1
theorem t343 (r : row_reader) : (S343 r).2.flist = r.flist.drop 1 ∧ ((S343 r).2.fbad = false → r.fbad = false ∧ 1 ≤ r.flist.length) := by
  rw [s343]
  refine ⟨(t358 r).1, fun h => (t358 r).2 ?_⟩
  have h : ((rText r).2.fbad || (S357 (rText r).1 10 32).2) = false := h
  rw [Bool.or_eq_false_iff] at h
  exact h.1
theorem v344 (r : row_reader) : P333 (S344 r).1 := by rw [s344]; exact valI_ok _
theorem v343 (r : row_reader) : 0 ≤ (S343 r).1 ∧ (S343 r).1 ≤ 4294967295 := by rw [s343]; exact s357_range _
theorem t346 (r : row_reader) : (S346 r).2.flist = r.flist.drop 6 ∧ ((S346 r).2.fbad = false → r.fbad = false ∧ 6 ≤ r.flist.length) ∧ okRule (S346 r).1 := by
  have key : ∀ r1 r2 r3 r4 r5 : row_reader, r1 = (S343 r).2 → r2 = (S344 r1).2 → r3 = (S344 r2).2 → r4 = (S344 r3).2 → r5 = (S358 r4).2 → S346 r = (⟨⟨(S343 r).1, (S344 r1).1⟩, (S344 r2).1, (S344 r3).1, (S358 r4).1.toList == [49], (S344 r5).1⟩, (S344 r5).2) := by
    rintro _ _ _ _ _ rfl rfl rfl rfl rfl
    rw [r346, r342]
  have k := key _ _ _ _ _ rfl rfl rfl rfl rfl
  have a1 := t343 r
  generalize (S343 r).2 = r1 at *
  have a2 := t344 r1
  generalize e2 : (S344 r1).2 = r2 at *
  have a3 := t344 r2
  generalize e3 : (S344 r2).2 = r3 at *
  have a4 := t344 r3
  generalize e4 : (S344 r3).2 = r4 at *
  have a5 := t358 r4
  generalize e5 : (S358 r4).2 = r5 at *
  have a6 := t344 r5
  rw [k]
  refine ⟨?_, fun h => ?_, v343 _, v344 _, v344 _, v344 _, v344 _⟩
  · show (S344 r5).2.flist = _
    rw [a6.1, a5.1, a4.1, a3.1, a2.1, a1.1]
    simp only [List.drop_drop]
  · have b6 := a6.2 h
    have b5 := a5.2 b6.1
    have b4 := a4.2 b5.1
    have b3 := a3.2 b4.1
    have b2 := a2.2 b3.1
    have b1 := a1.2 b2.1
    refine ⟨b1.1, ?_⟩
    have := b6.2
    rw [a5.1, a4.1, a3.1, a2.1, a1.1] at this
    simp only [List.drop_drop, List.length_drop] at this
    omega
theorem splitN_size (n : Nat) (l : List UInt8) {t : List (List UInt8)} (h : splitN n l = some t) : ∀ y ∈ t, y.length ≤ l.length := by
  induction n generalizing l t with
  | zero => cases h; intro y hy; cases hy
  | succ n ih =>
    unfold splitN at h
    split at h
    · cases h; intro y hy; cases hy
    · split at h
      · cases h
      · rename_i x r hs
        cases hq : splitN n r with
        | none => rw [hq] at h; cases h
        | some u =>
          rw [hq] at h
          cases h
          have h1 := split1_lt hs
          intro y hy
          rcases List.mem_cons.1 hy with rfl | hy
          · rw [split1_is] at hs
            split at hs
            · cases hs
              rw [List.length_take, List.length_drop]; omega
            · cases hs
          · have := ih r hq y hy
            omega
theorem s315_size (x : ByteArray) : ∀ s ∈ (S315 x).1, s.size ≤ x.size := by
  unfold S315
  split
  · intro s hs; cases hs
  · rename_i t ht
    intro s hs
    obtain ⟨y, hy, rfl⟩ := List.mem_map.1 hs
    rw [size_bs]
    exact splitN_size _ _ ht y hy
theorem peer0 (p : api_PeerConf × row_reader) (s : ByteArray) : (match p with | (p, q) => bif q.fbad || !((S322 p).toList == s.toList) then ((⟨0, 0, [], []⟩, false) : api_PeerConf × Bool) else (p, true)) = bif p.2.fbad || !((S322 p.1).toList == s.toList) then (⟨0, 0, [], []⟩, false) else (p.1, true) := rfl
theorem readPeer_eq (r u u1 u2 : row_reader) (hu : u = (S344 r).2) (h1 : u1 = (S344 u).2) (h2 : u2 = (S344 u1).2) (X Y : List api_Rule × row_reader) (hX : inF (u2.flist.length + 1) (S344 u1).1 u2 = X) (hY : outF (X.2.flist.length + 1) X.2 = Y) : readPeer r = (⟨(S344 r).1, (S344 u).1, X.1, Y.1⟩, Y.2) := by
  have e1 : rNum r = ((S344 r).1, u) := by rw [n344, hu]
  have e2 : rNum u = ((S344 u).1, u1) := by rw [n344, h1]
  have e3 : rNum u1 = ((S344 u1).1, u2) := by rw [n344, h2]
  unfold readPeer
  rw [e1]; dsimp only
  rw [e2]; dsimp only
  rw [e3]; dsimp only
  rw [hX]
  obtain ⟨x1, x2⟩ := X
  dsimp only
  rw [hY]
theorem inF_go {k : Nat} {n : Int} {r : row_reader} (h : (decide (0 < n) && !r.fbad) = true) : inF (k + 1) n r = ((S346 r).1 :: (inF k (n - 1) (S346 r).2).1, (inF k (n - 1) (S346 r).2).2) := by
  rw [s346]
  show (match decide (0 < n) && !r.fbad with | true => _ | false => _) = _
  rw [h]
theorem inF_end {k : Nat} {n : Int} {r : row_reader} (h : (decide (0 < n) && !r.fbad) = false) : inF k n r = ([], r) := by
  cases k with
  | zero => rfl
  | succ k =>
  show (match decide (0 < n) && !r.fbad with | true => _ | false => _) = _
  rw [h]
theorem outF_go {k : Nat} {r : row_reader} (h : (decide (6 ≤ r.flist.length) && !r.fbad) = true) : outF (k + 1) r = ((S346 r).1 :: (outF k (S346 r).2).1, (outF k (S346 r).2).2) := by
  rw [s346]
  show (match decide (6 ≤ r.flist.length) && !r.fbad with | true => _ | false => _) = _
  rw [h]
theorem outF_end {k : Nat} {r : row_reader} (h : (decide (6 ≤ r.flist.length) && !r.fbad) = false) : outF k r = ([], r) := by
  cases k with
  | zero => rfl
  | succ k =>
  show (match decide (6 ≤ r.flist.length) && !r.fbad with | true => _ | false => _) = _
  rw [h]
def fuel (r : row_reader) : Nat := r.flist.length + (bif r.fbad then 0 else 1)
/-- The loop over the first rules. -/
def In1 (a b : Int) (X : List api_Rule × row_reader) (L0 : Nat) (y : Int × List ByteArray × Bool × Int × Int × List api_Rule × List api_Rule) : Prop :=
  ∃ n r ins k, y = (n, r.flist, r.fbad, a, b, ins, []) ∧ PR r ∧ P333 n ∧ fuel r ≤ k ∧ (ins ++ (inF k n r).1, (inF k n r).2) = X ∧ (r.fbad = false → 6 * ins.length + r.flist.length = L0) ∧ ins.length + r.flist.length ≤ L0 + (bif r.fbad then 1 else 0) ∧ ∀ x ∈ ins, okRule x
def In2 (a b : Int) (I : List api_Rule) (Y : List api_Rule × row_reader) (L0 : Nat) (y : List ByteArray × Bool × Int × Int × List api_Rule × List api_Rule) : Prop :=
  ∃ r outs k, y = (r.flist, r.fbad, a, b, I, outs) ∧ PR r ∧ fuel r ≤ k ∧ (outs ++ (outF k r).1, (outF k r).2) = Y ∧ (r.fbad = false → 6 * (I.length + outs.length) + r.flist.length = L0) ∧ outs.length + r.flist.length ≤ L0 + (bif r.fbad then 1 else 0) ∧ (∀ x ∈ I, okRule x) ∧ ∀ x ∈ outs, okRule x
theorem fuel_lt {r : row_reader} (hb : r.fbad = false) : fuel (S346 r).2 < fuel r := by
  obtain ⟨t1, t2, t3⟩ := t346 r
  have hlen : (S346 r).2.flist.length = r.flist.length - 6 := by rw [t1, List.length_drop]
  unfold fuel
  rw [hlen, hb]
  cases hq : (S346 r).2.fbad with
  | true => show _ + 0 < _ + 1; omega
  | false => have := (t2 hq).2; show _ + 1 < _ + 1; omega
theorem bif1 (b : Bool) : (bif b then 1 else 0) ≤ 1 := by cases b <;> decide
theorem step1 {a b n : Int} {X : List api_Rule × row_reader} {L0 k : Nat} {r : row_reader} {ins : List api_Rule} (hpr : PR r) (hn : P333 n) (hk : fuel r ≤ k) (hX : (ins ++ (inF k n r).1, (inF k n r).2) = X) (h6 : r.fbad = false → 6 * ins.length + r.flist.length = L0) (hl : ins.length + r.flist.length ≤ L0 + (bif r.fbad then 1 else 0)) (hok : ∀ x ∈ ins, okRule x) (hc : (decide (0 < n) && !r.fbad) = true) :
    In1 a b X L0 (IntKind.i64.wrap (n - 1), (S346 r).2.flist, (S346 r).2.fbad, a, b, ins ++ [(S346 r).1], []) := by
  have hc' := hc
  simp only [Bool.and_eq_true, decide_eq_true_eq, Bool.not_eq_true'] at hc
  obtain ⟨hn0, hb⟩ := hc
  obtain ⟨t1, t2, t3⟩ := t346 r
  have hlen : (S346 r).2.flist.length = r.flist.length - 6 := by rw [t1, List.length_drop]
  have hw : IntKind.i64.wrap (n - 1) = n - 1 := wrap64 (by unfold P333 at hn; omega)
  have hf := fuel_lt hb
  obtain ⟨k, rfl⟩ : ∃ j, k = j + 1 := ⟨k - 1, by omega⟩
  rw [inF_go hc'] at hX
  rw [hb] at hl
  have hl : ins.length + r.flist.length ≤ L0 + 0 := hl
  have h6 := h6 hb
  refine ⟨n - 1, (S346 r).2, ins ++ [(S346 r).1], k, by rw [hw], pr_rule hpr, by unfold P333 at hn ⊢; omega, by omega, ?_, fun h => ?_, ?_, ?_⟩
  · rw [← hX, List.append_assoc]; rfl
  · have := (t2 h).2
    rw [hlen, List.length_append]
    simp only [List.length_cons, List.length_nil]
    omega
  · rw [hlen, List.length_append]
    simp only [List.length_cons, List.length_nil]
    cases hq : (S346 r).2.fbad with
    | true => show _ ≤ L0 + 1; omega
    | false => have := (t2 hq).2; show _ ≤ L0 + 0; omega
  · intro x hx
    rcases List.mem_append.1 hx with hx | hx
    · exact hok x hx
    · rw [List.mem_singleton.1 hx]; exact t3
theorem step2 {a b : Int} {I : List api_Rule} {Y : List api_Rule × row_reader} {L0 k : Nat} {r : row_reader} {outs : List api_Rule} (hpr : PR r) (hk : fuel r ≤ k) (hX : (outs ++ (outF k r).1, (outF k r).2) = Y) (h6 : r.fbad = false → 6 * (I.length + outs.length) + r.flist.length = L0) (hl : outs.length + r.flist.length ≤ L0 + (bif r.fbad then 1 else 0)) (hI : ∀ x ∈ I, okRule x) (hok : ∀ x ∈ outs, okRule x) (hc : (decide (6 ≤ r.flist.length) && !r.fbad) = true) :
    In2 a b I Y L0 ((S346 r).2.flist, (S346 r).2.fbad, a, b, I, outs ++ [(S346 r).1]) := by
  have hc' := hc
  simp only [Bool.and_eq_true, decide_eq_true_eq, Bool.not_eq_true'] at hc
  obtain ⟨hn0, hb⟩ := hc
  obtain ⟨t1, t2, t3⟩ := t346 r
  have hlen : (S346 r).2.flist.length = r.flist.length - 6 := by rw [t1, List.length_drop]
  have hf := fuel_lt hb
  obtain ⟨k, rfl⟩ : ∃ j, k = j + 1 := ⟨k - 1, by omega⟩
  rw [outF_go hc'] at hX
  rw [hb] at hl
  have hl : outs.length + r.flist.length ≤ L0 + 0 := hl
  have h6 := h6 hb
  refine ⟨(S346 r).2, outs ++ [(S346 r).1], k, rfl, pr_rule hpr, by omega, ?_, fun h => ?_, ?_, hI, ?_⟩
  · rw [← hX, List.append_assoc]; rfl
  · rw [hlen, List.length_append]
    simp only [List.length_cons, List.length_nil]
    omega
  · rw [hlen, List.length_append]
    simp only [List.length_cons, List.length_nil]
    have := Nat.zero_le (bif (S346 r).2.fbad then 1 else 0)
    omega
  · intro x hx
    rcases List.mem_append.1 hx with hx | hx
    · exact hok x hx
    · rw [List.mem_singleton.1 hx]; exact t3
theorem run324 : RunC C324 9 24 [42, 4] [9] W324 [] := by
  intro (x : ByteArray) hx hp
  obtain ⟨hsz⟩ : IsP x := hp _ rfl
  have hlen := s315_len x
  have hsize := s315_size x
  refine of_eq (q324 x _) ?_
  rw [Bool.and_true]
  show _ ∧ _
  have hpr : PR ⟨(S315 x).1, !(S315 x).2⟩ := ⟨fun s hs => Nat.le_trans (hsize s hs) (by omega)⟩
  have hS : S324 x = rdPeer x := lk_eq _ _
  refine ⟨Nat.le_trans hsz (by decide), hpr, fun u hu => ?_⟩
  have hpu : PR u := hu ▸ pr_num hpr
  refine ⟨hpu, fun u1 h1 => ?_⟩
  have hp1 : PR u1 := h1 ▸ pr_num hpu
  refine ⟨hp1, fun u2 h2 => ?_⟩
  have hp2 : PR u2 := h2 ▸ pr_num hp1
  have hl2 : u2.flist.length ≤ 40000 := by
    rw [h2, (t344 u1).1, h1, (t344 u).1, hu, (t344 _).1]
    simp only [List.length_drop]
    omega
  generalize hX : inF (u2.flist.length + 1) (S344 u1).1 u2 = X
  generalize hY : outF (X.2.flist.length + 1) X.2 = Y
  have hread := readPeer_eq _ u u1 u2 hu h1 h2 X Y hX hY
  have hfin : S324 x = bif Y.2.fbad || !((S322 (⟨(S344 ⟨(S315 x).1, !(S315 x).2⟩).1, (S344 u).1, X.1, Y.1⟩)).toList == x.toList) then (⟨0, 0, [], []⟩, false) else (⟨(S344 ⟨(S315 x).1, !(S315 x).2⟩).1, (S344 u).1, X.1, Y.1⟩, true) := by
    rw [hS]; unfold rdPeer; rw [hread]
  have va := v344 ⟨(S315 x).1, !(S315 x).2⟩
  have vb := v344 u
  have vn := v344 u1
  show LOOP _ _
  revert hfin hX va vb vn
  generalize (S344 ⟨(S315 x).1, !(S315 x).2⟩).1 = a
  generalize (S344 u).1 = b
  generalize (S344 u1).1 = n0
  intro hX hfin va vb vn
  have f1 : ∀ r : row_reader, fuel r ≤ r.flist.length + 1 := fun r => by
    unfold fuel; cases r.fbad
    · exact Nat.le_refl _
    · exact Nat.le_succ _
  refine LOOP.of (In1 a b X u2.flist.length) (fun y => y.2.1.length + (bif y.2.2.1 then 0 else 1)) ⟨n0, u2, [], _, rfl, hp2, vn, f1 _, hX, fun _ => by simp, by simp, fun x hx => by cases hx⟩ ?_
  rintro _ ⟨n, r, ins, k, rfl, hpr, hn, hk, hX1, h6, hl, hok⟩ J hJ
  dsimp only
  have hb1 := bif1 r.fbad
  refine bif_of (fun hc => ?_) (fun hc => ?_)
  · have hs := step1 hpr hn hk hX1 h6 hl hok hc (a := a) (b := b)
    have hf := fuel_lt (r := r) (by simp only [Bool.and_eq_true, Bool.not_eq_true'] at hc; exact hc.2)
    have key : PR r ∧ ∀ w : row_reader, w = (S346 r).2 → ((ins.length = ins.length ∧ (ins.length + [(S346 r).1].length) * 48 ≤ 140737488355328) ∧ ∀ y : List api_Rule, y = ins ++ [(S346 r).1] → ((y.length = y.length ∧ ([] : List api_Rule).length = ([] : List api_Rule).length) ∧ J (IntKind.i64.wrap (n - 1), w.flist, w.fbad, a, b, y, [])) ∧ True) ∧ True := by
      refine ⟨hpr, fun w hw => ⟨⟨⟨rfl, ?_⟩, fun y hy => ⟨⟨⟨rfl, rfl⟩, ?_⟩, trivial⟩⟩, trivial⟩⟩
      · simp only [List.length_cons, List.length_nil]; omega
      · subst hw hy; exact hJ _ hs hf
    exact ⟨⟨key, trivial⟩, key, trivial⟩
  · rw [inF_end hc] at hX1
    have hX2 : X = (ins, r) := by rw [← hX1, List.append_nil]
    subst hX2
    refine ⟨⟨rfl, rfl⟩, LOOP.of (In2 a b ins Y u2.flist.length) (fun y => y.1.length + (bif y.2.1 then 0 else 1)) ⟨r, [], _, rfl, hpr, f1 _, hY, fun h => by simpa using h6 h, ?_, hok, fun x hx => by cases hx⟩ ?_⟩
    · simp only [List.length_nil]; omega
    rintro _ ⟨q, outs, k2, rfl, hpq, hk2, hY1, h62, hl2', hI, hok2⟩ J2 hJ2
    dsimp only
    have hb2 := bif1 q.fbad
    have e6 : decide ((6 : Int) ≤ (q.flist.length : Int)) = decide (6 ≤ q.flist.length) := decide_eq_decide.2 (by omega)
    rw [e6]
    refine bif_of (fun hc2 => ?_) (fun hc2 => ?_)
    · have hs := step2 hpq hk2 hY1 h62 hl2' hI hok2 hc2 (a := a) (b := b)
      have hf := fuel_lt (r := q) (by simp only [Bool.and_eq_true, Bool.not_eq_true'] at hc2; exact hc2.2)
      have key : PR q ∧ ∀ w : row_reader, w = (S346 q).2 → ((outs.length = outs.length ∧ (outs.length + [(S346 q).1].length) * 48 ≤ 140737488355328) ∧ ∀ y : List api_Rule, y = outs ++ [(S346 q).1] → ((ins.length = ins.length ∧ y.length = y.length) ∧ J2 (w.flist, w.fbad, a, b, ins, y)) ∧ True) ∧ True := by
        refine ⟨hpq, fun w hw => ⟨⟨⟨rfl, ?_⟩, fun y hy => ⟨⟨⟨rfl, rfl⟩, ?_⟩, trivial⟩⟩, trivial⟩⟩
        · simp only [List.length_cons, List.length_nil]; omega
        · subst hw hy; exact hJ2 _ hs hf
      exact ⟨⟨key, trivial⟩, key, trivial⟩
    · rw [outF_end hc2] at hY1
      have hY2 : Y = (outs, q) := by rw [← hY1, List.append_nil]
      subst hY2
      refine bif_of (fun hb => ?_) (fun hb => ⟨?_, ?_⟩)
      · show _ = S324 x
        rw [hfin, hb, Bool.true_or]; rfl
      · have h := h62 hb
        exact ⟨va, vb, by show ins.length ≤ 8000; omega, by show outs.length ≤ 8000; omega, hI, hok2⟩
      · rw [show S324 x = _ from hfin, hb, Bool.false_or]
        refine bif_of (fun h => ?_) (fun h => ?_)
        · show _ = (bif _ then _ else _)
          rw [h]; rfl
        · show _ = (bif _ then _ else _)
          rw [h]; rfl
theorem ok324 : Ok324 := con_ok (C := C324) (kok_cons ok315 (kok_cons ok322 (kok_cons ok344 (kok_cons ok346 kok_nil)))) mx7 (by kernel_rfl) run324
end Go.Rx
namespace Go.Rx
open Go.Ab Go.L21
set_option maxRecDepth 100000
set_option maxHeartbeats 20000000
set_option linter.unusedVariables false
/-- interregnum/interregnumlaw21.RowPeers -/
noncomputable def C306 : Cfg S := { P := P7, inl := [], K := [(13, ctr P7 [] [4] (none, S313)), (22, ctr P7 [42] [9] (fun x0 => (some (P322 x0), S322 x0))), (25, ctr P7 [42] [9] (fun x0 => (some (P325 x0), S325 x0))), (23, ctr P7 [42, 42] [4] (fun x0 x1 => (some (P323 x0 x1), S323 x0 x1))), (24, ctr P7 [9] [42, 4] (fun x0 => (some (P324 x0), S324 x0)))], ann := [] }
abbrev W306 : CT S [4] [42] := (fun x0 => (some (P306 x0), S306 x0))
abbrev Ok306 : Prop := ConOk P7 6 (ctr P7 [42] [4] W306) ∧ ConMon (ctr P7 [42] [4] W306)
theorem q306 (x0 : api_PeerConf) (v : HR S [4]) : (Xf C306 6 (emp 0) 6 (argsA C306 [⟨42, x0⟩]) (emp 0) (fun r _ => isR C306.P [4] v r) (fun _ _ => False)) =
 (bif decide ((50 : Int) < (↑x0.fIn.length : Int)) || decide ((50 : Int) < (↑x0.fOut.length : Int)) then true = v else OkP x0 ∧ IsP (S322 x0) ∧ OkP x0 ∧ bif
 (S322 x0).toList == (S325 x0).toList && (S324 (S322 x0)).snd then (OkP (S324 (S322 x0)).fst ∧ OkP x0) ∧ S323 (S324 (S322 x0)).fst x0 = v else false = v) := by
 kernel_rfl
end Go.Rx
/-! What a peer's text gives back. -/
namespace Go.Rx
open Go.Ab Go.L21
set_option linter.unusedVariables false
set_option maxRecDepth 100000
theorem valU_of {n : Int} (h : 0 ≤ n ∧ n ≤ 4294967295) : valU (S333 n) = n := by unfold valU; rw [s357_of h]
theorem valI_of {n : Int} (h : P333 n) : valI (S333 n) = n := by unfold valI; rw [s337_of h]
theorem b2_back (b : Bool) : ((b2 b).toList == [49]) = b := by
  cases b
  · show ((⟨#[48]⟩ : ByteArray).toList == [49]) = false
    rw [Lib.toList_data]; rfl
  · show ((⟨#[49]⟩ : ByteArray).toList == [49]) = true
    rw [Lib.toList_data]; rfl
theorem a344 {n : Int} (h : P333 n) (l : List ByteArray) (b : Bool) : S344 ⟨S333 n :: l, b⟩ = (n, ⟨l, b⟩) := by
  rw [s344, rText_cons]
  show (valI (S333 n), (⟨l, b || (S337 (S333 n)).2⟩ : row_reader)) = _
  rw [valI_of h, s337_of h, Bool.or_false]
theorem a343 {n : Int} (h : 0 ≤ n ∧ n ≤ 4294967295) (l : List ByteArray) (b : Bool) : S343 ⟨S333 n :: l, b⟩ = (n, ⟨l, b⟩) := by
  rw [s343, rText_cons]
  show (valU (S333 n), (⟨l, b || (S357 (S333 n) 10 32).2⟩ : row_reader)) = _
  rw [valU_of h, s357_of h, Bool.or_false]
theorem a346 {x : api_Rule} (h : okRule x) (l : List ByteArray) (b : Bool) : S346 ⟨ruleL x ++ l, b⟩ = (x, ⟨l, b⟩) := by
  obtain ⟨h1, h2, h3, h4, h5⟩ := h
  rw [r346, r342]
  show _ = (x, (⟨l, b⟩ : row_reader))
  rw [show (⟨ruleL x ++ l, b⟩ : row_reader) = ⟨S333 x.fPrefix.fAddr :: S333 x.fPrefix.fLen :: S333 x.fMin :: S333 x.fMax :: b2 x.fDeny :: S333 x.fPref :: l, b⟩ from rfl, a343 h1]
  dsimp only
  rw [a344 h2]; dsimp only
  rw [a344 h3]; dsimp only
  rw [a344 h4]; dsimp only
  rw [show S358 ⟨b2 x.fDeny :: S333 x.fPref :: l, b⟩ = (b2 x.fDeny, ⟨S333 x.fPref :: l, b⟩) from rfl]
  dsimp only
  rw [a344 h5, b2_back]
theorem inF_rules : ∀ (I : List api_Rule) (k : Nat) (l : List ByteArray), (∀ r ∈ I, okRule r) → I.length ≤ k → inF k (I.length : Int) ⟨rulesL I ++ l, false⟩ = (I, ⟨l, false⟩)
  | [], k, l, h, hk => inF_end rfl
  | x :: I, 0, l, h, hk => absurd hk (by simp)
  | x :: I, k + 1, l, h, hk => by
    have hk : I.length ≤ k := by simpa using hk
    have hc : (decide ((0 : Int) < ((x :: I).length : Int)) && !false) = true := by
      rw [Bool.not_false, Bool.and_true, decide_eq_true_eq]
      simp only [List.length_cons]; omega
    have e : (⟨rulesL (x :: I) ++ l, false⟩ : row_reader) = ⟨ruleL x ++ (rulesL I ++ l), false⟩ := by
      show (⟨(ruleL x ++ rulesL I) ++ l, false⟩ : row_reader) = _
      rw [List.append_assoc]
    rw [e, inF_go hc, a346 (h x List.mem_cons_self)]
    dsimp only
    rw [show (((x :: I).length : Nat) : Int) - 1 = (I.length : Int) by simp only [List.length_cons]; omega, inF_rules I k l (fun r hr => h r (List.mem_cons_of_mem _ hr)) hk]
theorem outF_rules : ∀ (I : List api_Rule) (k : Nat), (∀ r ∈ I, okRule r) → I.length ≤ k → outF k ⟨rulesL I, false⟩ = (I, ⟨[], false⟩)
  | [], k, h, hk => outF_end rfl
  | x :: I, 0, h, hk => absurd hk (by simp)
  | x :: I, k + 1, h, hk => by
    have hk : I.length ≤ k := by simpa using hk
    have e : (⟨rulesL (x :: I), false⟩ : row_reader) = ⟨ruleL x ++ rulesL I, false⟩ := rfl
    have hc : (decide (6 ≤ (⟨rulesL (x :: I), false⟩ : row_reader).flist.length) && !(⟨rulesL (x :: I), false⟩ : row_reader).fbad) = true := by
      show (decide (6 ≤ (rulesL (x :: I)).length) && !false) = true
      rw [Bool.not_false, Bool.and_true, decide_eq_true_eq, rules_len, List.length_cons]; omega
    rw [outF_go hc, e, a346 (h x List.mem_cons_self)]
    dsimp only
    rw [outF_rules I k (fun r hr => h r (List.mem_cons_of_mem _ hr)) hk]
theorem readPeer_peer {p : api_PeerConf} (h : okPeer p) : readPeer ⟨peerL p, false⟩ = (p, ⟨[], false⟩) := by
  obtain ⟨h1, h2, h3, h4, h5, h6⟩ := h
  have e : (⟨peerL p, false⟩ : row_reader) = ⟨S333 p.fNum :: S333 p.fAS :: S333 p.fIn.length :: (rulesL p.fIn ++ rulesL p.fOut), false⟩ := by
    show (⟨([S333 p.fNum, S333 p.fAS, S333 p.fIn.length] ++ rulesL p.fIn) ++ rulesL p.fOut, false⟩ : row_reader) = _
    rw [List.append_assoc]; rfl
  have hn : P333 (p.fIn.length : Int) := ⟨by omega, by omega⟩
  rw [e]
  refine (readPeer_eq _ _ _ _ rfl rfl rfl (p.fIn, ⟨rulesL p.fOut, false⟩) (p.fOut, ⟨[], false⟩) ?_ ?_).trans ?_
  · rw [a344 h1]; dsimp only
    rw [a344 h2]; dsimp only
    rw [a344 hn]; dsimp only
    refine inF_rules _ _ _ h5 ?_
    rw [List.length_append, rules_len]; omega
  · refine outF_rules _ _ h6 ?_
    show p.fOut.length ≤ (rulesL p.fOut).length + 1
    rw [rules_len]; omega
  · rw [a344 h1]; dsimp only
    rw [a344 h2]
theorem s324_peer {p : api_PeerConf} (h : okPeer p) : S324 (S322 p) = (p, true) := by
  have e : S315 (S322 p) = (peerL p, true) := split_texts (peerL p)
  show lk _ (rdPeer _) = _
  rw [lk_eq]
  unfold rdPeer
  rw [e]
  show (match readPeer ⟨peerL p, false⟩ with | (p', q) => bif q.fbad || !((S322 p').toList == (S322 p).toList) then ((⟨0, 0, [], []⟩, false) : api_PeerConf × Bool) else (p', true)) = _
  rw [readPeer_peer h]
  dsimp only
  rw [Bool.false_or, show ((S322 p).toList == (S322 p).toList) = true from beq_iff_eq.2 rfl]
  rfl
theorem isP_peer {p : api_PeerConf} (h : okPeer p) (h1 : p.fIn.length + p.fOut.length ≤ 140) : IsP (S322 p) := by
  obtain ⟨h1, h2, h3, h4, h5, h6⟩ := h
  refine ⟨?_⟩
  show (bs (textsL (peerL p))).size ≤ 40000
  rw [size_bs]
  have a1 := text_len h1
  have a2 := text_len h2
  have a3 := text_len (n := (p.fIn.length : Int)) ⟨by omega, by omega⟩
  have a4 := rules_texts _ h5
  have a5 := rules_texts _ h6
  unfold peerL
  rw [texts_app, texts_app, List.length_append, List.length_append]
  have : (textsL [S333 p.fNum, S333 p.fAS, S333 p.fIn.length]).length ≤ 129 := by
    simp only [textsL, List.flatMap_cons, List.flatMap_nil, List.length_append, List.length_nil]
    omega
  omega
theorem okP_of {p : api_PeerConf} (h : OkF p) (h1 : p.fIn.length ≤ 8000) (h2 : p.fOut.length ≤ 8000) : OkP p := by
  obtain ⟨a, b, _, _, e, f⟩ := h
  exact ⟨⟨a, b, h1, h2, e, f⟩⟩
theorem run306 : RunC C306 6 6 [4] [42] W306 [] := by
  intro (p : api_PeerConf) hx hp
  have hf : OkF p := hp _ rfl
  refine of_eq (q306 p _) (bif_of (fun _ => rfl) (fun hc => ?_))
  rw [Bool.or_eq_false_iff] at hc
  have c1 := of_decide_eq_false hc.1
  have c2 := of_decide_eq_false hc.2
  have hk : OkP p := okP_of hf (by omega) (by omega)
  obtain ⟨ho⟩ := hk
  have hk : OkP p := ⟨ho⟩
  have e : S315 (S322 p) = (peerL p, true) := split_texts (peerL p)
  have e := s324_peer ho
  refine ⟨hk, isP_peer ho (by omega), hk, bif_of (fun _ => ?_) (fun hn => ?_)⟩
  · rw [e]
    refine ⟨⟨hk, hk⟩, ?_⟩
    show S323 p p = true
    unfold S323
    rw [decide_eq_true rfl, Bool.true_and]
    exact beq_iff_eq.2 rfl
  · have : ((S322 p).toList == (S325 p).toList && (S324 (S322 p)).2) = true := by
      rw [e, Bool.and_true]; exact beq_iff_eq.2 rfl
    rw [this] at hn; cases hn
theorem ok306 : Ok306 := con_ok (C := C306) (kok_cons ok313 (kok_cons ok322 (kok_cons ok325 (kok_cons ok323 (kok_cons ok324 kok_nil))))) mx7 (by kernel_rfl) run306
end Go.Rx
namespace Go.Rx
open Go.Ab Go.L21
set_option maxRecDepth 100000
set_option maxHeartbeats 20000000
set_option linter.unusedVariables false
/-- interregnum/interregnumlaw21.RowUnlike -/
noncomputable def C305 : Cfg S := { P := P7, inl := [], K := [(19, ctr P7 [35] [9] (fun x0 => (some (P319 x0), S319 x0))), (13, ctr P7 [] [4] (none, S313)), (22, ctr P7 [42] [9] (fun x0 => (some (P322 x0), S322 x0))), (23, ctr P7 [42, 42] [4] (fun x0 x1 => (some (P323 x0 x1), S323 x0 x1)))], ann := [] }
abbrev W305 : CT S [4] [35, 35, 42, 42] := (fun x0 x1 x2 x3 => (some (P305 x0 x1 x2 x3), S305 x0 x1 x2 x3))
abbrev Ok305 : Prop := ConOk P7 5 (ctr P7 [35, 35, 42, 42] [4] W305) ∧ ConMon (ctr P7 [35, 35, 42, 42] [4] W305)
theorem q305 (x0 : api_Hop) (x1 : api_Hop) (x2 : api_PeerConf) (x3 : api_PeerConf) (v : HR S [4]) : (Xf C305 6 (emp 0) 5 (argsA C305 [⟨35, x0⟩, ⟨35, x1⟩, ⟨42,
 x2⟩, ⟨42, x3⟩]) (emp 0) (fun r _ => isR C305.P [4] v r) (fun _ _ => False)) = (bif decide ((100 : Int) < IntKind.i64.wrap (IntKind.i64.wrap (IntKind.i64.wrap
 ((↑x2.fIn.length : Int) + (↑x2.fOut.length : Int)) + (↑x3.fIn.length : Int)) + (↑x3.fOut.length : Int))) then true = v else (((0 : Int) ≤ x0.fPrefix.fAddr ∧
 x0.fPrefix.fAddr ≤ (4294967295 : Int)) ∧ ((-9223372036854775808 : Int) ≤ x0.fPrefix.fLen ∧ x0.fPrefix.fLen ≤ (9223372036854775807 : Int)) ∧ ((0 : Int) ≤
 x0.fNext ∧ x0.fNext ≤ (4294967295 : Int)) ∧ ((-9223372036854775808 : Int) ≤ x0.fPeer ∧ x0.fPeer ≤ (9223372036854775807 : Int)) ∧ (-9223372036854775808 : Int)
 ≤ x0.fStale ∧ x0.fStale ≤ (9223372036854775807 : Int)) ∧ (((0 : Int) ≤ x1.fPrefix.fAddr ∧ x1.fPrefix.fAddr ≤ (4294967295 : Int)) ∧ ((-9223372036854775808 :
 Int) ≤ x1.fPrefix.fLen ∧ x1.fPrefix.fLen ≤ (9223372036854775807 : Int)) ∧ ((0 : Int) ≤ x1.fNext ∧ x1.fNext ≤ (4294967295 : Int)) ∧ ((-9223372036854775808 :
 Int) ≤ x1.fPeer ∧ x1.fPeer ≤ (9223372036854775807 : Int)) ∧ (-9223372036854775808 : Int) ≤ x1.fStale ∧ x1.fStale ≤ (9223372036854775807 : Int)) ∧ bif decide
 (((S319 x0).toList == (S319 x1).toList) = (decide (x0.fPrefix.fAddr = x1.fPrefix.fAddr) && (decide (x0.fPrefix.fLen = x1.fPrefix.fLen) && true) && (decide
 (x0.fNext = x1.fNext) && (decide (x0.fPeer = x1.fPeer) && (decide (x0.fStale = x1.fStale) && true))))) then OkP x2 ∧ OkP x3 ∧ (OkP x2 ∧ OkP x3) ∧ decide
 (((S322 x2).toList == (S322 x3).toList) = S323 x2 x3) = v else false = v) := by kernel_rfl
end Go.Rx
/-! The law RowUnlike. -/
namespace Go.Rx
open Go.Ab Go.L21
set_option linter.unusedVariables false
set_option maxRecDepth 100000
theorem beq_texts {a b : List ByteArray} : ((S314 a).toList == (S314 b).toList) = true ↔ a = b := by
  constructor
  · intro h
    have h := beq_iff_eq.1 h
    rw [Lib.toList_data, Lib.toList_data] at h
    have e : S314 a = S314 b := congrArg bs h
    have h1 := split_texts a
    rw [e, split_texts b] at h1
    exact (Prod.mk.inj h1).1.symm
  · intro h; rw [h]; exact beq_iff_eq.2 rfl
theorem hop_inj {a b : api_Hop} (ha : okHop a) (hb : okHop b) (h : hopL a = hopL b) : a = b := by
  obtain ⟨a1, a2, a3, a4, a5⟩ := ha
  obtain ⟨b1, b2, b3, b4, b5⟩ := hb
  obtain ⟨⟨ap, al⟩, an, ar, at'⟩ := a
  obtain ⟨⟨bp, bl⟩, bn, br, bt⟩ := b
  unfold hopL at h
  simp only [List.cons.injEq, and_true] at h
  obtain ⟨e1, e2, e3, e4, e5⟩ := h
  have e1 : ap = bp := (valU_of a1).symm.trans ((congrArg valU e1).trans (valU_of b1))
  have e2 : al = bl := (valI_of a2).symm.trans ((congrArg valI e2).trans (valI_of b2))
  have e3 : an = bn := (valU_of a3).symm.trans ((congrArg valU e3).trans (valU_of b3))
  have e4 : ar = br := (valI_of a4).symm.trans ((congrArg valI e4).trans (valI_of b4))
  have e5 : at' = bt := (valI_of a5).symm.trans ((congrArg valI e5).trans (valI_of b5))
  rw [e1, e2, e3, e4, e5]
theorem run305 : RunC C305 6 5 [4] [35, 35, 42, 42] W305 [] := by
  intro (a : api_Hop) hx (b : api_Hop) hy (p : api_PeerConf) hz (q : api_PeerConf) hu hp
  obtain ⟨ha, hb, hp, hq⟩ : P305 a b p q := hp _ rfl
  obtain ⟨p1, p2, p3, p4, p5, p6⟩ := hp
  obtain ⟨q1, q2, q3, q4, q5, q6⟩ := hq
  refine of_eq (q305 a b p q _) (bif_of (fun _ => rfl) (fun hc => ?_))
  have hc := of_decide_eq_false hc
  rw [wrap64 (n := (p.fIn.length : Int) + (p.fOut.length : Int)) (by omega), wrap64 (n := (p.fIn.length : Int) + (p.fOut.length : Int) + (q.fIn.length : Int)) (by omega), wrap64 (by omega)] at hc
  have hP : OkP p := ⟨⟨p1, p2, by omega, by omega, p5, p6⟩⟩
  have hQ : OkP q := ⟨⟨q1, q2, by omega, by omega, q5, q6⟩⟩
  refine ⟨ha, hb, bif_of (fun _ => ⟨hP, hQ, ⟨hP, hQ⟩, ?_⟩) (fun hn => ?_)⟩
  · show decide (((S322 p).toList == (S322 q).toList) = S323 p q) = true
    apply decide_eq_true
    unfold S323
    show ((S322 p).toList == (S322 q).toList) = (decide (p.fIn.length = q.fIn.length) && (S322 p).toList == (S322 q).toList)
    cases h : ((S322 p).toList == (S322 q).toList) with
    | false => rw [Bool.and_false]
    | true =>
      have e : peerL p = peerL q := beq_texts.1 h
      have e3 : (peerL p)[2]? = (peerL q)[2]? := by rw [e]
      have e3 : some (S333 (p.fIn.length : Int)) = some (S333 (q.fIn.length : Int)) := e3
      have e4 : (p.fIn.length : Int) = (q.fIn.length : Int) := (valI_of (n := (p.fIn.length : Int)) ⟨by omega, by omega⟩).symm.trans ((congrArg valI (Option.some.inj e3)).trans (valI_of (n := (q.fIn.length : Int)) ⟨by omega, by omega⟩))
      rw [decide_eq_true (by omega), Bool.true_and]
  · exfalso
    have : decide (((S319 a).toList == (S319 b).toList) = (decide (a.fPrefix.fAddr = b.fPrefix.fAddr) && (decide (a.fPrefix.fLen = b.fPrefix.fLen) && true) && (decide (a.fNext = b.fNext) && (decide (a.fPeer = b.fPeer) && (decide (a.fStale = b.fStale) && true))))) = true := by
      apply decide_eq_true
      rw [Bool.eq_iff_iff]
      constructor
      · intro h
        have e := hop_inj ha hb (beq_texts.1 h)
        subst e
        simp
      · intro h
        simp only [Bool.and_eq_true, Bool.and_true, decide_eq_true_eq] at h
        obtain ⟨⟨e1, e2⟩, e3, e4, e5⟩ := h
        have : hopL a = hopL b := by unfold hopL; rw [e1, e2, e3, e4, e5]
        exact beq_texts.2 this
    rw [this] at hn; cases hn
theorem ok305 : Ok305 := by
  refine con_ok (C := C305) ?_ mx7 (by kernel_rfl) run305
  exact kok_cons ok319 (kok_cons ok313 (kok_cons ok322 (kok_cons ok323 kok_nil)))
end Go.Rx
