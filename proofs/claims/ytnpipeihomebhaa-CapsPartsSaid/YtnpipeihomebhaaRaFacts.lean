import Derived.Test.YtnpipeihomebhaaRaTy
import Derived.Test.YtnpipeihomebhaaProg
import Derived.KernelRfl
namespace Go.Proofs.Ytnpipeihomebhaa
open Go.Ab
set_option linter.unusedSimpArgs false
set_option linter.unusedVariables false
theorem ty3 : Ty Try.prog 3 false 1 := ⟨by kernel_rfl, by kernel_rfl⟩
theorem ty4 : Ty Try.prog 4 false 1 := ⟨by kernel_rfl, by kernel_rfl⟩
theorem ty5 : Ty Try.prog 5 false 1 := ⟨by kernel_rfl, by kernel_rfl⟩
theorem ty22 : Ty Try.prog 22 false 1 := ⟨by kernel_rfl, by kernel_rfl⟩
theorem ty24 : Ty Try.prog 24 true 8 := ⟨by kernel_rfl, by kernel_rfl⟩
theorem ty27 : Ty Try.prog 27 true 9 := ⟨by kernel_rfl, by kernel_rfl⟩
theorem ty29 : Ty Try.prog 29 true 12 := ⟨by kernel_rfl, by kernel_rfl⟩
theorem ty32 : Ty Try.prog 32 false 1 := ⟨by kernel_rfl, by kernel_rfl⟩
theorem ty34 : Ty Try.prog 34 true 4 := ⟨by kernel_rfl, by kernel_rfl⟩
theorem ty36 : Ty Try.prog 36 false 1 := ⟨by kernel_rfl, by kernel_rfl⟩
theorem ty38 : Ty Try.prog 38 true 3 := ⟨by kernel_rfl, by kernel_rfl⟩
theorem ty46 : Ty Try.prog 46 true 13 := ⟨by kernel_rfl, by kernel_rfl⟩
theorem ty58 : Ty Try.prog 58 true 9 := ⟨by kernel_rfl, by kernel_rfl⟩
theorem ty60 : Ty Try.prog 60 true 25 := ⟨by kernel_rfl, by kernel_rfl⟩
theorem fld24_0 : Fld Try.prog 24 0 0 false 1 := fld_mk Try.underlying24 rfl rfl ty3 (by decide)
theorem fld24_1 : Fld Try.prog 24 1 1 false 1 := fld_mk Try.underlying24 rfl rfl ty22 (by decide)
theorem fld24_3 : Fld Try.prog 24 3 3 false 1 := fld_mk Try.underlying24 rfl rfl ty3 (by decide)
theorem fld24_4 : Fld Try.prog 24 4 4 false 1 := fld_mk Try.underlying24 rfl rfl ty3 (by decide)
theorem fld24_5 : Fld Try.prog 24 5 5 false 1 := fld_mk Try.underlying24 rfl rfl ty3 (by decide)
theorem fld27_0 : Fld Try.prog 27 0 0 false 1 := fld_mk Try.underlying27 rfl rfl ty4 (by decide)
theorem fld27_1 : Fld Try.prog 27 1 1 false 1 := fld_mk Try.underlying27 rfl rfl ty3 (by decide)
theorem fld27_2 : Fld Try.prog 27 2 2 false 1 := fld_mk Try.underlying27 rfl rfl ty4 (by decide)
theorem fld27_3 : Fld Try.prog 27 3 3 false 1 := fld_mk Try.underlying27 rfl rfl ty4 (by decide)
theorem fld27_4 : Fld Try.prog 27 4 4 false 1 := fld_mk Try.underlying27 rfl rfl ty3 (by decide)
theorem fld27_5 : Fld Try.prog 27 5 5 false 1 := fld_mk Try.underlying27 rfl rfl ty4 (by decide)
theorem fld27_6 : Fld Try.prog 27 6 6 false 1 := fld_mk Try.underlying27 rfl rfl ty4 (by decide)
theorem fld27_7 : Fld Try.prog 27 7 7 false 1 := fld_mk Try.underlying27 rfl rfl ty4 (by decide)
theorem fld27_8 : Fld Try.prog 27 8 8 false 1 := fld_mk Try.underlying27 rfl rfl ty3 (by decide)
theorem fld29_0 : Fld Try.prog 29 0 0 false 1 := fld_mk Try.underlying29 rfl rfl ty3 (by decide)
theorem fld29_1 : Fld Try.prog 29 1 1 false 1 := fld_mk Try.underlying29 rfl rfl ty3 (by decide)
theorem fld29_2 : Fld Try.prog 29 2 2 false 1 := fld_mk Try.underlying29 rfl rfl ty22 (by decide)
theorem fld29_3 : Fld Try.prog 29 3 3 true 9 := fld_mk Try.underlying29 rfl rfl ty27 (by decide)
theorem fld34_1 : Fld Try.prog 34 1 1 false 1 := fld_mk Try.underlying34 rfl rfl ty3 (by decide)
theorem fld38_0 : Fld Try.prog 38 0 0 false 1 := fld_mk Try.underlying38 rfl rfl ty3 (by decide)
theorem fld38_1 : Fld Try.prog 38 1 1 false 1 := fld_mk Try.underlying38 rfl rfl ty3 (by decide)
theorem fld38_2 : Fld Try.prog 38 2 2 false 1 := fld_mk Try.underlying38 rfl rfl ty36 (by decide)
theorem fld46_0 : Fld Try.prog 46 0 0 false 1 := fld_mk Try.underlying46 rfl rfl ty3 (by decide)
theorem fld46_1 : Fld Try.prog 46 1 1 true 12 := fld_mk Try.underlying46 rfl rfl ty29 (by decide)
theorem fld60_0 : Fld Try.prog 60 0 0 false 1 := fld_mk Try.underlying60 rfl rfl ty3 (by decide)
theorem fld60_1 : Fld Try.prog 60 1 1 true 12 := fld_mk Try.underlying60 rfl rfl ty29 (by decide)
theorem bld24 : Bld Try.prog 24 [(0, 1), (1, 1), (2, 1), (3, 1), (4, 1), (5, 1), (6, 1), (7, 1)] [.int .i64 0, .int .u32 0, .int .u32 0, .int .i64 0, .int .i64 0, .int .i64 0, .int .i64 0, .int .i64 0] := bld_mk Try.underlying24 (z := .agg #[.int .i64 0, .int .u32 0, .int .u32 0, .int .i64 0, .int .i64 0, .int .i64 0, .int .i64 0, .int .i64 0]) (by kernel_rfl) (.cons rfl ty3 (.cons rfl ty22 (.cons rfl ty22 (.cons rfl ty3 (.cons rfl ty3 (.cons rfl ty3 (.cons rfl ty3 (.cons rfl ty3 (.nil)))))))))
theorem bld27 : Bld Try.prog 27 [(0, 1), (1, 1), (2, 1), (3, 1), (4, 1), (5, 1), (6, 1), (7, 1), (8, 1)] [.bool false, .int .i64 0, .bool false, .bool false, .int .i64 0, .bool false, .bool false, .bool false, .int .i64 0] := bld_mk Try.underlying27 (z := .agg #[.bool false, .int .i64 0, .bool false, .bool false, .int .i64 0, .bool false, .bool false, .bool false, .int .i64 0]) (by kernel_rfl) (.cons rfl ty4 (.cons rfl ty3 (.cons rfl ty4 (.cons rfl ty4 (.cons rfl ty3 (.cons rfl ty4 (.cons rfl ty4 (.cons rfl ty4 (.cons rfl ty3 (.nil))))))))))
theorem bld29 : Bld Try.prog 29 [(0, 1), (1, 1), (2, 1), (3, 9)] [.int .i64 0, .int .i64 0, .int .u32 0, .bool false, .int .i64 0, .bool false, .bool false, .int .i64 0, .bool false, .bool false, .bool false, .int .i64 0] := bld_mk Try.underlying29 (z := .agg #[.int .i64 0, .int .i64 0, .int .u32 0, .bool false, .int .i64 0, .bool false, .bool false, .int .i64 0, .bool false, .bool false, .bool false, .int .i64 0]) (by kernel_rfl) (.cons rfl ty3 (.cons rfl ty3 (.cons rfl ty22 (.cons rfl ty27 (.nil)))))
theorem bld34 : Bld Try.prog 34 [(0, 1), (1, 1), (2, 1), (3, 1)] [.int .i64 0, .int .i64 0, .slice none 0 0, .slice none 0 0] := bld_mk Try.underlying34 (z := .agg #[.int .i64 0, .int .i64 0, .slice none 0 0, .slice none 0 0]) (by kernel_rfl) (.cons rfl ty3 (.cons rfl ty3 (.cons rfl ty32 (.cons rfl ty32 (.nil)))))
theorem bld38 : Bld Try.prog 38 [(0, 1), (1, 1), (2, 1)] [.int .i64 0, .int .i64 0, .slice none 0 0] := bld_mk Try.underlying38 (z := .agg #[.int .i64 0, .int .i64 0, .slice none 0 0]) (by kernel_rfl) (.cons rfl ty3 (.cons rfl ty3 (.cons rfl ty36 (.nil))))
theorem bld46 : Bld Try.prog 46 [(0, 1), (1, 12)] [.int .i64 0, .int .i64 0, .int .i64 0, .int .u32 0, .bool false, .int .i64 0, .bool false, .bool false, .int .i64 0, .bool false, .bool false, .bool false, .int .i64 0] := bld_mk Try.underlying46 (z := .agg #[.int .i64 0, .int .i64 0, .int .i64 0, .int .u32 0, .bool false, .int .i64 0, .bool false, .bool false, .int .i64 0, .bool false, .bool false, .bool false, .int .i64 0]) (by kernel_rfl) (.cons rfl ty3 (.cons rfl ty29 (.nil)))
theorem bld60 : Bld Try.prog 60 [(0, 1), (1, 12), (13, 9), (22, 3)] [.int .i64 0, .int .i64 0, .int .i64 0, .int .u32 0, .bool false, .int .i64 0, .bool false, .bool false, .int .i64 0, .bool false, .bool false, .bool false, .int .i64 0, .slice none 0 0, .int .i64 0, .slice none 0 0, .int .u32 0, .int .i64 0, .int .i64 0, .slice none 0 0, .slice none 0 0, .slice none 0 0, .int .i64 0, .int .i64 0, .slice none 0 0] := bld_mk Try.underlying60 (z := .agg #[.int .i64 0, .int .i64 0, .int .i64 0, .int .u32 0, .bool false, .int .i64 0, .bool false, .bool false, .int .i64 0, .bool false, .bool false, .bool false, .int .i64 0, .slice none 0 0, .int .i64 0, .slice none 0 0, .int .u32 0, .int .i64 0, .int .i64 0, .slice none 0 0, .slice none 0 0, .slice none 0 0, .int .i64 0, .int .i64 0, .slice none 0 0]) (by kernel_rfl) (.cons rfl ty3 (.cons rfl ty29 (.cons rfl ty58 (.cons rfl ty38 (.nil)))))
def zv24 : Value := .agg #[.int .i64 0, .int .u32 0, .int .u32 0, .int .i64 0, .int .i64 0, .int .i64 0, .int .i64 0, .int .i64 0]
def zc24 : List PV := [.sc (.int .i64 0), .sc (.int .u32 0), .sc (.int .u32 0), .sc (.int .i64 0), .sc (.int .i64 0), .sc (.int .i64 0), .sc (.int .i64 0), .sc (.int .i64 0)]
theorem z24 : (Try.prog.info? 24).map (·.zero) = some (some (.agg #[.int .i64 0, .int .u32 0, .int .u32 0, .int .i64 0, .int .i64 0, .int .i64 0, .int .i64 0, .int .i64 0])) := by kernel_rfl
def zv27 : Value := .agg #[.bool false, .int .i64 0, .bool false, .bool false, .int .i64 0, .bool false, .bool false, .bool false, .int .i64 0]
def zc27 : List PV := [.sc (.bool false), .sc (.int .i64 0), .sc (.bool false), .sc (.bool false), .sc (.int .i64 0), .sc (.bool false), .sc (.bool false), .sc (.bool false), .sc (.int .i64 0)]
theorem z27 : (Try.prog.info? 27).map (·.zero) = some (some (.agg #[.bool false, .int .i64 0, .bool false, .bool false, .int .i64 0, .bool false, .bool false, .bool false, .int .i64 0])) := by kernel_rfl
def zv29 : Value := .agg #[.int .i64 0, .int .i64 0, .int .u32 0, .bool false, .int .i64 0, .bool false, .bool false, .int .i64 0, .bool false, .bool false, .bool false, .int .i64 0]
def zc29 : List PV := [.sc (.int .i64 0), .sc (.int .i64 0), .sc (.int .u32 0), .sc (.bool false), .sc (.int .i64 0), .sc (.bool false), .sc (.bool false), .sc (.int .i64 0), .sc (.bool false), .sc (.bool false), .sc (.bool false), .sc (.int .i64 0)]
theorem z29 : (Try.prog.info? 29).map (·.zero) = some (some (.agg #[.int .i64 0, .int .i64 0, .int .u32 0, .bool false, .int .i64 0, .bool false, .bool false, .int .i64 0, .bool false, .bool false, .bool false, .int .i64 0])) := by kernel_rfl
def zv38 : Value := .agg #[.int .i64 0, .int .i64 0, .slice none 0 0]
def zc38 : List PV := [.sc (.int .i64 0), .sc (.int .i64 0), .sc (.slice none 0 0)]
theorem z38 : (Try.prog.info? 38).map (·.zero) = some (some (.agg #[.int .i64 0, .int .i64 0, .slice none 0 0])) := by kernel_rfl
def zv46 : Value := .agg #[.int .i64 0, .int .i64 0, .int .i64 0, .int .u32 0, .bool false, .int .i64 0, .bool false, .bool false, .int .i64 0, .bool false, .bool false, .bool false, .int .i64 0]
def zc46 : List PV := [.sc (.int .i64 0), .sc (.int .i64 0), .sc (.int .i64 0), .sc (.int .u32 0), .sc (.bool false), .sc (.int .i64 0), .sc (.bool false), .sc (.bool false), .sc (.int .i64 0), .sc (.bool false), .sc (.bool false), .sc (.bool false), .sc (.int .i64 0)]
theorem z46 : (Try.prog.info? 46).map (·.zero) = some (some (.agg #[.int .i64 0, .int .i64 0, .int .i64 0, .int .u32 0, .bool false, .int .i64 0, .bool false, .bool false, .int .i64 0, .bool false, .bool false, .bool false, .int .i64 0])) := by kernel_rfl
theorem el36 : Elt Try.prog 36 5 1 1 := ⟨Try.underlying36, by kernel_rfl, by decide⟩
theorem el80 : Elt Try.prog 80 3 1 8 := ⟨Try.underlying80, by kernel_rfl, by decide⟩
theorem el81 : Elt Try.prog 81 36 1 24 := ⟨Try.underlying81, by kernel_rfl, by decide⟩
theorem eqv27 (d : Nat) (x y : api_Caps) (w : World) : (Op.equalIn (d + 2) 27 (.agg x.vals.toArray) (.agg y.vals.toArray)).run Try.prog w = .ok (decide (x = y)) w := by
  refine eq_struct Try.underlying27 (by kernel_rfl) (eqf_c rfl ty4 rfl rfl rfl rfl rfl rfl (eq_bool Try.underlying4) (eqf_c rfl ty3 rfl rfl rfl rfl rfl rfl (eq_int Try.underlying3) (eqf_c rfl ty4 rfl rfl rfl rfl rfl rfl (eq_bool Try.underlying4) (eqf_c rfl ty4 rfl rfl rfl rfl rfl rfl (eq_bool Try.underlying4) (eqf_c rfl ty3 rfl rfl rfl rfl rfl rfl (eq_int Try.underlying3) (eqf_c rfl ty4 rfl rfl rfl rfl rfl rfl (eq_bool Try.underlying4) (eqf_c rfl ty4 rfl rfl rfl rfl rfl rfl (eq_bool Try.underlying4) (eqf_c rfl ty4 rfl rfl rfl rfl rfl rfl (eq_bool Try.underlying4) (eqf_c rfl ty3 rfl rfl rfl rfl rfl rfl (eq_int Try.underlying3) eqf_nil))))))))) ?_
  cases x; cases y
  rw [Bool.eq_iff_iff]
  simp
theorem eqg27 : Program.eqGuardType Try.prog (Program.depth Try.prog) 27 = false := by kernel_rfl
theorem eqv29 (d : Nat) (x y : api_Open) (w : World) : (Op.equalIn (d + 3) 29 (.agg x.vals.toArray) (.agg y.vals.toArray)).run Try.prog w = .ok (decide (x = y)) w := by
  refine eq_struct Try.underlying29 (by kernel_rfl) (eqf_c rfl ty3 rfl rfl rfl rfl rfl rfl (eq_int Try.underlying3) (eqf_c rfl ty3 rfl rfl rfl rfl rfl rfl (eq_int Try.underlying3) (eqf_c rfl ty22 rfl rfl rfl rfl rfl rfl (eq_int Try.underlying22) (eqf_c rfl ty27 rfl rfl rfl rfl rfl rfl (eqv27 (d + 0) x.fCaps y.fCaps w) eqf_nil)))) ?_
  cases x; cases y
  rw [Bool.eq_iff_iff]
  simp
theorem eqg29 : Program.eqGuardType Try.prog (Program.depth Try.prog) 29 = false := by kernel_rfl
theorem eqv46 (d : Nat) (x y : peer_Peer) (w : World) : (Op.equalIn (d + 4) 46 (.agg x.vals.toArray) (.agg y.vals.toArray)).run Try.prog w = .ok (decide (x = y)) w := by
  refine eq_struct Try.underlying46 (by kernel_rfl) (eqf_c rfl ty3 rfl rfl rfl rfl rfl rfl (eq_int Try.underlying3) (eqf_c rfl ty29 rfl rfl rfl rfl rfl rfl (eqv29 (d + 0) x.fTheirs y.fTheirs w) eqf_nil)) ?_
  cases x; cases y
  rw [Bool.eq_iff_iff]
  simp
theorem eqg46 : Program.eqGuardType Try.prog (Program.depth Try.prog) 46 = false := by kernel_rfl

theorem rd4 : Reads Try.prog 4 eB.pv okB := reads_bool Try.underlying4
theorem rd5 : Reads Try.prog 5 (eI .u8).pv (okI .u8) := reads_int Try.underlying5
theorem rd3 : Reads Try.prog 3 (eI .i64).pv (okI .i64) := reads_int Try.underlying3
theorem rd22 : Reads Try.prog 22 (eI .u32).pv (okI .u32) := reads_int Try.underlying22
theorem cells3 : Program.cellsOf Try.prog 3 = 1 := by kernel_rfl
theorem cells22 : Program.cellsOf Try.prog 22 = 1 := by kernel_rfl
theorem cells24 : Program.cellsOf Try.prog 24 = 8 := by kernel_rfl
theorem rd24 : Reads Try.prog 24 api_Config.cells api_Config.ok := by
  intro H enc w fuel cs d p h hw
  obtain ⟨hl, n, hf⟩ := trod_struct Try.underlying24 h hw
  rw [cells24] at hl
  obtain ⟨d0, p0, t0, w0⟩ := hf 0 _ rfl
  obtain ⟨x0, r0, k0⟩ := rd3 H enc w n _ d0 p0 t0 w0
  change RepL noT (gh (immOf w)) _ (List.take (Program.cellsOf Try.prog 3) (List.drop 0 cs)) at r0
  rw [cells3] at r0
  obtain ⟨d1, p1, t1, w1⟩ := hf 1 _ rfl
  obtain ⟨x1, r1, k1⟩ := rd22 H enc w n _ d1 p1 t1 w1
  change RepL noT (gh (immOf w)) _ (List.take (Program.cellsOf Try.prog 22) (List.drop 1 cs)) at r1
  rw [cells22] at r1
  obtain ⟨d2, p2, t2, w2⟩ := hf 2 _ rfl
  obtain ⟨x2, r2, k2⟩ := rd22 H enc w n _ d2 p2 t2 w2
  change RepL noT (gh (immOf w)) _ (List.take (Program.cellsOf Try.prog 22) (List.drop 2 cs)) at r2
  rw [cells22] at r2
  obtain ⟨d3, p3, t3, w3⟩ := hf 3 _ rfl
  obtain ⟨x3, r3, k3⟩ := rd3 H enc w n _ d3 p3 t3 w3
  change RepL noT (gh (immOf w)) _ (List.take (Program.cellsOf Try.prog 3) (List.drop 3 cs)) at r3
  rw [cells3] at r3
  obtain ⟨d4, p4, t4, w4⟩ := hf 4 _ rfl
  obtain ⟨x4, r4, k4⟩ := rd3 H enc w n _ d4 p4 t4 w4
  change RepL noT (gh (immOf w)) _ (List.take (Program.cellsOf Try.prog 3) (List.drop 4 cs)) at r4
  rw [cells3] at r4
  obtain ⟨d5, p5, t5, w5⟩ := hf 5 _ rfl
  obtain ⟨x5, r5, k5⟩ := rd3 H enc w n _ d5 p5 t5 w5
  change RepL noT (gh (immOf w)) _ (List.take (Program.cellsOf Try.prog 3) (List.drop 5 cs)) at r5
  rw [cells3] at r5
  obtain ⟨d6, p6, t6, w6⟩ := hf 6 _ rfl
  obtain ⟨x6, r6, k6⟩ := rd3 H enc w n _ d6 p6 t6 w6
  change RepL noT (gh (immOf w)) _ (List.take (Program.cellsOf Try.prog 3) (List.drop 6 cs)) at r6
  rw [cells3] at r6
  obtain ⟨d7, p7, t7, w7⟩ := hf 7 _ rfl
  obtain ⟨x7, r7, k7⟩ := rd3 H enc w n _ d7 p7 t7 w7
  change RepL noT (gh (immOf w)) _ (List.take (Program.cellsOf Try.prog 3) (List.drop 7 cs)) at r7
  rw [cells3] at r7
  exact ⟨⟨x0, x1, x2, x3, x4, x5, x6, x7⟩, (repL_chain (o := 0) (n := 1) (m := 1) r0 (repL_chain (o := 1) (n := 1) (m := 2) r1 (repL_chain (o := 2) (n := 1) (m := 3) r2 (repL_chain (o := 3) (n := 1) (m := 4) r3 (repL_chain (o := 4) (n := 1) (m := 5) r4 (repL_chain (o := 5) (n := 1) (m := 6) r5 (repL_chain (o := 6) (n := 1) (m := 7) r6 (repL_chain (o := 7) (n := 1) (m := 8) r7 (repL_end hl) rfl) rfl) rfl) rfl) rfl) rfl) rfl) rfl), k0, k1, k2, k3, k4, k5, k6, k7⟩
theorem cells4 : Program.cellsOf Try.prog 4 = 1 := by kernel_rfl
theorem cells27 : Program.cellsOf Try.prog 27 = 9 := by kernel_rfl
theorem rd27 : Reads Try.prog 27 api_Caps.cells api_Caps.ok := by
  intro H enc w fuel cs d p h hw
  obtain ⟨hl, n, hf⟩ := trod_struct Try.underlying27 h hw
  rw [cells27] at hl
  obtain ⟨d0, p0, t0, w0⟩ := hf 0 _ rfl
  obtain ⟨x0, r0, k0⟩ := rd4 H enc w n _ d0 p0 t0 w0
  change RepL noT (gh (immOf w)) _ (List.take (Program.cellsOf Try.prog 4) (List.drop 0 cs)) at r0
  rw [cells4] at r0
  obtain ⟨d1, p1, t1, w1⟩ := hf 1 _ rfl
  obtain ⟨x1, r1, k1⟩ := rd3 H enc w n _ d1 p1 t1 w1
  change RepL noT (gh (immOf w)) _ (List.take (Program.cellsOf Try.prog 3) (List.drop 1 cs)) at r1
  rw [cells3] at r1
  obtain ⟨d2, p2, t2, w2⟩ := hf 2 _ rfl
  obtain ⟨x2, r2, k2⟩ := rd4 H enc w n _ d2 p2 t2 w2
  change RepL noT (gh (immOf w)) _ (List.take (Program.cellsOf Try.prog 4) (List.drop 2 cs)) at r2
  rw [cells4] at r2
  obtain ⟨d3, p3, t3, w3⟩ := hf 3 _ rfl
  obtain ⟨x3, r3, k3⟩ := rd4 H enc w n _ d3 p3 t3 w3
  change RepL noT (gh (immOf w)) _ (List.take (Program.cellsOf Try.prog 4) (List.drop 3 cs)) at r3
  rw [cells4] at r3
  obtain ⟨d4, p4, t4, w4⟩ := hf 4 _ rfl
  obtain ⟨x4, r4, k4⟩ := rd3 H enc w n _ d4 p4 t4 w4
  change RepL noT (gh (immOf w)) _ (List.take (Program.cellsOf Try.prog 3) (List.drop 4 cs)) at r4
  rw [cells3] at r4
  obtain ⟨d5, p5, t5, w5⟩ := hf 5 _ rfl
  obtain ⟨x5, r5, k5⟩ := rd4 H enc w n _ d5 p5 t5 w5
  change RepL noT (gh (immOf w)) _ (List.take (Program.cellsOf Try.prog 4) (List.drop 5 cs)) at r5
  rw [cells4] at r5
  obtain ⟨d6, p6, t6, w6⟩ := hf 6 _ rfl
  obtain ⟨x6, r6, k6⟩ := rd4 H enc w n _ d6 p6 t6 w6
  change RepL noT (gh (immOf w)) _ (List.take (Program.cellsOf Try.prog 4) (List.drop 6 cs)) at r6
  rw [cells4] at r6
  obtain ⟨d7, p7, t7, w7⟩ := hf 7 _ rfl
  obtain ⟨x7, r7, k7⟩ := rd4 H enc w n _ d7 p7 t7 w7
  change RepL noT (gh (immOf w)) _ (List.take (Program.cellsOf Try.prog 4) (List.drop 7 cs)) at r7
  rw [cells4] at r7
  obtain ⟨d8, p8, t8, w8⟩ := hf 8 _ rfl
  obtain ⟨x8, r8, k8⟩ := rd3 H enc w n _ d8 p8 t8 w8
  change RepL noT (gh (immOf w)) _ (List.take (Program.cellsOf Try.prog 3) (List.drop 8 cs)) at r8
  rw [cells3] at r8
  exact ⟨⟨x0, x1, x2, x3, x4, x5, x6, x7, x8⟩, (repL_chain (o := 0) (n := 1) (m := 1) r0 (repL_chain (o := 1) (n := 1) (m := 2) r1 (repL_chain (o := 2) (n := 1) (m := 3) r2 (repL_chain (o := 3) (n := 1) (m := 4) r3 (repL_chain (o := 4) (n := 1) (m := 5) r4 (repL_chain (o := 5) (n := 1) (m := 6) r5 (repL_chain (o := 6) (n := 1) (m := 7) r6 (repL_chain (o := 7) (n := 1) (m := 8) r7 (repL_chain (o := 8) (n := 1) (m := 9) r8 (repL_end hl) rfl) rfl) rfl) rfl) rfl) rfl) rfl) rfl) rfl), k0, k1, k2, k3, k4, k5, k6, k7, k8⟩
theorem cells29 : Program.cellsOf Try.prog 29 = 12 := by kernel_rfl
theorem rd29 : Reads Try.prog 29 api_Open.cells api_Open.ok := by
  intro H enc w fuel cs d p h hw
  obtain ⟨hl, n, hf⟩ := trod_struct Try.underlying29 h hw
  rw [cells29] at hl
  obtain ⟨d0, p0, t0, w0⟩ := hf 0 _ rfl
  obtain ⟨x0, r0, k0⟩ := rd3 H enc w n _ d0 p0 t0 w0
  change RepL noT (gh (immOf w)) _ (List.take (Program.cellsOf Try.prog 3) (List.drop 0 cs)) at r0
  rw [cells3] at r0
  obtain ⟨d1, p1, t1, w1⟩ := hf 1 _ rfl
  obtain ⟨x1, r1, k1⟩ := rd3 H enc w n _ d1 p1 t1 w1
  change RepL noT (gh (immOf w)) _ (List.take (Program.cellsOf Try.prog 3) (List.drop 1 cs)) at r1
  rw [cells3] at r1
  obtain ⟨d2, p2, t2, w2⟩ := hf 2 _ rfl
  obtain ⟨x2, r2, k2⟩ := rd22 H enc w n _ d2 p2 t2 w2
  change RepL noT (gh (immOf w)) _ (List.take (Program.cellsOf Try.prog 22) (List.drop 2 cs)) at r2
  rw [cells22] at r2
  obtain ⟨d3, p3, t3, w3⟩ := hf 3 _ rfl
  obtain ⟨x3, r3, k3⟩ := rd27 H enc w n _ d3 p3 t3 w3
  change RepL noT (gh (immOf w)) _ (List.take (Program.cellsOf Try.prog 27) (List.drop 3 cs)) at r3
  rw [cells27] at r3
  exact ⟨⟨x0, x1, x2, x3⟩, (repL_chain (o := 0) (n := 1) (m := 1) r0 (repL_chain (o := 1) (n := 1) (m := 2) r1 (repL_chain (o := 2) (n := 1) (m := 3) r2 (repL_chain (o := 3) (n := 9) (m := 12) r3 (repL_end hl) rfl) rfl) rfl) rfl), k0, k1, k2, k3⟩
theorem cells106 : Program.cellsOf Try.prog 106 = 2 := by kernel_rfl
theorem rd106 : Reads Try.prog 106 api_Prefix.cells api_Prefix.ok := by
  intro H enc w fuel cs d p h hw
  obtain ⟨hl, n, hf⟩ := trod_struct Try.underlying106 h hw
  rw [cells106] at hl
  obtain ⟨d0, p0, t0, w0⟩ := hf 0 _ rfl
  obtain ⟨x0, r0, k0⟩ := rd22 H enc w n _ d0 p0 t0 w0
  change RepL noT (gh (immOf w)) _ (List.take (Program.cellsOf Try.prog 22) (List.drop 0 cs)) at r0
  rw [cells22] at r0
  obtain ⟨d1, p1, t1, w1⟩ := hf 1 _ rfl
  obtain ⟨x1, r1, k1⟩ := rd3 H enc w n _ d1 p1 t1 w1
  change RepL noT (gh (immOf w)) _ (List.take (Program.cellsOf Try.prog 3) (List.drop 1 cs)) at r1
  rw [cells3] at r1
  exact ⟨⟨x0, x1⟩, (repL_chain (o := 0) (n := 1) (m := 1) r0 (repL_chain (o := 1) (n := 1) (m := 2) r1 (repL_end hl) rfl) rfl), k0, k1⟩
theorem cells108 : Program.cellsOf Try.prog 108 = 6 := by kernel_rfl
theorem rd108 : Reads Try.prog 108 api_Rule.cells api_Rule.ok := by
  intro H enc w fuel cs d p h hw
  obtain ⟨hl, n, hf⟩ := trod_struct Try.underlying108 h hw
  rw [cells108] at hl
  obtain ⟨d0, p0, t0, w0⟩ := hf 0 _ rfl
  obtain ⟨x0, r0, k0⟩ := rd106 H enc w n _ d0 p0 t0 w0
  change RepL noT (gh (immOf w)) _ (List.take (Program.cellsOf Try.prog 106) (List.drop 0 cs)) at r0
  rw [cells106] at r0
  obtain ⟨d1, p1, t1, w1⟩ := hf 1 _ rfl
  obtain ⟨x1, r1, k1⟩ := rd3 H enc w n _ d1 p1 t1 w1
  change RepL noT (gh (immOf w)) _ (List.take (Program.cellsOf Try.prog 3) (List.drop 2 cs)) at r1
  rw [cells3] at r1
  obtain ⟨d2, p2, t2, w2⟩ := hf 2 _ rfl
  obtain ⟨x2, r2, k2⟩ := rd3 H enc w n _ d2 p2 t2 w2
  change RepL noT (gh (immOf w)) _ (List.take (Program.cellsOf Try.prog 3) (List.drop 3 cs)) at r2
  rw [cells3] at r2
  obtain ⟨d3, p3, t3, w3⟩ := hf 3 _ rfl
  obtain ⟨x3, r3, k3⟩ := rd4 H enc w n _ d3 p3 t3 w3
  change RepL noT (gh (immOf w)) _ (List.take (Program.cellsOf Try.prog 4) (List.drop 4 cs)) at r3
  rw [cells4] at r3
  obtain ⟨d4, p4, t4, w4⟩ := hf 4 _ rfl
  obtain ⟨x4, r4, k4⟩ := rd3 H enc w n _ d4 p4 t4 w4
  change RepL noT (gh (immOf w)) _ (List.take (Program.cellsOf Try.prog 3) (List.drop 5 cs)) at r4
  rw [cells3] at r4
  exact ⟨⟨x0, x1, x2, x3, x4⟩, (repL_chain (o := 0) (n := 2) (m := 2) r0 (repL_chain (o := 2) (n := 1) (m := 3) r1 (repL_chain (o := 3) (n := 1) (m := 4) r2 (repL_chain (o := 4) (n := 1) (m := 5) r3 (repL_chain (o := 5) (n := 1) (m := 6) r4 (repL_end hl) rfl) rfl) rfl) rfl) rfl), k0, k1, k2, k3, k4⟩
theorem rd32 : Reads Try.prog 32 (eL api_Rule.enc).pv (okL api_Rule.ok) := reads_slice (E := api_Rule.enc) Try.underlying32 (by kernel_rfl) (of_decide_eq_true (by kernel_rfl)) (by decide) rd108
theorem cells32 : Program.cellsOf Try.prog 32 = 1 := by kernel_rfl
theorem cells34 : Program.cellsOf Try.prog 34 = 4 := by kernel_rfl
theorem rd34 : Reads Try.prog 34 api_PeerConf.cells api_PeerConf.ok := by
  intro H enc w fuel cs d p h hw
  obtain ⟨hl, n, hf⟩ := trod_struct Try.underlying34 h hw
  rw [cells34] at hl
  obtain ⟨d0, p0, t0, w0⟩ := hf 0 _ rfl
  obtain ⟨x0, r0, k0⟩ := rd3 H enc w n _ d0 p0 t0 w0
  change RepL noT (gh (immOf w)) _ (List.take (Program.cellsOf Try.prog 3) (List.drop 0 cs)) at r0
  rw [cells3] at r0
  obtain ⟨d1, p1, t1, w1⟩ := hf 1 _ rfl
  obtain ⟨x1, r1, k1⟩ := rd3 H enc w n _ d1 p1 t1 w1
  change RepL noT (gh (immOf w)) _ (List.take (Program.cellsOf Try.prog 3) (List.drop 1 cs)) at r1
  rw [cells3] at r1
  obtain ⟨d2, p2, t2, w2⟩ := hf 2 _ rfl
  obtain ⟨x2, r2, k2⟩ := rd32 H enc w n _ d2 p2 t2 w2
  change RepL noT (gh (immOf w)) _ (List.take (Program.cellsOf Try.prog 32) (List.drop 2 cs)) at r2
  rw [cells32] at r2
  obtain ⟨d3, p3, t3, w3⟩ := hf 3 _ rfl
  obtain ⟨x3, r3, k3⟩ := rd32 H enc w n _ d3 p3 t3 w3
  change RepL noT (gh (immOf w)) _ (List.take (Program.cellsOf Try.prog 32) (List.drop 3 cs)) at r3
  rw [cells32] at r3
  exact ⟨⟨x0, x1, x2, x3⟩, (repL_chain (o := 0) (n := 1) (m := 1) r0 (repL_chain (o := 1) (n := 1) (m := 2) r1 (repL_chain (o := 2) (n := 1) (m := 3) r2 (repL_chain (o := 3) (n := 1) (m := 4) r3 (repL_end hl) rfl) rfl) rfl) rfl), k0, k1, k2, k3⟩
theorem rd36 : Reads Try.prog 36 (eL (eI .u8)).pv (okL (okI .u8)) := reads_slice (E := (eI .u8)) Try.underlying36 (by kernel_rfl) (of_decide_eq_true (by kernel_rfl)) (by decide) rd5
theorem rd51 : Reads Try.prog 51 (eL api_Prefix.enc).pv (okL api_Prefix.ok) := reads_slice (E := api_Prefix.enc) Try.underlying51 (by kernel_rfl) (of_decide_eq_true (by kernel_rfl)) (by decide) rd106
theorem rd80 : Reads Try.prog 80 (eL (eI .i64)).pv (okL (okI .i64)) := reads_slice (E := (eI .i64)) Try.underlying80 (by kernel_rfl) (of_decide_eq_true (by kernel_rfl)) (by decide) rd3
theorem cells80 : Program.cellsOf Try.prog 80 = 1 := by kernel_rfl
theorem cells110 : Program.cellsOf Try.prog 110 = 2 := by kernel_rfl
theorem rd110 : Reads Try.prog 110 api_Segment.cells api_Segment.ok := by
  intro H enc w fuel cs d p h hw
  obtain ⟨hl, n, hf⟩ := trod_struct Try.underlying110 h hw
  rw [cells110] at hl
  obtain ⟨d0, p0, t0, w0⟩ := hf 0 _ rfl
  obtain ⟨x0, r0, k0⟩ := rd4 H enc w n _ d0 p0 t0 w0
  change RepL noT (gh (immOf w)) _ (List.take (Program.cellsOf Try.prog 4) (List.drop 0 cs)) at r0
  rw [cells4] at r0
  obtain ⟨d1, p1, t1, w1⟩ := hf 1 _ rfl
  obtain ⟨x1, r1, k1⟩ := rd80 H enc w n _ d1 p1 t1 w1
  change RepL noT (gh (immOf w)) _ (List.take (Program.cellsOf Try.prog 80) (List.drop 1 cs)) at r1
  rw [cells80] at r1
  exact ⟨⟨x0, x1⟩, (repL_chain (o := 0) (n := 1) (m := 1) r0 (repL_chain (o := 1) (n := 1) (m := 2) r1 (repL_end hl) rfl) rfl), k0, k1⟩
theorem rd52 : Reads Try.prog 52 (eL api_Segment.enc).pv (okL api_Segment.ok) := reads_slice (E := api_Segment.enc) Try.underlying52 (by kernel_rfl) (of_decide_eq_true (by kernel_rfl)) (by decide) rd110
theorem rd53 : Reads Try.prog 53 (eL (eI .u32)).pv (okL (okI .u32)) := reads_slice (E := (eI .u32)) Try.underlying53 (by kernel_rfl) (of_decide_eq_true (by kernel_rfl)) (by decide) rd22
theorem cells36 : Program.cellsOf Try.prog 36 = 1 := by kernel_rfl
theorem cells112 : Program.cellsOf Try.prog 112 = 3 := by kernel_rfl
theorem rd112 : Reads Try.prog 112 api_Raw.cells api_Raw.ok := by
  intro H enc w fuel cs d p h hw
  obtain ⟨hl, n, hf⟩ := trod_struct Try.underlying112 h hw
  rw [cells112] at hl
  obtain ⟨d0, p0, t0, w0⟩ := hf 0 _ rfl
  obtain ⟨x0, r0, k0⟩ := rd3 H enc w n _ d0 p0 t0 w0
  change RepL noT (gh (immOf w)) _ (List.take (Program.cellsOf Try.prog 3) (List.drop 0 cs)) at r0
  rw [cells3] at r0
  obtain ⟨d1, p1, t1, w1⟩ := hf 1 _ rfl
  obtain ⟨x1, r1, k1⟩ := rd3 H enc w n _ d1 p1 t1 w1
  change RepL noT (gh (immOf w)) _ (List.take (Program.cellsOf Try.prog 3) (List.drop 1 cs)) at r1
  rw [cells3] at r1
  obtain ⟨d2, p2, t2, w2⟩ := hf 2 _ rfl
  obtain ⟨x2, r2, k2⟩ := rd36 H enc w n _ d2 p2 t2 w2
  change RepL noT (gh (immOf w)) _ (List.take (Program.cellsOf Try.prog 36) (List.drop 2 cs)) at r2
  rw [cells36] at r2
  exact ⟨⟨x0, x1, x2⟩, (repL_chain (o := 0) (n := 1) (m := 1) r0 (repL_chain (o := 1) (n := 1) (m := 2) r1 (repL_chain (o := 2) (n := 1) (m := 3) r2 (repL_end hl) rfl) rfl) rfl), k0, k1, k2⟩
theorem rd54 : Reads Try.prog 54 (eL api_Raw.enc).pv (okL api_Raw.ok) := reads_slice (E := api_Raw.enc) Try.underlying54 (by kernel_rfl) (of_decide_eq_true (by kernel_rfl)) (by decide) rd112
theorem cells52 : Program.cellsOf Try.prog 52 = 1 := by kernel_rfl
theorem cells53 : Program.cellsOf Try.prog 53 = 1 := by kernel_rfl
theorem cells54 : Program.cellsOf Try.prog 54 = 1 := by kernel_rfl
theorem cells56 : Program.cellsOf Try.prog 56 = 7 := by kernel_rfl
theorem rd56 : Reads Try.prog 56 api_Attrs.cells api_Attrs.ok := by
  intro H enc w fuel cs d p h hw
  obtain ⟨hl, n, hf⟩ := trod_struct Try.underlying56 h hw
  rw [cells56] at hl
  obtain ⟨d0, p0, t0, w0⟩ := hf 0 _ rfl
  obtain ⟨x0, r0, k0⟩ := rd3 H enc w n _ d0 p0 t0 w0
  change RepL noT (gh (immOf w)) _ (List.take (Program.cellsOf Try.prog 3) (List.drop 0 cs)) at r0
  rw [cells3] at r0
  obtain ⟨d1, p1, t1, w1⟩ := hf 1 _ rfl
  obtain ⟨x1, r1, k1⟩ := rd52 H enc w n _ d1 p1 t1 w1
  change RepL noT (gh (immOf w)) _ (List.take (Program.cellsOf Try.prog 52) (List.drop 1 cs)) at r1
  rw [cells52] at r1
  obtain ⟨d2, p2, t2, w2⟩ := hf 2 _ rfl
  obtain ⟨x2, r2, k2⟩ := rd22 H enc w n _ d2 p2 t2 w2
  change RepL noT (gh (immOf w)) _ (List.take (Program.cellsOf Try.prog 22) (List.drop 2 cs)) at r2
  rw [cells22] at r2
  obtain ⟨d3, p3, t3, w3⟩ := hf 3 _ rfl
  obtain ⟨x3, r3, k3⟩ := rd3 H enc w n _ d3 p3 t3 w3
  change RepL noT (gh (immOf w)) _ (List.take (Program.cellsOf Try.prog 3) (List.drop 3 cs)) at r3
  rw [cells3] at r3
  obtain ⟨d4, p4, t4, w4⟩ := hf 4 _ rfl
  obtain ⟨x4, r4, k4⟩ := rd3 H enc w n _ d4 p4 t4 w4
  change RepL noT (gh (immOf w)) _ (List.take (Program.cellsOf Try.prog 3) (List.drop 4 cs)) at r4
  rw [cells3] at r4
  obtain ⟨d5, p5, t5, w5⟩ := hf 5 _ rfl
  obtain ⟨x5, r5, k5⟩ := rd53 H enc w n _ d5 p5 t5 w5
  change RepL noT (gh (immOf w)) _ (List.take (Program.cellsOf Try.prog 53) (List.drop 5 cs)) at r5
  rw [cells53] at r5
  obtain ⟨d6, p6, t6, w6⟩ := hf 6 _ rfl
  obtain ⟨x6, r6, k6⟩ := rd54 H enc w n _ d6 p6 t6 w6
  change RepL noT (gh (immOf w)) _ (List.take (Program.cellsOf Try.prog 54) (List.drop 6 cs)) at r6
  rw [cells54] at r6
  exact ⟨⟨x0, x1, x2, x3, x4, x5, x6⟩, (repL_chain (o := 0) (n := 1) (m := 1) r0 (repL_chain (o := 1) (n := 1) (m := 2) r1 (repL_chain (o := 2) (n := 1) (m := 3) r2 (repL_chain (o := 3) (n := 1) (m := 4) r3 (repL_chain (o := 4) (n := 1) (m := 5) r4 (repL_chain (o := 5) (n := 1) (m := 6) r5 (repL_chain (o := 6) (n := 1) (m := 7) r6 (repL_end hl) rfl) rfl) rfl) rfl) rfl) rfl) rfl), k0, k1, k2, k3, k4, k5, k6⟩
theorem cells51 : Program.cellsOf Try.prog 51 = 1 := by kernel_rfl
theorem cells58 : Program.cellsOf Try.prog 58 = 9 := by kernel_rfl
theorem rd58 : Reads Try.prog 58 api_Update.cells api_Update.ok := by
  intro H enc w fuel cs d p h hw
  obtain ⟨hl, n, hf⟩ := trod_struct Try.underlying58 h hw
  rw [cells58] at hl
  obtain ⟨d0, p0, t0, w0⟩ := hf 0 _ rfl
  obtain ⟨x0, r0, k0⟩ := rd51 H enc w n _ d0 p0 t0 w0
  change RepL noT (gh (immOf w)) _ (List.take (Program.cellsOf Try.prog 51) (List.drop 0 cs)) at r0
  rw [cells51] at r0
  obtain ⟨d1, p1, t1, w1⟩ := hf 1 _ rfl
  obtain ⟨x1, r1, k1⟩ := rd56 H enc w n _ d1 p1 t1 w1
  change RepL noT (gh (immOf w)) _ (List.take (Program.cellsOf Try.prog 56) (List.drop 1 cs)) at r1
  rw [cells56] at r1
  obtain ⟨d2, p2, t2, w2⟩ := hf 2 _ rfl
  obtain ⟨x2, r2, k2⟩ := rd51 H enc w n _ d2 p2 t2 w2
  change RepL noT (gh (immOf w)) _ (List.take (Program.cellsOf Try.prog 51) (List.drop 8 cs)) at r2
  rw [cells51] at r2
  exact ⟨⟨x0, x1, x2⟩, (repL_chain (o := 0) (n := 1) (m := 1) r0 (repL_chain (o := 1) (n := 7) (m := 8) r1 (repL_chain (o := 8) (n := 1) (m := 9) r2 (repL_end hl) rfl) rfl) rfl), k0, k1, k2⟩
theorem cells38 : Program.cellsOf Try.prog 38 = 3 := by kernel_rfl
theorem rd38 : Reads Try.prog 38 api_Note.cells api_Note.ok := by
  intro H enc w fuel cs d p h hw
  obtain ⟨hl, n, hf⟩ := trod_struct Try.underlying38 h hw
  rw [cells38] at hl
  obtain ⟨d0, p0, t0, w0⟩ := hf 0 _ rfl
  obtain ⟨x0, r0, k0⟩ := rd3 H enc w n _ d0 p0 t0 w0
  change RepL noT (gh (immOf w)) _ (List.take (Program.cellsOf Try.prog 3) (List.drop 0 cs)) at r0
  rw [cells3] at r0
  obtain ⟨d1, p1, t1, w1⟩ := hf 1 _ rfl
  obtain ⟨x1, r1, k1⟩ := rd3 H enc w n _ d1 p1 t1 w1
  change RepL noT (gh (immOf w)) _ (List.take (Program.cellsOf Try.prog 3) (List.drop 1 cs)) at r1
  rw [cells3] at r1
  obtain ⟨d2, p2, t2, w2⟩ := hf 2 _ rfl
  obtain ⟨x2, r2, k2⟩ := rd36 H enc w n _ d2 p2 t2 w2
  change RepL noT (gh (immOf w)) _ (List.take (Program.cellsOf Try.prog 36) (List.drop 2 cs)) at r2
  rw [cells36] at r2
  exact ⟨⟨x0, x1, x2⟩, (repL_chain (o := 0) (n := 1) (m := 1) r0 (repL_chain (o := 1) (n := 1) (m := 2) r1 (repL_chain (o := 2) (n := 1) (m := 3) r2 (repL_end hl) rfl) rfl) rfl), k0, k1, k2⟩
theorem cells60 : Program.cellsOf Try.prog 60 = 25 := by kernel_rfl
theorem rd60 : Reads Try.prog 60 api_Msg.cells api_Msg.ok := by
  intro H enc w fuel cs d p h hw
  obtain ⟨hl, n, hf⟩ := trod_struct Try.underlying60 h hw
  rw [cells60] at hl
  obtain ⟨d0, p0, t0, w0⟩ := hf 0 _ rfl
  obtain ⟨x0, r0, k0⟩ := rd3 H enc w n _ d0 p0 t0 w0
  change RepL noT (gh (immOf w)) _ (List.take (Program.cellsOf Try.prog 3) (List.drop 0 cs)) at r0
  rw [cells3] at r0
  obtain ⟨d1, p1, t1, w1⟩ := hf 1 _ rfl
  obtain ⟨x1, r1, k1⟩ := rd29 H enc w n _ d1 p1 t1 w1
  change RepL noT (gh (immOf w)) _ (List.take (Program.cellsOf Try.prog 29) (List.drop 1 cs)) at r1
  rw [cells29] at r1
  obtain ⟨d2, p2, t2, w2⟩ := hf 2 _ rfl
  obtain ⟨x2, r2, k2⟩ := rd58 H enc w n _ d2 p2 t2 w2
  change RepL noT (gh (immOf w)) _ (List.take (Program.cellsOf Try.prog 58) (List.drop 13 cs)) at r2
  rw [cells58] at r2
  obtain ⟨d3, p3, t3, w3⟩ := hf 3 _ rfl
  obtain ⟨x3, r3, k3⟩ := rd38 H enc w n _ d3 p3 t3 w3
  change RepL noT (gh (immOf w)) _ (List.take (Program.cellsOf Try.prog 38) (List.drop 22 cs)) at r3
  rw [cells38] at r3
  exact ⟨⟨x0, x1, x2, x3⟩, (repL_chain (o := 0) (n := 1) (m := 1) r0 (repL_chain (o := 1) (n := 12) (m := 13) r1 (repL_chain (o := 13) (n := 9) (m := 22) r2 (repL_chain (o := 22) (n := 3) (m := 25) r3 (repL_end hl) rfl) rfl) rfl) rfl), k0, k1, k2, k3⟩
theorem rd44 : Reads Try.prog 44 (eL api_Msg.enc).pv (okL api_Msg.ok) := reads_slice (E := api_Msg.enc) Try.underlying44 (by kernel_rfl) (of_decide_eq_true (by kernel_rfl)) (by decide) rd60
end Go.Proofs.Ytnpipeihomebhaa
