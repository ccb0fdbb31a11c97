import Derived.Test.YtepnimdjcnjlfaaDoorRcTy
import Derived.Test.YtepnimdjcnjlfaaDoorProg
import Derived.KernelRfl
namespace Go.Proofs.YtepnimdjcnjlfaaDoor
open Go.Ab
set_option linter.unusedSimpArgs false
set_option linter.unusedVariables false
theorem ty3 : Ty Tryd.prog 3 false 1 := ⟨by kernel_rfl, by kernel_rfl⟩
theorem ty5 : Ty Tryd.prog 5 false 1 := ⟨by kernel_rfl, by kernel_rfl⟩
theorem ty22 : Ty Tryd.prog 22 false 1 := ⟨by kernel_rfl, by kernel_rfl⟩
theorem ty25 : Ty Tryd.prog 25 true 3 := ⟨by kernel_rfl, by kernel_rfl⟩
theorem ty32 : Ty Tryd.prog 32 true 12 := ⟨by kernel_rfl, by kernel_rfl⟩
theorem ty40 : Ty Tryd.prog 40 true 9 := ⟨by kernel_rfl, by kernel_rfl⟩
theorem ty42 : Ty Tryd.prog 42 true 25 := ⟨by kernel_rfl, by kernel_rfl⟩
theorem fld25_0 : Fld Tryd.prog 25 0 0 false 1 := fld_mk Tryd.underlying25 rfl rfl ty3 (by decide)
theorem fld25_1 : Fld Tryd.prog 25 1 1 false 1 := fld_mk Tryd.underlying25 rfl rfl ty3 (by decide)
theorem fld25_2 : Fld Tryd.prog 25 2 2 false 1 := fld_mk Tryd.underlying25 rfl rfl ty22 (by decide)
theorem fld42_0 : Fld Tryd.prog 42 0 0 false 1 := fld_mk Tryd.underlying42 rfl rfl ty3 (by decide)
theorem fld42_3 : Fld Tryd.prog 42 3 22 true 3 := fld_mk Tryd.underlying42 rfl rfl ty25 (by decide)
theorem bld25 : Bld Tryd.prog 25 [(0, 1), (1, 1), (2, 1)] [.int .i64 0, .int .i64 0, .slice none 0 0] := bld_mk Tryd.underlying25 (z := .agg #[.int .i64 0, .int .i64 0, .slice none 0 0]) (by kernel_rfl) (.cons rfl ty3 (.cons rfl ty3 (.cons rfl ty22 (.nil))))
theorem bld42 : Bld Tryd.prog 42 [(0, 1), (1, 12), (13, 9), (22, 3)] [.int .i64 0, .int .i64 0, .int .i64 0, .int .u32 0, .bool false, .int .i64 0, .bool false, .bool false, .int .i64 0, .bool false, .bool false, .bool false, .int .i64 0, .slice none 0 0, .int .i64 0, .slice none 0 0, .int .u32 0, .int .i64 0, .int .i64 0, .slice none 0 0, .slice none 0 0, .slice none 0 0, .int .i64 0, .int .i64 0, .slice none 0 0] := bld_mk Tryd.underlying42 (z := .agg #[.int .i64 0, .int .i64 0, .int .i64 0, .int .u32 0, .bool false, .int .i64 0, .bool false, .bool false, .int .i64 0, .bool false, .bool false, .bool false, .int .i64 0, .slice none 0 0, .int .i64 0, .slice none 0 0, .int .u32 0, .int .i64 0, .int .i64 0, .slice none 0 0, .slice none 0 0, .slice none 0 0, .int .i64 0, .int .i64 0, .slice none 0 0]) (by kernel_rfl) (.cons rfl ty3 (.cons rfl ty32 (.cons rfl ty40 (.cons rfl ty25 (.nil)))))
theorem z5 : (Tryd.prog.info? 5).map (·.zero) = some (some (.int .u8 0)) := by kernel_rfl
def zv25 : Value := .agg #[.int .i64 0, .int .i64 0, .slice none 0 0]
def zc25 : List PV := [.sc (.int .i64 0), .sc (.int .i64 0), .sc (.slice none 0 0)]
theorem z25 : (Tryd.prog.info? 25).map (·.zero) = some (some (.agg #[.int .i64 0, .int .i64 0, .slice none 0 0])) := by kernel_rfl
def zv42 : Value := .agg #[.int .i64 0, .int .i64 0, .int .i64 0, .int .u32 0, .bool false, .int .i64 0, .bool false, .bool false, .int .i64 0, .bool false, .bool false, .bool false, .int .i64 0, .slice none 0 0, .int .i64 0, .slice none 0 0, .int .u32 0, .int .i64 0, .int .i64 0, .slice none 0 0, .slice none 0 0, .slice none 0 0, .int .i64 0, .int .i64 0, .slice none 0 0]
def zc42 : List PV := [.sc (.int .i64 0), .sc (.int .i64 0), .sc (.int .i64 0), .sc (.int .u32 0), .sc (.bool false), .sc (.int .i64 0), .sc (.bool false), .sc (.bool false), .sc (.int .i64 0), .sc (.bool false), .sc (.bool false), .sc (.bool false), .sc (.int .i64 0), .sc (.slice none 0 0), .sc (.int .i64 0), .sc (.slice none 0 0), .sc (.int .u32 0), .sc (.int .i64 0), .sc (.int .i64 0), .sc (.slice none 0 0), .sc (.slice none 0 0), .sc (.slice none 0 0), .sc (.int .i64 0), .sc (.int .i64 0), .sc (.slice none 0 0)]
theorem z42 : (Tryd.prog.info? 42).map (·.zero) = some (some (.agg #[.int .i64 0, .int .i64 0, .int .i64 0, .int .u32 0, .bool false, .int .i64 0, .bool false, .bool false, .int .i64 0, .bool false, .bool false, .bool false, .int .i64 0, .slice none 0 0, .int .i64 0, .slice none 0 0, .int .u32 0, .int .i64 0, .int .i64 0, .slice none 0 0, .slice none 0 0, .slice none 0 0, .int .i64 0, .int .i64 0, .slice none 0 0])) := by kernel_rfl
theorem el22 : Elt Tryd.prog 22 5 1 1 := ⟨Tryd.underlying22, by kernel_rfl, by decide⟩
theorem rd5 : Reads Tryd.prog 5 (eI .u8).pv (okI .u8) := reads_int Tryd.underlying5
theorem rd22 : Reads Tryd.prog 22 (eL (eI .u8)).pv (okL (okI .u8)) := reads_slice (E := (eI .u8)) Tryd.underlying22 (by kernel_rfl) (of_decide_eq_true (by kernel_rfl)) (by decide) rd5
theorem rd47 : Reads Tryd.prog 47 (eI .u16).pv (okI .u16) := reads_int Tryd.underlying47
end Go.Proofs.YtepnimdjcnjlfaaDoor
