import Derived.Test.YtepnimdjcnjlfaaGreatDoorRzTy
import Derived.Test.YtepnimdjcnjlfaaGreatDoorProg
import Derived.KernelRfl
namespace Go.Proofs.YtepnimdjcnjlfaaGreatDoor
open Go.Ab
set_option linter.unusedSimpArgs false
set_option linter.unusedVariables false
theorem ty3 : Ty Tryz.prog 3 false 1 := ⟨by kernel_rfl, by kernel_rfl⟩
theorem ty5 : Ty Tryz.prog 5 false 1 := ⟨by kernel_rfl, by kernel_rfl⟩
theorem ty22 : Ty Tryz.prog 22 false 1 := ⟨by kernel_rfl, by kernel_rfl⟩
theorem ty28 : Ty Tryz.prog 28 true 12 := ⟨by kernel_rfl, by kernel_rfl⟩
theorem ty36 : Ty Tryz.prog 36 true 9 := ⟨by kernel_rfl, by kernel_rfl⟩
theorem ty38 : Ty Tryz.prog 38 true 3 := ⟨by kernel_rfl, by kernel_rfl⟩
theorem ty40 : Ty Tryz.prog 40 true 25 := ⟨by kernel_rfl, by kernel_rfl⟩
theorem fld38_0 : Fld Tryz.prog 38 0 0 false 1 := fld_mk Tryz.underlying38 rfl rfl ty3 (by decide)
theorem fld38_1 : Fld Tryz.prog 38 1 1 false 1 := fld_mk Tryz.underlying38 rfl rfl ty3 (by decide)
theorem fld38_2 : Fld Tryz.prog 38 2 2 false 1 := fld_mk Tryz.underlying38 rfl rfl ty22 (by decide)
theorem fld40_0 : Fld Tryz.prog 40 0 0 false 1 := fld_mk Tryz.underlying40 rfl rfl ty3 (by decide)
theorem fld40_3 : Fld Tryz.prog 40 3 22 true 3 := fld_mk Tryz.underlying40 rfl rfl ty38 (by decide)
theorem bld38 : Bld Tryz.prog 38 [(0, 1), (1, 1), (2, 1)] [.int .i64 0, .int .i64 0, .slice none 0 0] := bld_mk Tryz.underlying38 (z := .agg #[.int .i64 0, .int .i64 0, .slice none 0 0]) (by kernel_rfl) (.cons rfl ty3 (.cons rfl ty3 (.cons rfl ty22 (.nil))))
theorem bld40 : Bld Tryz.prog 40 [(0, 1), (1, 12), (13, 9), (22, 3)] [.int .i64 0, .int .i64 0, .int .i64 0, .int .u32 0, .bool false, .int .i64 0, .bool false, .bool false, .int .i64 0, .bool false, .bool false, .bool false, .int .i64 0, .slice none 0 0, .int .i64 0, .slice none 0 0, .int .u32 0, .int .i64 0, .int .i64 0, .slice none 0 0, .slice none 0 0, .slice none 0 0, .int .i64 0, .int .i64 0, .slice none 0 0] := bld_mk Tryz.underlying40 (z := .agg #[.int .i64 0, .int .i64 0, .int .i64 0, .int .u32 0, .bool false, .int .i64 0, .bool false, .bool false, .int .i64 0, .bool false, .bool false, .bool false, .int .i64 0, .slice none 0 0, .int .i64 0, .slice none 0 0, .int .u32 0, .int .i64 0, .int .i64 0, .slice none 0 0, .slice none 0 0, .slice none 0 0, .int .i64 0, .int .i64 0, .slice none 0 0]) (by kernel_rfl) (.cons rfl ty3 (.cons rfl ty28 (.cons rfl ty36 (.cons rfl ty38 (.nil)))))
def zv38 : Value := .agg #[.int .i64 0, .int .i64 0, .slice none 0 0]
def zc38 : List PV := [.sc (.int .i64 0), .sc (.int .i64 0), .sc (.slice none 0 0)]
theorem z38 : (Tryz.prog.info? 38).map (·.zero) = some (some (.agg #[.int .i64 0, .int .i64 0, .slice none 0 0])) := by kernel_rfl
def zv40 : Value := .agg #[.int .i64 0, .int .i64 0, .int .i64 0, .int .u32 0, .bool false, .int .i64 0, .bool false, .bool false, .int .i64 0, .bool false, .bool false, .bool false, .int .i64 0, .slice none 0 0, .int .i64 0, .slice none 0 0, .int .u32 0, .int .i64 0, .int .i64 0, .slice none 0 0, .slice none 0 0, .slice none 0 0, .int .i64 0, .int .i64 0, .slice none 0 0]
def zc40 : List PV := [.sc (.int .i64 0), .sc (.int .i64 0), .sc (.int .i64 0), .sc (.int .u32 0), .sc (.bool false), .sc (.int .i64 0), .sc (.bool false), .sc (.bool false), .sc (.int .i64 0), .sc (.bool false), .sc (.bool false), .sc (.bool false), .sc (.int .i64 0), .sc (.slice none 0 0), .sc (.int .i64 0), .sc (.slice none 0 0), .sc (.int .u32 0), .sc (.int .i64 0), .sc (.int .i64 0), .sc (.slice none 0 0), .sc (.slice none 0 0), .sc (.slice none 0 0), .sc (.int .i64 0), .sc (.int .i64 0), .sc (.slice none 0 0)]
theorem z40 : (Tryz.prog.info? 40).map (·.zero) = some (some (.agg #[.int .i64 0, .int .i64 0, .int .i64 0, .int .u32 0, .bool false, .int .i64 0, .bool false, .bool false, .int .i64 0, .bool false, .bool false, .bool false, .int .i64 0, .slice none 0 0, .int .i64 0, .slice none 0 0, .int .u32 0, .int .i64 0, .int .i64 0, .slice none 0 0, .slice none 0 0, .slice none 0 0, .int .i64 0, .int .i64 0, .slice none 0 0])) := by kernel_rfl
theorem el22 : Elt Tryz.prog 22 5 1 1 := ⟨Tryz.underlying22, by kernel_rfl, by decide⟩
theorem rd5 : Reads Tryz.prog 5 (eI .u8).pv (okI .u8) := reads_int Tryz.underlying5
theorem rd22 : Reads Tryz.prog 22 (eL (eI .u8)).pv (okL (okI .u8)) := reads_slice (E := (eI .u8)) Tryz.underlying22 (by kernel_rfl) (of_decide_eq_true (by kernel_rfl)) (by decide) rd5
end Go.Proofs.YtepnimdjcnjlfaaGreatDoor
