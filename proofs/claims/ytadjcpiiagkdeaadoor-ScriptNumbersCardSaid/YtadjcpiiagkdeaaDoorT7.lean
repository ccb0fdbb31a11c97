import Derived.Test.YtadjcpiiagkdeaaDoorT6
import Derived.Shelf.Strings.OnBuilder
import Derived.Shelf.Strings.SplitCore
import Derived.Shelf.Strings.Count
import Derived.Shelf.Strings.Search3
import Derived.Lib.SplitLaws
set_option linter.unusedVariables false
set_option linter.unusedSimpArgs false
namespace Go.Rx
open Go.Ab Go.L21
set_option maxRecDepth 100000
set_option maxHeartbeats 20000000
set_option linter.unusedVariables false
/-- interregnum/interregnumlaw24.text -/
noncomputable def C330 : Cfg S := { P := P7, inl := [], K := [(38, ctr P7 [3] [9] (fun x0 => (some (P338 x0), S338 x0))), (25, ctr P7 [42] [9] (fun x0 => (some (P325 x0), S325 x0))), (31, ctr P7 [9] [9] (fun x0 => (some (P331 x0), S331 x0))), (49, ctr P7 [59] [9] (fun x0 => (some (P349 x0), S349 x0)))], ann := [(30, [(3, .loop [(.sl 3, .str), (.sl 4, .int .i64)])])] }
abbrev W330 : CT S [9] [49] := (fun x0 => (some (P330 x0), S330 x0))
abbrev Ok330 : Prop := ConOk P7 30 (ctr P7 [49] [9] W330) ∧ ConMon (ctr P7 [49] [9] W330)
theorem q330 (x0 : List api_Step) (v : HR S [9]) : (Xf C330 6 (emp 0) 30 (argsA C330 [⟨49, x0⟩]) (emp 0) (fun r _ => isR C330.P [9] v r) (fun _ _ => False)) =
 (LOOP (fun (h : ByteArray × Int) (J : ByteArray × Int → Prop) => bif decide (h.snd < (↑x0.length : Int)) then ((0 : Int) ≤ h.snd ∧ h.snd < (↑x0.length : Int))
 ∧ ((-9223372036854775808 : Int) ≤ (ix x0 h.snd).fKind ∧ (ix x0 h.snd).fKind ≤ (9223372036854775807 : Int)) ∧ h.fst.size + (S338 (ix x0 h.snd).fKind).size ≤
 nat_lit 9223372036854775807 ∧ (h.fst ++ S338 (ix x0 h.snd).fKind).size + nat_lit 1 ≤ nat_lit 9223372036854775807 ∧ ((-9223372036854775808 : Int) ≤ (ix x0
 h.snd).fA ∧ (ix x0 h.snd).fA ≤ (9223372036854775807 : Int)) ∧ (h.fst ++ S338 (ix x0 h.snd).fKind ++ ByteArray.mk #[(32 : UInt8)]).size + (S338 (ix x0
 h.snd).fA).size ≤ nat_lit 9223372036854775807 ∧ (h.fst ++ S338 (ix x0 h.snd).fKind ++ ByteArray.mk #[(32 : UInt8)] ++ S338 (ix x0 h.snd).fA).size + nat_lit 1
 ≤ nat_lit 9223372036854775807 ∧ ((-9223372036854775808 : Int) ≤ (ix x0 h.snd).fB ∧ (ix x0 h.snd).fB ≤ (9223372036854775807 : Int)) ∧ (h.fst ++ S338 (ix x0
 h.snd).fKind ++ ByteArray.mk #[(32 : UInt8)] ++ S338 (ix x0 h.snd).fA ++ ByteArray.mk #[(32 : UInt8)]).size + (S338 (ix x0 h.snd).fB).size ≤ nat_lit
 9223372036854775807 ∧ (h.fst ++ S338 (ix x0 h.snd).fKind ++ ByteArray.mk #[(32 : UInt8)] ++ S338 (ix x0 h.snd).fA ++ ByteArray.mk #[(32 : UInt8)] ++ S338 (ix
 x0 h.snd).fB).size + nat_lit 1 ≤ nat_lit 9223372036854775807 ∧ DB (nat_lit 20) (ix x0 h.snd).fKeep ∧ (h.fst ++ S338 (ix x0 h.snd).fKind ++ ByteArray.mk #[(32
 : UInt8)] ++ S338 (ix x0 h.snd).fA ++ ByteArray.mk #[(32 : UInt8)] ++ S338 (ix x0 h.snd).fB ++ ByteArray.mk #[(32 : UInt8)]).size + (S349 (ix x0
 h.snd).fKeep).size ≤ nat_lit 9223372036854775807 ∧ (h.fst ++ S338 (ix x0 h.snd).fKind ++ ByteArray.mk #[(32 : UInt8)] ++ S338 (ix x0 h.snd).fA ++ ByteArray.mk
 #[(32 : UInt8)] ++ S338 (ix x0 h.snd).fB ++ ByteArray.mk #[(32 : UInt8)] ++ S349 (ix x0 h.snd).fKeep).size + nat_lit 1 ≤ nat_lit 9223372036854775807 ∧
 ((-9223372036854775808 : Int) ≤ IntKind.i64.wrap (ix x0 h.snd).fPrefix.fAddr ∧ IntKind.i64.wrap (ix x0 h.snd).fPrefix.fAddr ≤ (9223372036854775807 : Int)) ∧
 (h.fst ++ S338 (ix x0 h.snd).fKind ++ ByteArray.mk #[(32 : UInt8)] ++ S338 (ix x0 h.snd).fA ++ ByteArray.mk #[(32 : UInt8)] ++ S338 (ix x0 h.snd).fB ++
 ByteArray.mk #[(32 : UInt8)] ++ S349 (ix x0 h.snd).fKeep ++ ByteArray.mk #[(32 : UInt8)]).size + (S338 (IntKind.i64.wrap (ix x0 h.snd).fPrefix.fAddr)).size ≤
 nat_lit 9223372036854775807 ∧ (h.fst ++ S338 (ix x0 h.snd).fKind ++ ByteArray.mk #[(32 : UInt8)] ++ S338 (ix x0 h.snd).fA ++ ByteArray.mk #[(32 : UInt8)] ++
 S338 (ix x0 h.snd).fB ++ ByteArray.mk #[(32 : UInt8)] ++ S349 (ix x0 h.snd).fKeep ++ ByteArray.mk #[(32 : UInt8)] ++ S338 (IntKind.i64.wrap (ix x0
 h.snd).fPrefix.fAddr)).size + nat_lit 1 ≤ nat_lit 9223372036854775807 ∧ ((-9223372036854775808 : Int) ≤ (ix x0 h.snd).fPrefix.fLen ∧ (ix x0
 h.snd).fPrefix.fLen ≤ (9223372036854775807 : Int)) ∧ (h.fst ++ S338 (ix x0 h.snd).fKind ++ ByteArray.mk #[(32 : UInt8)] ++ S338 (ix x0 h.snd).fA ++
 ByteArray.mk #[(32 : UInt8)] ++ S338 (ix x0 h.snd).fB ++ ByteArray.mk #[(32 : UInt8)] ++ S349 (ix x0 h.snd).fKeep ++ ByteArray.mk #[(32 : UInt8)] ++ S338
 (IntKind.i64.wrap (ix x0 h.snd).fPrefix.fAddr) ++ ByteArray.mk #[(32 : UInt8)]).size + (S338 (ix x0 h.snd).fPrefix.fLen).size ≤ nat_lit 9223372036854775807 ∧
 (h.fst ++ S338 (ix x0 h.snd).fKind ++ ByteArray.mk #[(32 : UInt8)] ++ S338 (ix x0 h.snd).fA ++ ByteArray.mk #[(32 : UInt8)] ++ S338 (ix x0 h.snd).fB ++
 ByteArray.mk #[(32 : UInt8)] ++ S349 (ix x0 h.snd).fKeep ++ ByteArray.mk #[(32 : UInt8)] ++ S338 (IntKind.i64.wrap (ix x0 h.snd).fPrefix.fAddr) ++
 ByteArray.mk #[(32 : UInt8)] ++ S338 (ix x0 h.snd).fPrefix.fLen).size + nat_lit 1 ≤ nat_lit 9223372036854775807 ∧ ((-9223372036854775808 : Int) ≤
 IntKind.i64.wrap (ix x0 h.snd).fNext ∧ IntKind.i64.wrap (ix x0 h.snd).fNext ≤ (9223372036854775807 : Int)) ∧ (h.fst ++ S338 (ix x0 h.snd).fKind ++
 ByteArray.mk #[(32 : UInt8)] ++ S338 (ix x0 h.snd).fA ++ ByteArray.mk #[(32 : UInt8)] ++ S338 (ix x0 h.snd).fB ++ ByteArray.mk #[(32 : UInt8)] ++ S349 (ix x0
 h.snd).fKeep ++ ByteArray.mk #[(32 : UInt8)] ++ S338 (IntKind.i64.wrap (ix x0 h.snd).fPrefix.fAddr) ++ ByteArray.mk #[(32 : UInt8)] ++ S338 (ix x0
 h.snd).fPrefix.fLen ++ ByteArray.mk #[(32 : UInt8)]).size + (S338 (IntKind.i64.wrap (ix x0 h.snd).fNext)).size ≤ nat_lit 9223372036854775807 ∧ (h.fst ++ S338
 (ix x0 h.snd).fKind ++ ByteArray.mk #[(32 : UInt8)] ++ S338 (ix x0 h.snd).fA ++ ByteArray.mk #[(32 : UInt8)] ++ S338 (ix x0 h.snd).fB ++ ByteArray.mk #[(32 :
 UInt8)] ++ S349 (ix x0 h.snd).fKeep ++ ByteArray.mk #[(32 : UInt8)] ++ S338 (IntKind.i64.wrap (ix x0 h.snd).fPrefix.fAddr) ++ ByteArray.mk #[(32 : UInt8)] ++
 S338 (ix x0 h.snd).fPrefix.fLen ++ ByteArray.mk #[(32 : UInt8)] ++ S338 (IntKind.i64.wrap (ix x0 h.snd).fNext)).size + nat_lit 2 ≤ nat_lit 9223372036854775807
 ∧ (bsOf (List.map (fun (x : Int) => x) (ix x0 h.snd).fData)).size.le (nat_lit 1099511627776) ∧ (h.fst ++ S338 (ix x0 h.snd).fKind ++ ByteArray.mk #[(32 :
 UInt8)] ++ S338 (ix x0 h.snd).fA ++ ByteArray.mk #[(32 : UInt8)] ++ S338 (ix x0 h.snd).fB ++ ByteArray.mk #[(32 : UInt8)] ++ S349 (ix x0 h.snd).fKeep ++
 ByteArray.mk #[(32 : UInt8)] ++ S338 (IntKind.i64.wrap (ix x0 h.snd).fPrefix.fAddr) ++ ByteArray.mk #[(32 : UInt8)] ++ S338 (ix x0 h.snd).fPrefix.fLen ++
 ByteArray.mk #[(32 : UInt8)] ++ S338 (IntKind.i64.wrap (ix x0 h.snd).fNext) ++ ByteArray.mk #[(32 : UInt8), (120 : UInt8)]).size + (S331 (bsOf (List.map (fun
 (x : Int) => x) (ix x0 h.snd).fData))).size ≤ nat_lit 9223372036854775807 ∧ (h.fst ++ S338 (ix x0 h.snd).fKind ++ ByteArray.mk #[(32 : UInt8)] ++ S338 (ix x0
 h.snd).fA ++ ByteArray.mk #[(32 : UInt8)] ++ S338 (ix x0 h.snd).fB ++ ByteArray.mk #[(32 : UInt8)] ++ S349 (ix x0 h.snd).fKeep ++ ByteArray.mk #[(32 : UInt8)]
 ++ S338 (IntKind.i64.wrap (ix x0 h.snd).fPrefix.fAddr) ++ ByteArray.mk #[(32 : UInt8)] ++ S338 (ix x0 h.snd).fPrefix.fLen ++ ByteArray.mk #[(32 : UInt8)] ++
 S338 (IntKind.i64.wrap (ix x0 h.snd).fNext) ++ ByteArray.mk #[(32 : UInt8), (120 : UInt8)] ++ S331 (bsOf (List.map (fun (x : Int) => x) (ix x0
 h.snd).fData))).size + nat_lit 2 ≤ nat_lit 9223372036854775807 ∧ OkP (ix x0 h.snd).fPeer ∧ (S325 (ix x0 h.snd).fPeer).size.le (nat_lit 1099511627776) ∧ (h.fst
 ++ S338 (ix x0 h.snd).fKind ++ ByteArray.mk #[(32 : UInt8)] ++ S338 (ix x0 h.snd).fA ++ ByteArray.mk #[(32 : UInt8)] ++ S338 (ix x0 h.snd).fB ++ ByteArray.mk
 #[(32 : UInt8)] ++ S349 (ix x0 h.snd).fKeep ++ ByteArray.mk #[(32 : UInt8)] ++ S338 (IntKind.i64.wrap (ix x0 h.snd).fPrefix.fAddr) ++ ByteArray.mk #[(32 :
 UInt8)] ++ S338 (ix x0 h.snd).fPrefix.fLen ++ ByteArray.mk #[(32 : UInt8)] ++ S338 (IntKind.i64.wrap (ix x0 h.snd).fNext) ++ ByteArray.mk #[(32 : UInt8), (120
 : UInt8)] ++ S331 (bsOf (List.map (fun (x : Int) => x) (ix x0 h.snd).fData)) ++ ByteArray.mk #[(32 : UInt8), (120 : UInt8)]).size + (S331 (S325 (ix x0
 h.snd).fPeer)).size ≤ nat_lit 9223372036854775807 ∧ (h.fst ++ S338 (ix x0 h.snd).fKind ++ ByteArray.mk #[(32 : UInt8)] ++ S338 (ix x0 h.snd).fA ++
 ByteArray.mk #[(32 : UInt8)] ++ S338 (ix x0 h.snd).fB ++ ByteArray.mk #[(32 : UInt8)] ++ S349 (ix x0 h.snd).fKeep ++ ByteArray.mk #[(32 : UInt8)] ++ S338
 (IntKind.i64.wrap (ix x0 h.snd).fPrefix.fAddr) ++ ByteArray.mk #[(32 : UInt8)] ++ S338 (ix x0 h.snd).fPrefix.fLen ++ ByteArray.mk #[(32 : UInt8)] ++ S338
 (IntKind.i64.wrap (ix x0 h.snd).fNext) ++ ByteArray.mk #[(32 : UInt8), (120 : UInt8)] ++ S331 (bsOf (List.map (fun (x : Int) => x) (ix x0 h.snd).fData)) ++
 ByteArray.mk #[(32 : UInt8), (120 : UInt8)] ++ S331 (S325 (ix x0 h.snd).fPeer)).size + nat_lit 1 ≤ nat_lit 9223372036854775807 ∧ J (h.fst ++ S338 (ix x0
 h.snd).fKind ++ ByteArray.mk #[(32 : UInt8)] ++ S338 (ix x0 h.snd).fA ++ ByteArray.mk #[(32 : UInt8)] ++ S338 (ix x0 h.snd).fB ++ ByteArray.mk #[(32 : UInt8)]
 ++ S349 (ix x0 h.snd).fKeep ++ ByteArray.mk #[(32 : UInt8)] ++ S338 (IntKind.i64.wrap (ix x0 h.snd).fPrefix.fAddr) ++ ByteArray.mk #[(32 : UInt8)] ++ S338 (ix
 x0 h.snd).fPrefix.fLen ++ ByteArray.mk #[(32 : UInt8)] ++ S338 (IntKind.i64.wrap (ix x0 h.snd).fNext) ++ ByteArray.mk #[(32 : UInt8), (120 : UInt8)] ++ S331
 (bsOf (List.map (fun (x : Int) => x) (ix x0 h.snd).fData)) ++ ByteArray.mk #[(32 : UInt8), (120 : UInt8)] ++ S331 (S325 (ix x0 h.snd).fPeer) ++ ByteArray.mk
 #[(10 : UInt8)], IntKind.i64.wrap (h.snd + (1 : Int))) else h.fst = v) (ByteArray.mk #[], (0 : Int))) := by kernel_rfl
end Go.Rx
namespace Go.Rx
open Go.Ab Go.L21
set_option maxRecDepth 100000
set_option maxHeartbeats 20000000
set_option linter.unusedVariables false
/-- interregnum/interregnumlaw24.small -/
noncomputable def C326 : Cfg S := { P := P7, inl := [], K := [], ann := [(26, [(3, .loop [(.sl 3, .int .i64), (.sl 4, .int .i64)])])] }
abbrev W326 : CT S [4] [49] := (fun x0 => (some (P326 x0), S326 x0))
abbrev Ok326 : Prop := ConOk P7 26 (ctr P7 [49] [4] W326) ∧ ConMon (ctr P7 [49] [4] W326)
theorem q326 (x0 : List api_Step) (v : HR S [4]) : (Xf C326 6 (emp 0) 26 (argsA C326 [⟨49, x0⟩]) (emp 0) (fun r _ => isR C326.P [4] v r) (fun _ _ => False)) =
 (LOOP (fun (h : Int × Int) (J : Int × Int → Prop) => bif decide (h.snd < (↑x0.length : Int)) && decide (h.fst < (3000 : Int)) then ((0 : Int) ≤ h.snd ∧ h.snd
 < (↑x0.length : Int)) ∧ ((0 : Int) ≤ h.snd ∧ h.snd < (↑x0.length : Int)) ∧ ((0 : Int) ≤ h.snd ∧ h.snd < (↑x0.length : Int)) ∧ J (IntKind.i64.wrap
 (IntKind.i64.wrap (h.fst + (↑(ix x0 h.snd).fData.length : Int)) + IntKind.i64.wrap ((50 : Int) * IntKind.i64.wrap ((↑(ix x0 h.snd).fPeer.fIn.length : Int) +
 (↑(ix x0 h.snd).fPeer.fOut.length : Int)))), IntKind.i64.wrap (h.snd + (1 : Int))) else (decide (h.fst < (3000 : Int)) && decide ((↑x0.length : Int) < (60 :
 Int))) = v) ((↑x0.length : Int), (0 : Int))) := by kernel_rfl
end Go.Rx
namespace Go.Proofs
open Go.Shelf
def Tryd.lays156_ren : Go.Shelf.Ren := ⟨fun | 156 => 60 | 165 => 73 | 166 => 32 | 169 => 35 | 240 => 50 | 241 => 88 | 276 => 63 | 277 => 100 | n => n, fun | 0 => 0 | 3 => 3 | 4 => 4 | 5 => 5 | 9 => 9 | 20 => 20 | 31 => 22 | 37 => 58 | 70 => 63 | 72 => 65 | 75 => 67 | 76 => 68 | 80 => 72 | 127 => 91 | 164 => 102 | n => n, fun | n => n⟩
theorem Tryd.lays156 : Go.Proofs.Lays.n156 Tryd.prog Tryd.lays156_ren := {
  mixed := by kernel_rfl
  f156 := Tryd.func60.trans (congrArg some (by kernel_rfl))
  f165 := Tryd.func73.trans (congrArg some (by kernel_rfl))
  f166 := Tryd.func32.trans (congrArg some (by kernel_rfl))
  f169 := Tryd.func35.trans (congrArg some (by kernel_rfl))
  f240 := Tryd.func50.trans (congrArg some (by kernel_rfl))
  f241 := Tryd.func88.trans (congrArg some (by kernel_rfl))
  f276 := Tryd.func63.trans (congrArg some (by kernel_rfl))
  f277 := Tryd.func100.trans (congrArg some (by kernel_rfl))
  t0 := Tryd.underlying0
  a0 := Tryd.isAgg0
  z0 := Tryd.sizeOf0
  v0 := Tryd.zeroValue0
  t3 := Tryd.underlying3
  a3 := Tryd.isAgg3
  z3 := Tryd.sizeOf3
  v3 := Tryd.zeroValue3
  t4 := Tryd.underlying4
  a4 := Tryd.isAgg4
  z4 := Tryd.sizeOf4
  v4 := Tryd.zeroValue4
  t9 := Tryd.underlying9
  a9 := Tryd.isAgg9
  z9 := Tryd.sizeOf9
  v9 := Tryd.zeroValue9
  t20 := Tryd.underlying20
  a20 := Tryd.isAgg20
  z20 := Tryd.sizeOf20
  v20 := Tryd.zeroValue20
  t31 := Tryd.underlying22
  a31 := Tryd.isAgg22
  z31 := Tryd.sizeOf22
  v31 := Tryd.zeroValue22
  t37 := Tryd.underlying58
  a37 := Tryd.isAgg58
  z37 := Tryd.sizeOf58
  v37 := Tryd.zeroValue58
  t70 := Tryd.underlying63
  a70 := Tryd.isAgg63
  z70 := Tryd.sizeOf63
  v70 := Tryd.zeroValue63
  t72 := Tryd.underlying65
  a72 := Tryd.isAgg65
  z72 := Tryd.sizeOf65
  v72 := Tryd.zeroValue65
  t75 := Tryd.underlying67
  a75 := Tryd.isAgg67
  z75 := Tryd.sizeOf67
  v75 := Tryd.zeroValue67
  t76 := Tryd.underlying68
  a76 := Tryd.isAgg68
  z76 := Tryd.sizeOf68
  v76 := Tryd.zeroValue68
  t127 := Tryd.underlying91
  a127 := Tryd.isAgg91
  z127 := Tryd.sizeOf91
  v127 := Tryd.zeroValue91
  t164 := Tryd.underlying102
  a164 := Tryd.isAgg102
  z164 := Tryd.sizeOf102
  v164 := Tryd.zeroValue102 }
theorem Tryd.Builder_Extra_156 : Builder.Extra Tryd.prog Tryd.lays156_ren := {
  sizeBuilder := by kernel_rfl
  liesBuilder := by kernel_rfl
  t5 := Tryd.underlying5
  a5 := Tryd.isAgg5
  z5 := Tryd.sizeOf5
  v5 := Tryd.zeroValue5
  infoByte := by kernel_rfl
  cellsByte := by kernel_rfl
  sizeByte := by kernel_rfl
  neB5 := by decide }
def Tryd.lays146_ren : Go.Shelf.Ren := ⟨fun | 138 => 90 | 143 => 91 | 146 => 61 | 195 => 101 | 197 => 102 | 217 => 80 | 218 => 103 | 219 => 65 | 221 => 74 | 224 => 82 | 225 => 81 | 260 => 107 | 266 => 98 | 267 => 83 | 268 => 89 | 314 => 99 | n => n, fun | 0 => 0 | 3 => 3 | 4 => 4 | 5 => 5 | 9 => 9 | 21 => 21 | 31 => 22 | 46 => 112 | 51 => 31 | 105 => 140 | 119 => 146 | 138 => 148 | 139 => 149 | 146 => 133 | n => n, fun | 1 => 0 | 3 => 6 | 4 => 7 | n => n⟩
theorem Tryd.lays146 : Go.Proofs.Lays.n146 Tryd.prog Tryd.lays146_ren := {
  mixed := by kernel_rfl
  f138 := Tryd.func90.trans (congrArg some (by kernel_rfl))
  f143 := Tryd.func91.trans (congrArg some (by kernel_rfl))
  f146 := Tryd.func61.trans (congrArg some (by kernel_rfl))
  f195 := Tryd.func101.trans (congrArg some (by kernel_rfl))
  f197 := Tryd.func102.trans (congrArg some (by kernel_rfl))
  f217 := Tryd.func80.trans (congrArg some (by kernel_rfl))
  f218 := Tryd.func103.trans (congrArg some (by kernel_rfl))
  f219 := Tryd.func65.trans (congrArg some (by kernel_rfl))
  f221 := Tryd.func74.trans (congrArg some (by kernel_rfl))
  f224 := Tryd.func82.trans (congrArg some (by kernel_rfl))
  f225 := Tryd.func81.trans (congrArg some (by kernel_rfl))
  f260 := Tryd.func107.trans (congrArg some (by kernel_rfl))
  f266 := Tryd.func98.trans (congrArg some (by kernel_rfl))
  f267 := Tryd.func83.trans (congrArg some (by kernel_rfl))
  f268 := Tryd.func89.trans (congrArg some (by kernel_rfl))
  f314 := Tryd.func99.trans (congrArg some (by kernel_rfl))
  t0 := Tryd.underlying0
  a0 := Tryd.isAgg0
  z0 := Tryd.sizeOf0
  v0 := Tryd.zeroValue0
  t3 := Tryd.underlying3
  a3 := Tryd.isAgg3
  z3 := Tryd.sizeOf3
  v3 := Tryd.zeroValue3
  t4 := Tryd.underlying4
  a4 := Tryd.isAgg4
  z4 := Tryd.sizeOf4
  v4 := Tryd.zeroValue4
  t5 := Tryd.underlying5
  a5 := Tryd.isAgg5
  z5 := Tryd.sizeOf5
  v5 := Tryd.zeroValue5
  t9 := Tryd.underlying9
  a9 := Tryd.isAgg9
  z9 := Tryd.sizeOf9
  v9 := Tryd.zeroValue9
  t21 := Tryd.underlying21
  a21 := Tryd.isAgg21
  z21 := Tryd.sizeOf21
  v21 := Tryd.zeroValue21
  t31 := Tryd.underlying22
  a31 := Tryd.isAgg22
  z31 := Tryd.sizeOf22
  v31 := Tryd.zeroValue22
  t46 := Tryd.underlying112
  a46 := Tryd.isAgg112
  z46 := Tryd.sizeOf112
  v46 := Tryd.zeroValue112
  t51 := Tryd.underlying31
  a51 := Tryd.isAgg31
  z51 := Tryd.sizeOf31
  v51 := Tryd.zeroValue31
  t105 := Tryd.underlying140
  a105 := Tryd.isAgg140
  z105 := Tryd.sizeOf140
  v105 := Tryd.zeroValue140
  t119 := Tryd.underlying146
  a119 := Tryd.isAgg146
  z119 := Tryd.sizeOf146
  t138 := Tryd.underlying148
  a138 := Tryd.isAgg148
  z138 := Tryd.sizeOf148
  v138 := Tryd.zeroValue148
  t139 := Tryd.underlying149
  a139 := Tryd.isAgg149
  z139 := Tryd.sizeOf149
  v139 := Tryd.zeroValue149
  t146 := Tryd.underlying133
  a146 := Tryd.isAgg133
  z146 := Tryd.sizeOf133
  v146 := Tryd.zeroValue133
  g1 := by kernel_rfl
  g3 := by kernel_rfl
  g4 := by kernel_rfl }
end Go.Proofs
/-! Texts put together and cut: the library's. -/
set_option linter.unusedVariables false
namespace Go.L21
/-- Cut at every c. -/
def splitC (c : UInt8) : List UInt8 → List (List UInt8)
  | [] => [[]]
  | b :: l => match splitC c l with
    | [] => [[b]]
    | x :: r => if b = c then [] :: x :: r else (b :: x) :: r
theorem splitC_ne (c : UInt8) (l : List UInt8) : splitC c l ≠ [] := by
  cases l with
  | nil => intro h; cases h
  | cons b l =>
    unfold splitC
    split
    · intro h; cases h
    · split <;> (intro h; cases h)
theorem splitC_eq (c : UInt8) (l : List UInt8) : ∃ x r, splitC c l = x :: r := by
  cases h : splitC c l with
  | nil => exact absurd h (splitC_ne c l)
  | cons x r => exact ⟨x, r, rfl⟩
theorem splitC_hit (c : UInt8) (l : List UInt8) : splitC c (c :: l) = [] :: splitC c l := by
  obtain ⟨x, r, h⟩ := splitC_eq c l
  show (match splitC c l with | [] => [[c]] | x :: r => if c = c then [] :: x :: r else (c :: x) :: r) = _
  rw [h]
  simp
theorem splitC_cons {c b : UInt8} (hb : b ≠ c) {l x : List UInt8} {r : List (List UInt8)} (h : splitC c l = x :: r) : splitC c (b :: l) = (b :: x) :: r := by
  show (match splitC c l with | [] => [[b]] | x :: r => if b = c then [] :: x :: r else (b :: x) :: r) = _
  rw [h]
  simp [hb]
theorem splitC_free {c : UInt8} : ∀ {l : List UInt8}, (∀ b ∈ l, b ≠ c) → splitC c l = [l]
  | [], _ => rfl
  | b :: l, h => splitC_cons (h b List.mem_cons_self) (splitC_free fun x hx => h x (List.mem_cons_of_mem _ hx))
theorem splitC_app {c : UInt8} : ∀ {l r : List UInt8}, (∀ b ∈ l, b ≠ c) → splitC c (l ++ c :: r) = l :: splitC c r
  | [], r, _ => splitC_hit c r
  | b :: l, r, h => splitC_cons (h b List.mem_cons_self) (splitC_app fun x hx => h x (List.mem_cons_of_mem _ hx))
theorem splitC_join {c : UInt8} : ∀ {ls : List (List UInt8)}, ls ≠ [] → (∀ l ∈ ls, ∀ b ∈ l, b ≠ c) → splitC c (Lib.join ls [c]) = ls
  | [], h, _ => absurd rfl h
  | [x], _, h => by rw [Lib.join_one]; exact splitC_free (h x List.mem_cons_self)
  | x :: y :: r, _, h => by
    have ih := splitC_join (c := c) (ls := y :: r) (by simp) fun l hl => h l (List.mem_cons_of_mem _ hl)
    have e : Lib.join (x :: y :: r) [c] = x ++ c :: Lib.join (y :: r) [c] := by
      rw [Lib.join_cons, Lib.join_cons]
      simp [Lib.joinTail]
    rw [e, splitC_app (h x List.mem_cons_self), ih]
theorem splitC_index {c : UInt8} : ∀ {l : List UInt8} {i : Nat}, Lib.indexByte l c = (i : Int) → splitC c l = l.take i :: splitC c (l.drop (i + 1))
  | [], i, h => by unfold Lib.indexByte at h; omega
  | b :: l, i, h => by
    unfold Lib.indexByte at h
    split at h
    · rename_i hb
      obtain rfl := beq_iff_eq.1 hb
      obtain rfl : i = 0 := by omega
      exact splitC_hit _ _
    · rename_i hb
      split at h
      · omega
      · rename_i hm
        have hge := Lib.indexByte_ge l c
        have hm : Lib.indexByte l c ≠ -1 := fun e => hm (beq_iff_eq.2 e)
        obtain ⟨j, hj⟩ : ∃ j : Nat, Lib.indexByte l c = (j : Int) := ⟨(Lib.indexByte l c).toNat, by omega⟩
        obtain rfl : i = j + 1 := by omega
        exact splitC_cons (fun e => hb (beq_iff_eq.2 e)) (splitC_index hj)
theorem splitC_miss {c : UInt8} : ∀ {l : List UInt8}, Lib.indexByte l c = -1 → splitC c l = [l]
  | [], _ => rfl
  | b :: l, h => by
    unfold Lib.indexByte at h
    split at h
    · omega
    · rename_i hb
      split at h
      · rename_i hm
        exact splitC_cons (fun e => hb (beq_iff_eq.2 e)) (splitC_miss (beq_iff_eq.1 hm))
      · have hge := Lib.indexByte_ge l c
        omega
theorem count_index {c : UInt8} : ∀ {l : List UInt8} {i : Nat}, Lib.indexByte l c = (i : Int) → l.count c = (l.drop (i + 1)).count c + 1
  | [], i, h => by unfold Lib.indexByte at h; omega
  | b :: l, i, h => by
    unfold Lib.indexByte at h
    split at h
    · rename_i hb
      obtain rfl := beq_iff_eq.1 hb
      obtain rfl : i = 0 := by omega
      simp
    · rename_i hb
      split at h
      · omega
      · rename_i hm
        have hge := Lib.indexByte_ge l c
        have hm : Lib.indexByte l c ≠ -1 := fun e => hm (beq_iff_eq.2 e)
        obtain ⟨j, hj⟩ : ∃ j : Nat, Lib.indexByte l c = (j : Int) := ⟨(Lib.indexByte l c).toNat, by omega⟩
        obtain rfl : i = j + 1 := by omega
        rw [List.count_cons_of_ne (fun e => hb (beq_iff_eq.2 e))]
        exact count_index hj
theorem splitB_C {c : UInt8} : ∀ (k : Nat) (s : ByteArray), s.data.toList.count c = k → (Lib.splitB ⟨#[c]⟩ 0 k s).map (·.data.toList) = splitC c s.data.toList
  | 0, s, h => by
    have : Lib.indexByte s.data.toList c = -1 := by
      have hge := Lib.indexByte_ge s.data.toList c
      rcases Int.lt_or_le (Lib.indexByte s.data.toList c) 0 with h1 | h1
      · omega
      · obtain ⟨j, hj⟩ : ∃ j : Nat, Lib.indexByte s.data.toList c = (j : Int) := ⟨(Lib.indexByte s.data.toList c).toNat, by omega⟩
        have := count_index hj
        omega
    rw [splitC_miss this]; rfl
  | k + 1, s, h => by
    have hI : Lib.indexB s ⟨#[c]⟩ = Lib.indexByte s.data.toList c := Lib.index_one _ _
    have hge := Lib.indexByte_ge s.data.toList c
    rcases Int.lt_or_le (Lib.indexByte s.data.toList c) 0 with h1 | h1
    · have e : Lib.indexByte s.data.toList c = -1 := by omega
      rw [Lib.splitB_miss _ _ _ _ (hI.trans e), splitC_miss e]; rfl
    · obtain ⟨j, hj⟩ : ∃ j : Nat, Lib.indexByte s.data.toList c = (j : Int) := ⟨(Lib.indexByte s.data.toList c).toNat, by omega⟩
      rw [Lib.splitB_hit _ _ _ _ j (hI.trans hj), splitC_index hj, List.map_cons]
      have e1 : (s.extract 0 (j + 0)).data.toList = s.data.toList.take j := Lib.extract_from_zero s j
      have e2 : (s.extract (j + 1) s.size).data.toList = s.data.toList.drop (j + 1) := by rw [Lib.extract_to_end]
      have e3 : (⟨#[c]⟩ : ByteArray).size = 1 := rfl
      rw [e1, e3, splitB_C k _ (by rw [e2]; have := count_index hj; omega), e2]
theorem miss_count {l : List UInt8} {c : UInt8} (h : Lib.indexByte l c = -1) : l.count c = 0 := by
  rw [List.count_eq_zero]
  intro hm
  obtain ⟨k, hk⟩ := List.getElem?_of_mem hm
  exact Lib.indexByte_none h k hk
theorem count_one (c : UInt8) : ∀ (n : Nat) (l : List UInt8), l.length ≤ n → Lib.count l [c] = l.count c
  | n, l, hn => by
    have hge := Lib.indexByte_ge l c
    have hI : Lib.index l [c] = Lib.indexByte l c := Lib.index_one _ _
    rcases Int.lt_or_le (Lib.indexByte l c) 0 with h1 | h1
    · have e : Lib.indexByte l c = -1 := by omega
      rw [Lib.count_miss (hI.trans e), miss_count e]
    · obtain ⟨j, hj⟩ : ∃ j : Nat, Lib.indexByte l c = (j : Int) := ⟨(Lib.indexByte l c).toNat, by omega⟩
      have hl : l ≠ [] := fun e => by rw [e] at hj; have : (-1 : Int) = (j : Int) := hj; omega
      have hpos : 0 < l.length := List.length_pos_iff.2 hl
      cases n with
      | zero => omega
      | succ n =>
        rw [Lib.count_hit (by simp) (hI.trans hj), count_index hj]
        have : ([c] : List UInt8).length = 1 := rfl
        rw [this, count_one c n (l.drop (j + 1)) (by rw [List.length_drop]; omega)]
        omega
theorem countB_one (s : ByteArray) (c : UInt8) : Lib.countB s ⟨#[c]⟩ = s.data.toList.count c := count_one c _ _ (Nat.le_refl _)
theorem s361 (s : ByteArray) (c : UInt8) : S361 s ⟨#[c]⟩ = (splitC c s.data.toList).map bs := by
  unfold S361
  rw [countB_one, ← splitB_C _ s rfl, List.map_map]
  exact (List.map_id _).symm
end Go.L21
namespace Go.Rx
open Go.Ab Go.L21 Go.Proofs Go.RowKit
set_option maxRecDepth 100000
abbrev W360 : CT S [9] [22, 9] := (fun x0 x1 => (some (P360 x0 x1), S360 x0 x1))
abbrev Ok360 : Prop := ConOk P7 60 (ctr P7 [22, 9] [9] W360) ∧ ConMon (ctr P7 [22, 9] [9] W360)
theorem run360 : RunP C0 60 [9] [22, 9] W360 [] := by
  intro (x : List ByteArray) hx (sep : ByteArray) hs hp
  obtain ⟨h0, h1⟩ : P360 x sep := hp _ rfl
  intro imm w vs hok hgl hargs
  obtain ⟨v1, vs1, rfl, hv1, v2, vs2, rfl, hv2, rfl⟩ := hargs
  obtain rfl : v2 = .string sep := hv2
  have hv1 : sliceH (S.E 9) x imm v1 := hv1
  obtain ⟨A, c, rfl, hcell⟩ := cell_strs hok hv1
  have hc : x.length ≤ c := by
    obtain ⟨A2, c2, e, h2, _⟩ := hv1
    cases e; exact h2
  cases x with
  | nil =>
    refine (Any.strings_Join_none Tryd.lays156 Tryd.Builder_Extra_156 A c sep w).mono ?_
    rintro e w' ⟨rfl, rfl⟩
    exact pf_done (rts := [9]) (S360 [] sep) hok (Below.refl _ _) rfl
  | cons y r =>
    obtain ⟨bk, o, rfl, hbk, _⟩ := hcell 0 y rfl
    refine (Any.strings_Join Tryd.lays156 Tryd.Builder_Extra_156 bk o c (y :: r) sep w (fun j z hz => ?_) hbk h0 hc h1).mono ?_
    · obtain ⟨bk', o', e, _, h2⟩ := hcell j z hz
      cases e; exact h2
    rintro e w' ⟨rfl, hb⟩
    exact pf_done (rts := [9]) (S360 (y :: r) sep) hok hb rfl
theorem ok360 : Ok360 := by
  apply con_okP (C := C0) (f := 60) (ts := [22, 9]) (rts := [9]) (W := W360)
  exact run360
theorem Tryd.split_at (s : ByteArray) (c : UInt8) (w : World) (hs : s.size < 4294967281) :
    Calls Proofs.Tryd.prog 61 #[.string s, .string ⟨#[c]⟩] w fun e w' =>
      e = .returned (.slice (some ⟨w.heap.size, 0, none⟩) (Lib.countB s ⟨#[c]⟩ + 1) (Lib.countB s ⟨#[c]⟩ + 1)) ∧ w' = w.alloc (.cells ((Lib.splitB ⟨#[c]⟩ 0 (Lib.countB s ⟨#[c]⟩) s).map Value.string).toArray 9) := by
  have hle := Lib.countB_le ⟨#[c]⟩ (Nat.le_refl 1) s.size s (Nat.le_refl _)
  have hlen := Lib.splitB_all ⟨#[c]⟩ (Nat.le_refl 1) 0 _ s rfl
  have cc := Any.strings_genSplit_core (P := Proofs.Tryd.prog) (ρ := Proofs.Tryd.lays146_ren) { Proofs.Tryd.lays146 with } (by kernel_rfl) s ⟨#[c]⟩ 0 (-1) (Lib.countB s ⟨#[c]⟩ + 1) w hs (Nat.le_refl 1) (Nat.zero_le _)
    (fun x cs hx => (Any.strings_Index_one { Proofs.Tryd.lays146 with } x c _).mono fun e w' ⟨he, hw⟩ => ⟨he.trans (by rw [show Lib.indexB x ⟨#[c]⟩ = Lib.indexByte x.data.toList c from Lib.index_one _ _]), hw⟩)
    ((Any.strings_Count_one { Proofs.Tryd.lays146 with } s c w).mono fun e w' ⟨he, hw⟩ => ⟨he.trans (by rw [countB_one]; rfl), hw⟩)
    (by decide) (by decide) (by rw [if_pos (by decide)]; omega)
  rw [Nat.add_sub_cancel, hlen] at cc
  have e2 : Lib.cellsOf (Lib.splitB ⟨#[c]⟩ 0 (Lib.countB s ⟨#[c]⟩) s) (Lib.countB s ⟨#[c]⟩ + 1) = ((Lib.splitB ⟨#[c]⟩ 0 (Lib.countB s ⟨#[c]⟩) s).map Value.string).toArray := by rw [← hlen]; exact Lib.cellsOf_full _
  rw [e2] at cc
  have cc : Calls Proofs.Tryd.prog 74 #[.string s, .string ⟨#[c]⟩, .int .i64 0, .int .i64 (-1)] w fun e w' => e = .returned (.slice (some ⟨w.heap.size, 0, none⟩) (Lib.countB s ⟨#[c]⟩ + 1) (Lib.countB s ⟨#[c]⟩ + 1)) ∧ w' = w.alloc (.cells ((Lib.splitB ⟨#[c]⟩ 0 (Lib.countB s ⟨#[c]⟩) s).map Value.string).toArray 9) := cc
  clear hle hlen e2
  go_enter Proofs.Tryd.func61, Proofs.Tryd.ntmps61
  go_wp2_with (go_at_call 74; refine cc.mono ?_; rintro e w' ⟨rfl, hw⟩; rw [hw])
  go_ret
  exact ⟨rfl, rfl⟩
abbrev W361 : CT S [22] [9, 9] := (fun x0 x1 => (some (P361 x0 x1), S361 x0 x1))
abbrev Ok361 : Prop := ConOk P7 61 (ctr P7 [9, 9] [22] W361) ∧ ConMon (ctr P7 [9, 9] [22] W361)
theorem fresh_strs {imm : Imm} {w : World} (hok : ImmOk imm w) (l : List ByteArray) (n : Nat) (hn : n = l.length) (h9 : n ≤ 9223372036854775807) (ty : TypeId) :
    ∃ imm', Imm.le imm imm' ∧ ImmOk imm' (w.alloc (.cells (l.map Value.string).toArray ty)) ∧ (∀ b o u, imm' b o = some u → imm b o = some u ∨ w.heap.size ≤ b) ∧ sliceH eS l imm' (.slice (some ⟨w.heap.size, 0, none⟩) n n) := by
  have hfresh : ∀ o, imm w.heap.size o = none := fun o => by
    cases hq : imm w.heap.size o with
    | none => rfl
    | some u =>
      have := hok _ _ _ hq
      unfold World.cell? at this
      rw [Array.getElem?_eq_none (Nat.le_refl _)] at this
      cases this
  have hb : Below w.heap.size w (w.alloc (.cells (l.map Value.string).toArray ty)) := (Below.refl _ w).alloc (Nat.le_refl _) _
  have hget : (w.alloc (.cells (l.map Value.string).toArray ty)).heap[w.heap.size]? = some (.cells (l.map Value.string).toArray ty (0, 0)) := by
    show (w.heap.push _)[w.heap.size]? = _
    rw [Array.getElem?_push_size]
  refine ⟨fun b o => if b = w.heap.size then ((l.map Value.string).toArray)[o]? else imm b o, fun b o u h => ?_, fun b o u h => ?_, fun b o u h => ?_, ?_⟩
  · show (if b = w.heap.size then _ else imm b o) = some u
    rw [if_neg (fun e => by subst e; rw [hfresh] at h; cases h)]
    exact h
  · have h : (if b = w.heap.size then ((l.map Value.string).toArray)[o]? else imm b o) = some u := h
    by_cases e : b = w.heap.size
    · rw [if_pos e] at h
      rw [e, cell_blk hget]; exact h
    · rw [if_neg e] at h
      have hc := hok b o u h
      unfold World.cell? at hc ⊢
      have hb' : b < w.heap.size := by
        split at hc
        · rename_i c _ _ hq; exact (Array.getElem?_eq_some_iff.1 hq).1
        · cases hc
      rw [hb.block b hb']; exact hc
  · have h : (if b = w.heap.size then ((l.map Value.string).toArray)[o]? else imm b o) = some u := h
    by_cases e : b = w.heap.size
    · exact .inr (Nat.le_of_eq e.symm)
    · rw [if_neg e] at h; exact .inl h
  · refine ⟨_, n, by rw [hn], by omega, h9, (fun e => by cases e), fun _ => ⟨w.heap.size, 0, rfl, fun i x hx => ⟨[.string x], ⟨_, [], rfl, rfl, rfl, rfl⟩, fun j u hu => ?_⟩⟩⟩
    cases j with
    | succ j => cases hu
    | zero =>
      cases hu
      show (if w.heap.size = w.heap.size then ((l.map Value.string).toArray)[0 + i * 1 + 0]? else _) = _
      rw [if_pos rfl, List.getElem?_toArray, show 0 + i * 1 + 0 = i by omega, List.getElem?_map, hx]
      rfl
theorem run361 : RunP C0 61 [22] [9, 9] W361 [] := by
  intro (s : ByteArray) hs (t : ByteArray) ht hp
  obtain ⟨h0, h1⟩ : P361 s t := hp _ rfl
  intro imm w vs hok hgl hargs
  obtain ⟨v1, vs1, rfl, hv1, v2, vs2, rfl, hv2, rfl⟩ := hargs
  obtain rfl : v1 = .string s := hv1
  obtain rfl : v2 = .string t := hv2
  obtain ⟨c, rfl⟩ : ∃ c, t = ⟨#[c]⟩ := by
    obtain ⟨⟨l⟩⟩ := t
    match l, h1 with
    | [c], _ => exact ⟨c, rfl⟩
  refine (Tryd.split_at s c w h0).mono ?_
  rintro e w' ⟨rfl, rfl⟩
  have hlen := Lib.splitB_all ⟨#[c]⟩ (Nat.le_refl 1) 0 _ s rfl
  have hle := Lib.countB_le ⟨#[c]⟩ (Nat.le_refl 1) s.size s (Nat.le_refl _)
  obtain ⟨imm', k1, k2, k3, k4⟩ := fresh_strs hok (Lib.splitB ⟨#[c]⟩ 0 (Lib.countB s ⟨#[c]⟩) s) (Lib.countB s ⟨#[c]⟩ + 1) hlen.symm (by omega) 9
  exact ⟨_, _, imm', rfl, enc_clean (S := S) (P := P7) [22] (S361 s ⟨#[c]⟩), rfl, k1, k2, k3, k4, (Below.refl _ w).alloc (Nat.le_refl _) _⟩
theorem ok361 : Ok361 := by
  apply con_okP (C := C0) (f := 61) (ts := [9, 9]) (rts := [22]) (W := W361)
  exact run361
end Go.Rx
/-! Steps as text. -/
namespace Go.Rx
open Go.Ab Go.L21
set_option linter.unusedVariables false
set_option maxRecDepth 100000
theorem okE (k : Nat) : OkE k := by
  induction k with
  | zero => exact con_okP (C := C0) (fun x hx hp => by
      obtain ⟨_, _, h⟩ : DB 0 x := hp _ rfl
      exact absurd (List.length_eq_zero_iff.1 (Nat.le_zero.1 h)) (dec_ne _))
  | succ k ih =>
    refine con_ok (C := C349 k) (n := 6) (kk1 ih) mx7 (by kernel_rfl) ?_
    intro (x : Int) hx hp
    obtain ⟨h0, h1, h2⟩ : DB (k + 1) x := hp _ rfl
    refine of_eq (q349 k x _) ?_
    obtain ⟨u, rfl⟩ : ∃ u : Nat, x = (u : Int) := ⟨x.toNat, by omega⟩
    rw [Int.toNat_natCast] at h2
    have hS : S349 (u : Int) = bs (Lib.decDigits u) := by unfold S349; rw [Int.toNat_natCast]
    refine bif_of (fun hc => ?_) (fun hc => ?_)
    · have hc : u < 10 := by have := of_decide_eq_true hc; omega
      rw [bsOf_one hc]
      show _ = S349 (u : Int)
      rw [hS, Lib.decDigits, dif_pos hc]
    · have hc : ¬ u < 10 := by have := of_decide_eq_false hc; omega
      have e1 : IntKind.u64.wrap ((u : Int).tdiv 10) = ((u / 10 : Nat) : Int) := by
        rw [show ((u : Int).tdiv 10) = ((u / 10 : Nat) : Int) from rfl, wrapU (by omega)]
      have e2 : ((u : Int).tmod 10) = ((u % 10 : Nat) : Int) := rfl
      have e3 : S349 ((u / 10 : Nat) : Int) = bs (Lib.decDigits (u / 10)) := by unfold S349; rw [Int.toNat_natCast]
      have hl := dec_len hc
      rw [e1, e2, bsOf_one (show u % 10 < 10 by omega), e3]
      refine ⟨⟨by omega, by omega, by rw [Int.toNat_natCast]; omega⟩, ?_, ?_⟩
      · rw [size_bs, size_bs]
        have : (Lib.decDigits u).length ≤ 20 := by
          have h := Lib.numDigits_eq u (by omega) (by omega)
          rw [Lib.decDigits_length]; split at h <;> omega
        show _ + 1 ≤ 9223372036854775807
        omega
      · rw [bs_app]
        show _ = S349 (u : Int)
        rw [hS]
        conv => rhs; rw [Lib.decDigits, dif_neg hc]
abbrev W349 : CT S [9] [59] := WD 20
abbrev Ok349 : Prop := OkE 20
theorem ok349 : OkE 20 := okE 20
theorem itoa_nn {u : Int} (h : 0 ≤ u) : Lib.itoa u = Lib.decDigits u.toNat := by
  unfold Lib.itoa; rw [if_neg (by omega)]
theorem s349 {u : Int} (h : 0 ≤ u) : S349 u = bs (Lib.itoa u) := by unfold S349; rw [itoa_nn h]
theorem of_bytes : ∀ (l : List Int), (∀ c ∈ l, 0 ≤ c ∧ c ≤ 255) → ∃ b : List UInt8, l = toI b
  | [], _ => ⟨[], rfl⟩
  | c :: l, h => by
    obtain ⟨b, rfl⟩ := of_bytes l fun x hx => h x (List.mem_cons_of_mem _ hx)
    obtain ⟨h0, h1⟩ := h c List.mem_cons_self
    refine ⟨UInt8.ofNat c.toNat :: b, ?_⟩
    show c :: toI b = ((UInt8.ofNat c.toNat).toNat : Int) :: toI b
    have : (UInt8.ofNat c.toNat).toNat = c.toNat % 256 := by simp
    rw [this, show ((c.toNat % 256 : Nat) : Int) = c by omega]
theorem join9 (a0 a1 a2 a3 a4 a5 a6 a7 a8 : List UInt8) : Lib.join [a0, a1, a2, a3, a4, a5, a6, a7, a8] [32] = a0 ++ [32] ++ a1 ++ [32] ++ a2 ++ [32] ++ a3 ++ [32] ++ a4 ++ [32] ++ a5 ++ [32] ++ a6 ++ [32] ++ a7 ++ [32] ++ a8 := by
  rw [Lib.join_cons]
  simp [Lib.joinTail]
/-- A line, piece by piece. -/
theorem line_eq {s : api_Step} {b : List UInt8} (hb : s.fData = toI b) : lineL s = Lib.itoa s.fKind ++ [32] ++ Lib.itoa s.fA ++ [32] ++ Lib.itoa s.fB ++ [32] ++ Lib.itoa s.fKeep ++ [32] ++ Lib.itoa s.fPrefix.fAddr ++ [32] ++ Lib.itoa s.fPrefix.fLen ++ [32] ++ Lib.itoa s.fNext ++ [32] ++ (120 :: hexL b) ++ [32] ++ (120 :: hexL (textsL (peerL s.fPeer))) ++ [10] := by
  have e : (fieldsS s).map (·.data.toList) = [Lib.itoa s.fKind, Lib.itoa s.fA, Lib.itoa s.fB, Lib.itoa s.fKeep, Lib.itoa s.fPrefix.fAddr, Lib.itoa s.fPrefix.fLen, Lib.itoa s.fNext, 120 :: hexL b, 120 :: hexL (textsL (peerL s.fPeer))] := by
    unfold fieldsS
    rw [hb, bsOf_toI]
    rfl
  unfold lineL joinS
  rw [e]
  show Lib.join _ [32] ++ [10] = _
  rw [join9]
theorem line_len {s : api_Step} (h : okStep s) : (lineL s).length ≤ 13000000 := by
  obtain ⟨hk, ha, hb, hke, had, hle, hne, hda, hpe⟩ := h
  obtain ⟨b, hbb⟩ := of_bytes _ hda.2
  have hbl : b.length = s.fData.length := by rw [hbb, toI_len]
  rw [line_eq hbb]
  have l1 := itoa_len hk
  have l2 := itoa_len ha
  have l3 := itoa_len hb
  have l4 := Lib.decDigits_length s.fKeep.toNat
  have l4 : (Lib.itoa s.fKeep).length ≤ 20 := by rw [itoa_nn hke.1]; exact len20 _ (by omega)
  have l5 : (Lib.itoa s.fPrefix.fAddr).length ≤ 21 := itoa_len ⟨by omega, by omega⟩
  have l6 := itoa_len hle
  have l7 : (Lib.itoa s.fNext).length ≤ 21 := itoa_len ⟨by omega, by omega⟩
  have l8 := peer_len hpe
  have l9 := hexL_len b
  have l10 := hexL_len (textsL (peerL s.fPeer))
  have := hda.1
  simp only [List.length_append, List.length_cons, List.length_nil]
  omega
theorem run347 : RunC C347 6 47 [9] [61] W347 [] := by
  intro (s : api_Step) hx hp
  have h : okStep s := hp _ rfl
  have hll := line_len h
  obtain ⟨hk, ha, hb, hke, had, hle, hne, hda, hpe⟩ := h
  have w1 : IntKind.u64.wrap s.fPrefix.fAddr = s.fPrefix.fAddr := wrapU (by omega)
  have w2 : IntKind.u64.wrap s.fNext = s.fNext := wrapU (by omega)
  refine of_eq (q347 s _) ?_
  rw [w1, w2, List.map_id' s.fData]
  have hj : lineL s = joinS [S333 s.fKind, S333 s.fA, S333 s.fB, S356 s.fKeep 10, S356 s.fPrefix.fAddr 10, S333 s.fPrefix.fLen, S356 s.fNext 10, S359 (bsOf s.fData), S359 (S322 s.fPeer)] (ByteArray.mk #[32]) ++ [10] := rfl
  obtain ⟨b, hbb⟩ := of_bytes _ hda.2
  have hbl : b.length = s.fData.length := by rw [hbb, toI_len]
  have hpl := peer_len hpe
  have hd1 := hda.1
  have e1 : (bsOf s.fData).size = b.length := by rw [hbb, bsOf_toI, size_bs]
  have e2 : (S322 s.fPeer).size = (textsL (peerL s.fPeer)).length := size_bs _
  rw [hj, List.length_append] at hll
  refine ⟨hk, ha, hb, ⟨rfl, hke⟩, ⟨rfl, by omega, by omega⟩, hle, ⟨rfl, by omega, by omega⟩, ?_, ⟨hpe⟩, ?_, ⟨Nat.le_trans (show _ ≤ 9 from Nat.le_refl 9) (by decide), Nat.le_trans (Nat.le_of_add_right_le hll) (by decide)⟩, ?_, ?_⟩
  · show (bsOf s.fData).size ≤ 1099511627776
    omega
  · show (S322 s.fPeer).size ≤ 1099511627776
    omega
  · show (bs _).size + 1 ≤ 9223372036854775807
    rw [size_bs]; exact Nat.le_trans (Nat.add_le_add_right (Nat.le_of_add_right_le hll) 1) (by decide)
  · show bs _ ++ bs [10] = bs (lineL s)
    rw [bs_app, hj]
theorem ok347 : Ok347 := by
  refine con_ok (C := C347) ?_ mx7 (by kernel_rfl) run347
  exact kok_cons ok333 (kok_cons ok356 (kok_cons ok322 (kok_cons ok359 (kk1 ok360))))
theorem steps_take {l : List api_Step} {k : Nat} {y : api_Step} (h : l[k]? = some y) : linesL (l.take (k + 1)) = linesL (l.take k) ++ lineL y := by
  rw [List.take_add_one, h]; simp [linesL]
theorem lines_le (l : List api_Step) (k : Nat) : (linesL (l.take k)).length ≤ (linesL l).length := by
  conv => rhs; rw [← List.take_append_drop k l]
  unfold linesL; rw [List.flatMap_append, List.length_append]; omega
theorem ixS {l : List api_Step} {k : Nat} {y : api_Step} (h : l[k]? = some y) : ix l (k : Int) = y := by
  unfold ix
  rw [Int.toNat_natCast, List.getD_eq_getElem?_getD, h]; rfl
theorem lines_num (l : List api_Step) : l.length ≤ (linesL l).length := by
  induction l with
  | nil => exact Nat.zero_le _
  | cons x r ih =>
    have e : linesL (x :: r) = lineL x ++ linesL r := rfl
    rw [e, List.length_append, List.length_cons]
    have : 1 ≤ (lineL x).length := by unfold lineL; rw [List.length_append]; simp
    omega
theorem run330 : RunC C330 6 30 [9] [49] W330 [] := by
  intro (l : List api_Step) hx hp
  obtain ⟨hok, hlen⟩ : okSteps l := hp _ rfl
  have hnum := lines_num l
  refine of_eq (q330 l _) ?_
  refine LOOP.of (fun y => ∃ k : Nat, y = (bs (linesL (l.take k)), (k : Int)) ∧ k ≤ l.length) (fun y => l.length - y.2.toNat) ⟨0, rfl, by omega⟩ ?_
  rintro _ ⟨k, rfl, hk⟩ J hJ
  dsimp only
  refine bif_of (fun hc => ?_) (fun hc => ?_)
  · have hc := of_decide_eq_true hc
    have hkl : k < l.length := by omega
    have hy : l[k]? = some l[k] := List.getElem?_eq_getElem hkl
    have hst := hok _ (List.getElem_mem hkl)
    generalize l[k] = s at hy hst
    rw [ixS hy]
    have ht := steps_take hy
    have hle := lines_le l (k + 1)
    have hpl := peer_len hst.peer
    obtain ⟨hk0, ha, hb, hke, had, hle0, hne, hda, hpe⟩ := hst
    obtain ⟨b, hbb⟩ := of_bytes _ hda.2
    have hbl : b.length = s.fData.length := by rw [hbb, toI_len]
    have w1 : IntKind.i64.wrap s.fPrefix.fAddr = s.fPrefix.fAddr := wrap64 (by omega)
    have w2 : IntKind.i64.wrap s.fNext = s.fNext := wrap64 (by omega)
    have hdb : DB 20 s.fKeep := by
      obtain ⟨u, hu⟩ : ∃ u : Nat, s.fKeep = (u : Int) := ⟨s.fKeep.toNat, by omega⟩
      rw [hu]; exact db20 u (by omega)
    have hd1 := hda.1
    rw [w1, w2, List.map_id' s.fData, hbb, bsOf_toI, s349 hke.1]
    have e1 : ∀ n, S338 n = bs (Lib.itoa n) := fun n => rfl
    have e2 : (ByteArray.mk #[32]) = bs [32] := rfl
    have e3 : (ByteArray.mk #[32, 120]) = bs [32, 120] := rfl
    have e4 : S331 (bs b) = bs (hexL b) := rfl
    have e5 : S325 s.fPeer = bs (textsL (peerL s.fPeer)) := rfl
    have e6 : ∀ t, S331 (bs t) = bs (hexL t) := fun _ => rfl
    have e7 : (ByteArray.mk #[10]) = bs [10] := rfl
    rw [line_eq hbb] at ht
    rw [ht] at hle
    simp only [e1, e2, e3, e5, e6, e7, bs_app, size_bs]
    have hpl2 := hexL_len (textsL (peerL s.fPeer))
    have hbl2 := hexL_len b
    generalize hexL (textsL (peerL s.fPeer)) = hp8 at *
    generalize hexL b = hp7 at *
    generalize Lib.itoa s.fKind = f0 at *
    generalize Lib.itoa s.fA = f1 at *
    generalize Lib.itoa s.fB = f2 at *
    generalize Lib.itoa s.fKeep = f3 at *
    generalize Lib.itoa s.fPrefix.fAddr = f4 at *
    generalize Lib.itoa s.fPrefix.fLen = f5 at *
    generalize Lib.itoa s.fNext = f6 at *
    simp only [List.length_append, List.length_cons, List.length_nil] at hle
    have hfin : J (bs (linesL (l.take (k + 1))), IntKind.i64.wrap ((k : Int) + 1)) := by
      refine hJ _ ⟨k + 1, by rw [wrap64 (by omega)]; rfl, hkl⟩ ?_
      show l.length - (IntKind.i64.wrap ((k : Int) + 1)).toNat < l.length - ((k : Nat) : Int).toNat
      rw [wrap64 (by omega)]; omega
    rw [ht] at hfin
    refine ⟨⟨by omega, hc⟩, ?_⟩
    repeat' apply And.intro
    all_goals first
      | exact hk0.1 | exact hk0.2 | exact ha.1 | exact ha.2 | exact hb.1 | exact hb.2 | exact hle0.1 | exact hle0.2 | exact hdb | exact ⟨hpe⟩
      | omega
      | (refine Nat.le_trans (m := 14000000) ?_ (by decide); simp only [List.length_append, List.length_cons, List.length_nil]; omega)
      | (refine Nat.le_trans (m := 14000000) ?_ (by decide); show List.length _ ≤ _; omega)
      | (show (bs _).size ≤ _; rw [size_bs]; refine Nat.le_trans (m := 14000000) ?_ (by decide); omega)
      | (simpa [List.append_assoc] using hfin)
  · have hc := of_decide_eq_false hc
    obtain rfl : k = l.length := by omega
    rw [List.take_length]; rfl
theorem ok330 : Ok330 := by
  refine con_ok (C := C330) ?_ mx7 (by kernel_rfl) run330
  exact kok_cons ok338 (kok_cons ok325 (kok_cons ok331 (kk1 ok349)))
theorem sum_takeW {l : List api_Step} {k : Nat} {y : api_Step} (h : l[k]? = some y) : ((l.take (k + 1)).map weight).sum = ((l.take k).map weight).sum + weight y := by
  rw [List.take_add_one, h]; simp
theorem sumW_le (l : List api_Step) (k : Nat) : ((l.take k).map weight).sum ≤ (l.map weight).sum := by
  conv => rhs; rw [← List.take_append_drop k l]
  rw [List.map_append, List.sum_append]; omega
theorem run326 : RunC C326 6 26 [4] [49] W326 [] := by
  intro (l : List api_Step) hx hp
  obtain ⟨hlen, heach⟩ : okSmall l := hp _ rfl
  refine of_eq (q326 l _) ?_
  refine LOOP.of (fun y => ∃ k : Nat, y = (((l.length + ((l.take k).map weight).sum : Nat) : Int), (k : Int)) ∧ k ≤ l.length) (fun y => l.length - y.2.toNat) ⟨0, rfl, by omega⟩ ?_
  rintro _ ⟨k, rfl, hk⟩ J hJ
  dsimp only
  refine bif_of (fun hc => ?_) (fun hc => ?_)
  · simp only [Bool.and_eq_true, decide_eq_true_eq] at hc
    obtain ⟨hc, hn⟩ := hc
    have hkl : k < l.length := by omega
    have hy : l[k]? = some l[k] := List.getElem?_eq_getElem hkl
    obtain ⟨h1, h2, h3⟩ := heach _ (List.getElem_mem hkl)
    have ht := sum_takeW hy
    generalize l[k] = s at hy h1 h2 h3 ht
    rw [ixS hy]
    have hw : IntKind.i64.wrap (IntKind.i64.wrap (((l.length + ((l.take k).map weight).sum : Nat) : Int) + (s.fData.length : Int)) + IntKind.i64.wrap (50 * IntKind.i64.wrap ((s.fPeer.fIn.length : Int) + (s.fPeer.fOut.length : Int)))) = ((l.length + ((l.take (k + 1)).map weight).sum : Nat) : Int) := by
      rw [wrap64 (n := (s.fPeer.fIn.length : Int) + _) (by omega), wrap64 (n := 50 * _) (by omega), wrap64 (n := _ + (s.fData.length : Int)) (by omega), wrap64 (by omega), ht]
      unfold weight
      omega
    rw [hw]
    have hb : (0 : Int) ≤ (k : Int) ∧ (k : Int) < (l.length : Int) := ⟨by omega, hc⟩
    refine ⟨hb, hb, hb, hJ _ ⟨k + 1, ?_, hkl⟩ ?_⟩
    · rw [wrap64 (by omega)]; rfl
    · show l.length - (IntKind.i64.wrap ((k : Int) + 1)).toNat < l.length - ((k : Nat) : Int).toNat
      rw [wrap64 (by omega)]; omega
  · have h60 : decide ((l.length : Int) < 60) = decide (l.length < 60) := decide_eq_decide.2 (by omega)
    have hle := sumW_le l k
    have e1 : decide (((l.length + ((l.take k).map weight).sum : Nat) : Int) < 3000) = decide (l.length + (l.map weight).sum < 3000) := by
      refine decide_eq_decide.2 ?_
      rw [Bool.and_eq_false_iff] at hc
      rcases hc with hc | hc
      · have hc := of_decide_eq_false hc
        obtain rfl : k = l.length := by omega
        rw [List.take_length]; omega
      · have hc := of_decide_eq_false hc
        omega
    show (decide (((l.length + ((l.take k).map weight).sum : Nat) : Int) < 3000) && decide ((l.length : Int) < 60)) = (decide (l.length + (l.map weight).sum < 3000) && decide (l.length < 60))
    rw [h60, e1]
theorem ok326 : Ok326 := con_ok (C := C326) kok_nil mx7 (by kernel_rfl) run326
end Go.Rx
namespace Go.Rx
open Go.Ab Go.L21
set_option maxRecDepth 100000
set_option maxHeartbeats 20000000
set_option linter.unusedVariables false
/-- (*interregnum/row.reader).text -/
noncomputable def C358 : Cfg S := { P := P7, inl := [], K := [], ann := [] }
noncomputable abbrev W358 : S.A 82 → CTB S 82 [9] [] := (fun z => (none, (S358 z).1, (S358 z).2))
abbrev Ok358 : Prop := ConOk P7 58 (ctb (S := S) P7 82 [] [9] W358) ∧ ConMon (ctb (S := S) P7 82 [] [9] W358)
theorem q358 (z : row_reader) (v : HR S [9]) (y : row_reader) : (Xf C358 6 (emp 1) 58 (.loc 0 0 :: argsA C358 []) (boxS 82 z) (fun r m => isR C358.P [9] v r ∧
 isB 82 y m) (fun _ _ => False)) = (bif decide ((↑z.flist.length : Int) = (0 : Int)) then ByteArray.mk #[] = v ∧ row_reader.mk z.flist true = y else ((0 : Int)
 ≤ (0 : Int) ∧ (0 : Int) < (↑z.flist.length : Int)) ∧ ((0 : Int) ≤ (1 : Int) ∧ (1 : Int) ≤ (↑z.flist.length : Int) ∧ (↑z.flist.length : Int) ≤ (↑z.flist.length
 : Int)) ∧ ix z.flist (0 : Int) = v ∧ row_reader.mk (sub z.flist (1 : Int) (↑z.flist.length : Int)) z.fbad = y) := by kernel_rfl
end Go.Rx
namespace Go.Rx
open Go.Ab Go.L21
set_option maxRecDepth 100000
set_option maxHeartbeats 20000000
set_option linter.unusedVariables false
/-- (*interregnum/row.reader).num -/
noncomputable def C344 : Cfg S := { P := P7, inl := [], K := [(37, ctr P7 [9] [3, 67] (fun x0 => (some (P337 x0), S337 x0))), (58, ctb (S := S) P7 82 [] [9] (fun z => (none, (S358 z).1, (S358 z).2)))], ann := [] }
noncomputable abbrev W344 : S.A 82 → CTB S 82 [3] [] := (fun z => (some (P344 z), (S344 z).1, (S344 z).2))
abbrev Ok344 : Prop := ConOk P7 44 (ctb (S := S) P7 82 [] [3] W344) ∧ ConMon (ctb (S := S) P7 82 [] [3] W344)
theorem q344 (z : row_reader) (v : HR S [3]) (y : row_reader) : (Xf C344 6 (emp 1) 44 (.loc 0 0 :: argsA C344 []) (boxS 82 z) (fun r m => isR C344.P [3] v r ∧
 isB 82 y m) (fun _ _ => False)) = (∀ (u : row_reader), u = (S358 z).snd → (S358 z).fst.size.le (nat_lit 281474976710656) ∧ (S337 (S358 z).fst).fst = v ∧
 row_reader.mk u.flist (u.fbad || (S337 (S358 z).fst).snd) = y) := by kernel_rfl
end Go.Rx
namespace Go.Rx
open Go.Ab Go.L21
set_option maxRecDepth 100000
set_option maxHeartbeats 20000000
set_option linter.unusedVariables false
/-- (*interregnum/row.reader).addr -/
noncomputable def C343 : Cfg S := { P := P7, inl := [], K := [(57, ctr P7 [9, 3, 3] [59, 67] (fun x0 x1 x2 => (some (P357 x0 x1 x2), S357 x0 x1 x2))), (58, ctb (S := S) P7 82 [] [9] (fun z => (none, (S358 z).1, (S358 z).2)))], ann := [] }
noncomputable abbrev W343 : S.A 82 → CTB S 82 [31] [] := (fun z => (some (P343 z), (S343 z).1, (S343 z).2))
abbrev Ok343 : Prop := ConOk P7 43 (ctb (S := S) P7 82 [] [31] W343) ∧ ConMon (ctb (S := S) P7 82 [] [31] W343)
theorem q343 (z : row_reader) (v : HR S [31]) (y : row_reader) : (Xf C343 6 (emp 1) 43 (.loc 0 0 :: argsA C343 []) (boxS 82 z) (fun r m => isR C343.P [31] v r
 ∧ isB 82 y m) (fun _ _ => False)) = (∀ (u : row_reader), u = (S358 z).snd → ((S358 z).fst.size ≤ nat_lit 281474976710656 ∧ (10 : Int) = (10 : Int) ∧ ((32 :
 Int) = (32 : Int) ∨ (32 : Int) = (64 : Int))) ∧ IntKind.u32.wrap (S357 (S358 z).fst (10 : Int) (32 : Int)).fst = v ∧ row_reader.mk u.flist (u.fbad || (S357
 (S358 z).fst (10 : Int) (32 : Int)).snd) = y) := by kernel_rfl
end Go.Rx
namespace Go.Rx
open Go.Ab Go.L21
set_option maxRecDepth 100000
set_option maxHeartbeats 20000000
set_option linter.unusedVariables false
/-- (*interregnum/row.reader).prefix -/
noncomputable def C342 : Cfg S := { P := P7, inl := [], K := [(44, ctb (S := S) P7 82 [] [3] (fun z => (some (P344 z), (S344 z).1, (S344 z).2))), (43, ctb (S := S) P7 82 [] [31] (fun z => (some (P343 z), (S343 z).1, (S343 z).2)))], ann := [] }
noncomputable abbrev W342 : S.A 82 → CTB S 82 [33] [] := (fun z => (some (P342 z), (S342 z).1, (S342 z).2))
abbrev Ok342 : Prop := ConOk P7 42 (ctb (S := S) P7 82 [] [33] W342) ∧ ConMon (ctb (S := S) P7 82 [] [33] W342)
theorem q342 (z : row_reader) (v : HR S [33]) (y : row_reader) : (Xf C342 6 (emp 1) 42 (.loc 0 0 :: argsA C342 []) (boxS 82 z) (fun r m => isR C342.P [33] v r
 ∧ isB 82 y m) (fun _ _ => False)) = (PR z ∧ ∀ (u : row_reader), u = (S343 z).snd → PR u ∧ ∀ (u_1 : row_reader), u_1 = (S344 u).snd → api_Prefix.mk (S343
 z).fst (S344 u).fst = v ∧ u_1 = y) := by kernel_rfl
end Go.Rx
namespace Go.Rx
open Go.Ab Go.L21
set_option maxRecDepth 100000
set_option maxHeartbeats 20000000
set_option linter.unusedVariables false
/-- (*interregnum/row.reader).rule -/
noncomputable def C346 : Cfg S := { P := P7, inl := [], K := [(58, ctb (S := S) P7 82 [] [9] (fun z => (none, (S358 z).1, (S358 z).2))), (44, ctb (S := S) P7 82 [] [3] (fun z => (some (P344 z), (S344 z).1, (S344 z).2))), (42, ctb (S := S) P7 82 [] [33] (fun z => (some (P342 z), (S342 z).1, (S342 z).2)))], ann := [] }
noncomputable abbrev W346 : S.A 82 → CTB S 82 [85] [] := (fun z => (some (P346 z), (S346 z).1, (S346 z).2))
abbrev Ok346 : Prop := ConOk P7 46 (ctb (S := S) P7 82 [] [85] W346) ∧ ConMon (ctb (S := S) P7 82 [] [85] W346)
theorem q346 (z : row_reader) (v : HR S [85]) (y : row_reader) : (Xf C346 6 (emp 1) 46 (.loc 0 0 :: argsA C346 []) (boxS 82 z) (fun r m => isR C346.P [85] v r
 ∧ isB 82 y m) (fun _ _ => False)) = (PR z ∧ ∀ (u : row_reader), u = (S342 z).snd → PR u ∧ ∀ (u_1 : row_reader), u_1 = (S344 u).snd → PR u_1 ∧ ∀ (u_2 :
 row_reader), u_2 = (S344 u_1).snd → ∀ (u_3 : row_reader), u_3 = (S358 u_2).snd → PR u_3 ∧ ∀ (u_4 : row_reader), u_4 = (S344 u_3).snd → api_Rule.mk (S342
 z).fst (S344 u).fst (S344 u_1).fst ((S358 u_2).fst.toList == (ByteArray.mk #[(49 : UInt8)]).toList) (S344 u_3).fst = v ∧ u_4 = y) := by kernel_rfl
end Go.Rx
/-! The reader of texts. -/
namespace Go.Rx
open Go.Ab Go.L21
set_option linter.unusedVariables false
set_option maxRecDepth 100000
theorem sub_drop {α : Type} (l : List α) {k : Int} {n : Nat} (h : k.toNat = n) : sub l k (l.length : Int) = l.drop n := by
  unfold sub; rw [h, Int.toNat_natCast, List.take_of_length_le (Nat.le_refl _)]
theorem valI_ok (s : ByteArray) : P333 (valI s) := by
  unfold valI S337 P333
  generalize s.data.toList = l
  have hs : -9223372036854775808 ≤ Lib.atoiSat l ∧ Lib.atoiSat l ≤ 9223372036854775807 := by
    unfold Lib.atoiSat
    split <;> omega
  cases h : Lib.atoiAll l
  rotate_left
  · exact ⟨by show (-9223372036854775808 : Int) ≤ 0; omega, by show (0 : Int) ≤ _; omega⟩
  · exact hs
  · rename_i v
    show -9223372036854775808 ≤ v ∧ v ≤ 9223372036854775807
    unfold Lib.atoiAll at h
    split at h
    · cases h
    · split at h
      · cases h
      · cases h
      · rename_i u hu
        have := Lib.parseMag_lt hu
        simp only at h
        split at h
        · cases h
        · split at h
          · cases h
          · rename_i c r _ h1 h2
            simp only [Lib.NumEnd.ok.injEq] at h
            subst h
            by_cases hn : c.toNat = 45
            · rw [if_pos hn]
              have : ¬ (9223372036854775808 < u) := fun h => h2 ⟨hn, h⟩
              omega
            · rw [if_neg hn]
              have : ¬ (9223372036854775808 ≤ u) := fun h => h1 ⟨hn, h⟩
              omega
theorem parseM_le (M : Nat) : ∀ (l : List UInt8) (acc u : Nat), acc ≤ M → Lib.parseUintM M acc l = .ok u → u ≤ M
  | [], acc, u, ha, h => by cases h; exact ha
  | c :: r, acc, u, ha, h => by
    unfold Lib.parseUintM at h
    split at h
    · split at h
      · cases h
      · split at h
        · cases h
        · rename_i h3
          exact parseM_le M r _ u (by omega) h
    · cases h
theorem s357_range (s : ByteArray) : 0 ≤ valU s ∧ valU s ≤ 4294967295 := by
  unfold valU S357
  show 0 ≤ (endN (Lib.parseUintB 32 s.data.toList) (2 ^ 32 - 1)).1 ∧ (endN (Lib.parseUintB 32 s.data.toList) (2 ^ 32 - 1)).1 ≤ 4294967295
  cases h : Lib.parseUintB 32 s.data.toList
  rotate_left
  · exact ⟨by show (0 : Int) ≤ 0; omega, by show (0 : Int) ≤ _; omega⟩
  · exact ⟨by show (0 : Int) ≤ (2 ^ 32 - 1); omega, by show (2 ^ 32 - 1 : Int) ≤ _; omega⟩
  · rename_i v
    have : v ≤ 2 ^ 32 - 1 := by
      unfold Lib.parseUintB at h
      split at h
      · cases h
      · exact parseM_le _ _ 0 v (Nat.zero_le _) h
    exact ⟨by show (0 : Int) ≤ (v : Int); omega, by show (v : Int) ≤ _; omega⟩
theorem rText_cons (s : ByteArray) (l : List ByteArray) (b : Bool) : rText ⟨s :: l, b⟩ = (s, ⟨l, b⟩) := rfl
theorem rText_eq (r : row_reader) : (∀ x : Unit, r.flist = [] → rText r = (bs [], ⟨[], true⟩)) ∧ ∀ s l, r.flist = s :: l → rText r = (s, ⟨l, r.fbad⟩) := by
  obtain ⟨l, b⟩ := r
  exact ⟨fun _ h => by cases h; rfl, fun s l h => by cases h; rfl⟩
theorem run358 (z : row_reader) : RunB C358 6 58 82 [9] z [] (W358 z) [] := by
  intro _
  refine of_eq (q358 z _ _) ?_
  obtain ⟨l, b⟩ := z
  cases l with
  | nil => exact bif_of (fun _ => ⟨rfl, rfl⟩) (fun h => by simp at h)
  | cons s l =>
    refine bif_of (fun h => ?_) (fun h => ⟨⟨by omega, ?_⟩, ⟨by omega, ?_, by omega⟩, rfl, ?_⟩)
    · have h := of_decide_eq_true h
      simp only [List.length_cons] at h
      omega
    · simp only [List.length_cons]; omega
    · simp only [List.length_cons]; omega
    · rw [sub_drop _ (n := 1) rfl]
      rfl
theorem ok358 : Ok358 := bx_ok (C := C358) kok_nil mx7 (by kernel_rfl) fun x _ => run358 x
theorem pr_text {z : row_reader} (h : PR z) : (S358 z).1.size ≤ 1099511627776 ∧ PR (S358 z).2 := by
  obtain ⟨h⟩ := h
  obtain ⟨l, b⟩ := z
  cases l with
  | nil => exact ⟨by show (bs []).size ≤ _; rw [size_bs]; exact Nat.zero_le _, ⟨fun s hs => by cases hs⟩⟩
  | cons s l => exact ⟨h s List.mem_cons_self, ⟨fun t ht => h t (List.mem_cons_of_mem _ ht)⟩⟩
theorem s344 (z : row_reader) : S344 z = (valI (rText z).1, ⟨(rText z).2.flist, (rText z).2.fbad || (S337 (rText z).1).2⟩) := by
  unfold S344; rw [lk_eq]; rfl
theorem s343 (z : row_reader) : S343 z = (valU (rText z).1, ⟨(rText z).2.flist, (rText z).2.fbad || (S357 (rText z).1 10 32).2⟩) := by
  unfold S343; rw [lk_eq]; rfl
theorem s342 (z : row_reader) : S342 z = rPre z := by unfold S342; rw [lk_eq]
theorem s346 (z : row_reader) : S346 z = rRule z := by unfold S346; rw [lk_eq]
theorem pr_num {z : row_reader} (h : PR z) : PR (S344 z).2 := by
  rw [s344]; exact ⟨(pr_text h).2.1⟩
theorem pr_addr {z : row_reader} (h : PR z) : PR (S343 z).2 := by
  rw [s343]; exact ⟨(pr_text h).2.1⟩
theorem run344 (z : row_reader) : RunB C344 6 44 82 [3] z [] (W344 z) [] := by
  intro hp
  have h : PR z := hp _ rfl
  refine of_eq (q344 z _ _) fun u hu => ?_
  subst hu
  refine ⟨?_, ?_, ?_⟩
  · exact Nat.le_trans (pr_text h).1 (by decide)
  · show _ = (S344 z).1; rw [s344]; rfl
  · show _ = (S344 z).2; rw [s344]; rfl
theorem ok344 : Ok344 := bx_ok (C := C344) (kok_cons ok337 (kok_cons ok358 kok_nil)) mx7 (by kernel_rfl) fun x _ => run344 x
theorem run343 (z : row_reader) : RunB C343 6 43 82 [31] z [] (W343 z) [] := by
  intro hp
  have h : PR z := hp _ rfl
  refine of_eq (q343 z _ _) fun u hu => ?_
  subst hu
  refine ⟨⟨?_, rfl, .inl rfl⟩, ?_, ?_⟩
  · exact Nat.le_trans (pr_text h).1 (by decide)
  · show _ = (S343 z).1; rw [s343]; exact wrap32 (s357_range _)
  · show _ = (S343 z).2; rw [s343]; rfl
theorem ok343 : Ok343 := bx_ok (C := C343) (kok_cons ok357 (kok_cons ok358 kok_nil)) mx7 (by kernel_rfl) fun x _ => run343 x
theorem n344 (z : row_reader) : rNum z = S344 z := by rw [s344]; rfl
theorem n343 (z : row_reader) : rAddr z = S343 z := by rw [s343]; rfl
theorem n358 (z : row_reader) : rText z = S358 z := rfl
theorem r342 (z : row_reader) : S342 z = (⟨(S343 z).1, (S344 (S343 z).2).1⟩, (S344 (S343 z).2).2) := by
  rw [s342]
  show (((⟨(rAddr z).1, (rNum (rAddr z).2).1⟩ : api_Prefix), (rNum (rAddr z).2).2) : api_Prefix × row_reader) = _
  rw [n343, n344]
theorem run342 (z : row_reader) : RunB C342 6 42 82 [33] z [] (W342 z) [] := by
  intro hp
  have h : PR z := hp _ rfl
  refine of_eq (q342 z _ _) ⟨h, fun u hu => ⟨hu ▸ pr_addr h, fun w hw => ?_⟩⟩
  subst hu hw
  show _ = (S342 z).1 ∧ _ = (S342 z).2
  rw [r342]
  exact ⟨rfl, rfl⟩
theorem ok342 : Ok342 := bx_ok (C := C342) (kok_cons ok344 (kok_cons ok343 kok_nil)) mx7 (by kernel_rfl) fun x _ => run342 x
theorem pr_pre {z : row_reader} (h : PR z) : PR (S342 z).2 := by
  rw [s342]
  show PR (rNum (rAddr z).2).2
  rw [n343, n344]
  exact pr_num (pr_addr h)
theorem r346 (z : row_reader) : S346 z =
    (⟨(S342 z).1, (S344 (S342 z).2).1, (S344 (S344 (S342 z).2).2).1, (S358 (S344 (S344 (S342 z).2).2).2).1.toList == [49], (S344 (S358 (S344 (S344 (S342 z).2).2).2).2).1⟩, (S344 (S358 (S344 (S344 (S342 z).2).2).2).2).2) := by
  rw [s346]
  show (((⟨(rPre z).1, (rNum (rPre z).2).1, (rNum (rNum (rPre z).2).2).1, (rText (rNum (rNum (rPre z).2).2).2).1.toList == [49], (rNum (rText (rNum (rNum (rPre z).2).2).2).2).1⟩ : api_Rule), (rNum (rText (rNum (rNum (rPre z).2).2).2).2).2) : api_Rule × row_reader) = _
  rw [← s342]
  simp only [n344, n358]
theorem run346 (z : row_reader) : RunB C346 6 46 82 [85] z [] (W346 z) [] := by
  intro hp
  have h : PR z := hp _ rfl
  refine of_eq (q346 z _ _) ⟨h, fun u hu => ?_⟩
  subst hu
  refine ⟨pr_pre h, fun u hu => ?_⟩
  subst hu
  refine ⟨pr_num (pr_pre h), fun u hu => ?_⟩
  subst hu
  intro u hu
  subst hu
  refine ⟨(pr_text (pr_num (pr_num (pr_pre h)))).2, fun u hu => ?_⟩
  subst hu
  show _ = (S346 z).1 ∧ _ = (S346 z).2
  rw [r346]
  refine ⟨?_, rfl⟩
  have : (⟨#[(49 : UInt8)]⟩ : ByteArray).toList = [49] := by rw [Lib.toList_data]
  rw [this]
theorem ok346 : Ok346 := bx_ok (C := C346) (kok_cons ok358 (kok_cons ok344 (kok_cons ok342 kok_nil))) mx7 (by kernel_rfl) fun x _ => run346 x
theorem pr_rule {z : row_reader} (h : PR z) : PR (S346 z).2 := by
  rw [r346]; exact pr_num (pr_text (pr_num (pr_num (pr_pre h)))).2
end Go.Rx
namespace Go.Rx
open Go.Ab Go.L21
set_option maxRecDepth 100000
set_option maxHeartbeats 20000000
set_option linter.unusedVariables false
/-- interregnum/row.ReadPeer -/
noncomputable def C324 : Cfg S := { P := P7, inl := [], K := [(15, ctr P7 [9] [22, 4] (fun x0 => (some (P315 x0), S315 x0))), (22, ctr P7 [42] [9] (fun x0 => (some (P322 x0), S322 x0))), (44, ctb (S := S) P7 82 [] [3] (fun z => (some (P344 z), (S344 z).1, (S344 z).2))), (46, ctb (S := S) P7 82 [] [85] (fun z => (some (P346 z), (S346 z).1, (S346 z).2)))], ann := [(24, [(6, .hyb [(0, ([], [1])), (1, ([0, 3], [5, 7])), (2, ([], [3])), (4, ([3], [5])), (6, ([], [7]))] (.one 0 (.one 2 (.alt 1 (.alt 3 (.one 4 (.alt 5 (.one 6 (.alt 7 .done .done)) .done)) .done) (.alt 3 (.one 1 (.one 4 (.alt 5 (.one 6 (.alt 7 .done .done)) .done))) .done))))), (8, .hyb [(0, ([], [1])), (1, ([0, 3], [5, 7])), (2, ([], [3])), (4, ([3], [5])), (6, ([], [7]))] (.one 0 (.one 2 (.alt 1 (.alt 3 (.one 4 (.alt 5 (.one 6 (.alt 7 .done .done)) .done)) .done) (.alt 3 (.one 1 (.one 4 (.alt 5 (.one 6 (.alt 7 .done .done)) .done))) .done))))), (7, .loop [(.ce 4 0, .sl 9), (.ce 4 1, .bool), (.ce 5 0, .int .i64), (.ce 5 1, .int .i64), (.ce 5 2, .own 85), (.ce 5 3, .own 85)]), (4, .loop [(.sl 6, .int .i64), (.ce 4 0, .sl 9), (.ce 4 1, .bool), (.ce 5 0, .int .i64), (.ce 5 1, .int .i64), (.ce 5 2, .own 85), (.ce 5 3, .own 85)])])] }
abbrev W324 : CT S [42, 4] [9] := (fun x0 => (some (P324 x0), S324 x0))
abbrev Ok324 : Prop := ConOk P7 24 (ctr P7 [9] [42, 4] W324) ∧ ConMon (ctr P7 [9] [42, 4] W324)
theorem q324 (x0 : ByteArray) (v : HR S [42, 4]) : (Xf C324 9 (emp 0) 24 (argsA C324 [⟨9, x0⟩]) (emp 0) (fun r _ => isR C324.P [42, 4] v r) (fun _ _ => False))
 = (x0.size.le (nat_lit 1099511627776) ∧ PR (row_reader.mk (S315 x0).fst (!(S315 x0).snd && true)) ∧ ∀ (u : row_reader), u = (S344 (row_reader.mk (S315 x0).fst
 (!(S315 x0).snd && true))).snd → PR u ∧ ∀ (u_1 : row_reader), u_1 = (S344 u).snd → PR u_1 ∧ ∀ (u_2 : row_reader), u_2 = (S344 u_1).snd → LOOP (fun (h : Int ×
 List ByteArray × Bool × Int × Int × List api_Rule × List api_Rule) (J : Int × List ByteArray × Bool × Int × Int × List api_Rule × List api_Rule → Prop) => bif
 decide ((0 : Int) < h.fst) && !h.snd.snd.fst then ((PR (row_reader.mk h.snd.fst h.snd.snd.fst) ∧ ∀ (u : row_reader), u = (S346 (row_reader.mk h.snd.fst
 h.snd.snd.fst)).snd → ((h.snd.snd.snd.snd.snd.fst.length = h.snd.snd.snd.snd.snd.fst.length ∧ (h.snd.snd.snd.snd.snd.fst.length + [(S346 (row_reader.mk
 h.snd.fst h.snd.snd.fst)).fst].length) * nat_lit 48 ≤ nat_lit 140737488355328) ∧ ∀ (y : List (api_Rule)), y = h.snd.snd.snd.snd.snd.fst ++ [(S346
 (row_reader.mk h.snd.fst h.snd.snd.fst)).fst] → ((y.length = y.length ∧ h.snd.snd.snd.snd.snd.snd.length = h.snd.snd.snd.snd.snd.snd.length) ∧ J
 (IntKind.i64.wrap (h.fst - (1 : Int)), u.flist, u.fbad, h.snd.snd.snd.fst, h.snd.snd.snd.snd.fst, y, h.snd.snd.snd.snd.snd.snd)) ∧ True) ∧ True) ∧ True) ∧ (PR
 (row_reader.mk h.snd.fst h.snd.snd.fst) ∧ ∀ (u : row_reader), u = (S346 (row_reader.mk h.snd.fst h.snd.snd.fst)).snd → ((h.snd.snd.snd.snd.snd.fst.length =
 h.snd.snd.snd.snd.snd.fst.length ∧ (h.snd.snd.snd.snd.snd.fst.length + [(S346 (row_reader.mk h.snd.fst h.snd.snd.fst)).fst].length) * nat_lit 48 ≤ nat_lit
 140737488355328) ∧ ∀ (y : List (api_Rule)), y = h.snd.snd.snd.snd.snd.fst ++ [(S346 (row_reader.mk h.snd.fst h.snd.snd.fst)).fst] → ((y.length = y.length ∧
 h.snd.snd.snd.snd.snd.snd.length = h.snd.snd.snd.snd.snd.snd.length) ∧ J (IntKind.i64.wrap (h.fst - (1 : Int)), u.flist, u.fbad, h.snd.snd.snd.fst,
 h.snd.snd.snd.snd.fst, y, h.snd.snd.snd.snd.snd.snd)) ∧ True) ∧ True) ∧ True else (h.snd.snd.snd.snd.snd.fst.length = h.snd.snd.snd.snd.snd.fst.length ∧
 h.snd.snd.snd.snd.snd.snd.length = h.snd.snd.snd.snd.snd.snd.length) ∧ LOOP (fun (h : List ByteArray × Bool × Int × Int × List api_Rule × List api_Rule) (J :
 List ByteArray × Bool × Int × Int × List api_Rule × List api_Rule → Prop) => bif decide ((6 : Int) ≤ (↑h.fst.length : Int)) && !h.snd.fst then ((PR
 (row_reader.mk h.fst h.snd.fst) ∧ ∀ (u : row_reader), u = (S346 (row_reader.mk h.fst h.snd.fst)).snd → ((h.snd.snd.snd.snd.snd.length =
 h.snd.snd.snd.snd.snd.length ∧ (h.snd.snd.snd.snd.snd.length + [(S346 (row_reader.mk h.fst h.snd.fst)).fst].length) * nat_lit 48 ≤ nat_lit 140737488355328) ∧
 ∀ (y : List (api_Rule)), y = h.snd.snd.snd.snd.snd ++ [(S346 (row_reader.mk h.fst h.snd.fst)).fst] → ((h.snd.snd.snd.snd.fst.length =
 h.snd.snd.snd.snd.fst.length ∧ y.length = y.length) ∧ J (u.flist, u.fbad, h.snd.snd.fst, h.snd.snd.snd.fst, h.snd.snd.snd.snd.fst, y)) ∧ True) ∧ True) ∧ True)
 ∧ (PR (row_reader.mk h.fst h.snd.fst) ∧ ∀ (u : row_reader), u = (S346 (row_reader.mk h.fst h.snd.fst)).snd → ((h.snd.snd.snd.snd.snd.length =
 h.snd.snd.snd.snd.snd.length ∧ (h.snd.snd.snd.snd.snd.length + [(S346 (row_reader.mk h.fst h.snd.fst)).fst].length) * nat_lit 48 ≤ nat_lit 140737488355328) ∧
 ∀ (y : List (api_Rule)), y = h.snd.snd.snd.snd.snd ++ [(S346 (row_reader.mk h.fst h.snd.fst)).fst] → ((h.snd.snd.snd.snd.fst.length =
 h.snd.snd.snd.snd.fst.length ∧ y.length = y.length) ∧ J (u.flist, u.fbad, h.snd.snd.fst, h.snd.snd.snd.fst, h.snd.snd.snd.snd.fst, y)) ∧ True) ∧ True) ∧ True
 else bif h.snd.fst then (api_PeerConf.mk (0 : Int) (0 : Int) [] [], false) = v else OkP (api_PeerConf.mk h.snd.snd.fst h.snd.snd.snd.fst h.snd.snd.snd.snd.fst
 h.snd.snd.snd.snd.snd) ∧ bif !(S322 (api_PeerConf.mk h.snd.snd.fst h.snd.snd.snd.fst h.snd.snd.snd.snd.fst h.snd.snd.snd.snd.snd)).toList == x0.toList then
 (api_PeerConf.mk (0 : Int) (0 : Int) [] [], false) = v else (api_PeerConf.mk h.snd.snd.fst h.snd.snd.snd.fst h.snd.snd.snd.snd.fst h.snd.snd.snd.snd.snd,
 true) = v) h.snd) ((S344 u_1).fst, u_2.flist, u_2.fbad, (S344 (row_reader.mk (S315 x0).fst (!(S315 x0).snd && true))).fst, (S344 u).fst, [], [])) := by
 kernel_rfl
end Go.Rx
/-! A peer out of its text. -/
namespace Go.Rx
open Go.Ab Go.L21
set_option linter.unusedVariables false
set_option maxRecDepth 100000
theorem t358 (r : row_reader) : (S358 r).2.flist = r.flist.drop 1 ∧ ((S358 r).2.fbad = false → r.fbad = false ∧ 1 ≤ r.flist.length) := by
  obtain ⟨l, b⟩ := r
  cases l with
  | nil => exact ⟨rfl, fun h => by cases h⟩
  | cons s l => exact ⟨rfl, fun h => ⟨h, by simp⟩⟩
theorem t344 (r : row_reader) : (S344 r).2.flist = r.flist.drop 1 ∧ ((S344 r).2.fbad = false → r.fbad = false ∧ 1 ≤ r.flist.length) := by
  rw [s344]
  refine ⟨(t358 r).1, fun h => (t358 r).2 ?_⟩
  have h : ((rText r).2.fbad || (S337 (rText r).1).2) = false := h
  rw [Bool.or_eq_false_iff] at h
  exact h.1
theorem t343 (r : row_reader) : (S343 r).2.flist = r.flist.drop 1 ∧ ((S343 r).2.fbad = false → r.fbad = false ∧ 1 ≤ r.flist.length) := by
  rw [s343]
  refine ⟨(t358 r).1, fun h => (t358 r).2 ?_⟩
  have h : ((rText r).2.fbad || (S357 (rText r).1 10 32).2) = false := h
  rw [Bool.or_eq_false_iff] at h
  exact h.1
theorem v344 (r : row_reader) : P333 (S344 r).1 := by rw [s344]; exact valI_ok _
theorem v343 (r : row_reader) : 0 ≤ (S343 r).1 ∧ (S343 r).1 ≤ 4294967295 := by rw [s343]; exact s357_range _
theorem t346 (r : row_reader) : (S346 r).2.flist = r.flist.drop 6 ∧ ((S346 r).2.fbad = false → r.fbad = false ∧ 6 ≤ r.flist.length) ∧ okRule (S346 r).1 := by
  have key : ∀ r1 r2 r3 r4 r5 : row_reader, r1 = (S343 r).2 → r2 = (S344 r1).2 → r3 = (S344 r2).2 → r4 = (S344 r3).2 → r5 = (S358 r4).2 → S346 r = (⟨⟨(S343 r).1, (S344 r1).1⟩, (S344 r2).1, (S344 r3).1, (S358 r4).1.toList == [49], (S344 r5).1⟩, (S344 r5).2) := by
    rintro _ _ _ _ _ rfl rfl rfl rfl rfl
    rw [r346, r342]
  have k := key _ _ _ _ _ rfl rfl rfl rfl rfl
  have a1 := t343 r
  generalize (S343 r).2 = r1 at *
  have a2 := t344 r1
  generalize e2 : (S344 r1).2 = r2 at *
  have a3 := t344 r2
  generalize e3 : (S344 r2).2 = r3 at *
  have a4 := t344 r3
  generalize e4 : (S344 r3).2 = r4 at *
  have a5 := t358 r4
  generalize e5 : (S358 r4).2 = r5 at *
  have a6 := t344 r5
  rw [k]
  refine ⟨?_, fun h => ?_, v343 _, v344 _, v344 _, v344 _, v344 _⟩
  · show (S344 r5).2.flist = _
    rw [a6.1, a5.1, a4.1, a3.1, a2.1, a1.1]
    simp only [List.drop_drop]
  · have b6 := a6.2 h
    have b5 := a5.2 b6.1
    have b4 := a4.2 b5.1
    have b3 := a3.2 b4.1
    have b2 := a2.2 b3.1
    have b1 := a1.2 b2.1
    refine ⟨b1.1, ?_⟩
    have := b6.2
    rw [a5.1, a4.1, a3.1, a2.1, a1.1] at this
    simp only [List.drop_drop, List.length_drop] at this
    omega
theorem splitN_size (n : Nat) (l : List UInt8) {t : List (List UInt8)} (h : splitN n l = some t) : ∀ y ∈ t, y.length ≤ l.length := by
  induction n generalizing l t with
  | zero => cases h; intro y hy; cases hy
  | succ n ih =>
    unfold splitN at h
    split at h
    · cases h; intro y hy; cases hy
    · split at h
      · cases h
      · rename_i x r hs
        cases hq : splitN n r with
        | none => rw [hq] at h; cases h
        | some u =>
          rw [hq] at h
          cases h
          have h1 := split1_lt hs
          intro y hy
          rcases List.mem_cons.1 hy with rfl | hy
          · rw [split1_is] at hs
            split at hs
            · cases hs
              rw [List.length_take, List.length_drop]; omega
            · cases hs
          · have := ih r hq y hy
            omega
theorem s315_size (x : ByteArray) : ∀ s ∈ (S315 x).1, s.size ≤ x.size := by
  unfold S315
  split
  · intro s hs; cases hs
  · rename_i t ht
    intro s hs
    obtain ⟨y, hy, rfl⟩ := List.mem_map.1 hs
    rw [size_bs]
    exact splitN_size _ _ ht y hy
theorem peer0 (p : api_PeerConf × row_reader) (s : ByteArray) : (match p with | (p, q) => bif q.fbad || !((S322 p).toList == s.toList) then ((⟨0, 0, [], []⟩, false) : api_PeerConf × Bool) else (p, true)) = bif p.2.fbad || !((S322 p.1).toList == s.toList) then (⟨0, 0, [], []⟩, false) else (p.1, true) := rfl
theorem readPeer_eq (r u u1 u2 : row_reader) (hu : u = (S344 r).2) (h1 : u1 = (S344 u).2) (h2 : u2 = (S344 u1).2) (X Y : List api_Rule × row_reader) (hX : inF (u2.flist.length + 1) (S344 u1).1 u2 = X) (hY : outF (X.2.flist.length + 1) X.2 = Y) : readPeer r = (⟨(S344 r).1, (S344 u).1, X.1, Y.1⟩, Y.2) := by
  have e1 : rNum r = ((S344 r).1, u) := by rw [n344, hu]
  have e2 : rNum u = ((S344 u).1, u1) := by rw [n344, h1]
  have e3 : rNum u1 = ((S344 u1).1, u2) := by rw [n344, h2]
  unfold readPeer
  rw [e1]; dsimp only
  rw [e2]; dsimp only
  rw [e3]; dsimp only
  rw [hX]
  obtain ⟨x1, x2⟩ := X
  dsimp only
  rw [hY]
theorem inF_go {k : Nat} {n : Int} {r : row_reader} (h : (decide (0 < n) && !r.fbad) = true) : inF (k + 1) n r = ((S346 r).1 :: (inF k (n - 1) (S346 r).2).1, (inF k (n - 1) (S346 r).2).2) := by
  rw [s346]
  show (match decide (0 < n) && !r.fbad with | true => _ | false => _) = _
  rw [h]
theorem inF_end {k : Nat} {n : Int} {r : row_reader} (h : (decide (0 < n) && !r.fbad) = false) : inF k n r = ([], r) := by
  cases k with
  | zero => rfl
  | succ k =>
  show (match decide (0 < n) && !r.fbad with | true => _ | false => _) = _
  rw [h]
theorem outF_go {k : Nat} {r : row_reader} (h : (decide (6 ≤ r.flist.length) && !r.fbad) = true) : outF (k + 1) r = ((S346 r).1 :: (outF k (S346 r).2).1, (outF k (S346 r).2).2) := by
  rw [s346]
  show (match decide (6 ≤ r.flist.length) && !r.fbad with | true => _ | false => _) = _
  rw [h]
theorem outF_end {k : Nat} {r : row_reader} (h : (decide (6 ≤ r.flist.length) && !r.fbad) = false) : outF k r = ([], r) := by
  cases k with
  | zero => rfl
  | succ k =>
  show (match decide (6 ≤ r.flist.length) && !r.fbad with | true => _ | false => _) = _
  rw [h]
def fuel (r : row_reader) : Nat := r.flist.length + (bif r.fbad then 0 else 1)
/-- The loop over the first rules. -/
def In1 (a b : Int) (X : List api_Rule × row_reader) (L0 : Nat) (y : Int × List ByteArray × Bool × Int × Int × List api_Rule × List api_Rule) : Prop :=
  ∃ n r ins k, y = (n, r.flist, r.fbad, a, b, ins, []) ∧ PR r ∧ P333 n ∧ fuel r ≤ k ∧ (ins ++ (inF k n r).1, (inF k n r).2) = X ∧ (r.fbad = false → 6 * ins.length + r.flist.length = L0) ∧ ins.length + r.flist.length ≤ L0 + (bif r.fbad then 1 else 0) ∧ ∀ x ∈ ins, okRule x
def In2 (a b : Int) (I : List api_Rule) (Y : List api_Rule × row_reader) (L0 : Nat) (y : List ByteArray × Bool × Int × Int × List api_Rule × List api_Rule) : Prop :=
  ∃ r outs k, y = (r.flist, r.fbad, a, b, I, outs) ∧ PR r ∧ fuel r ≤ k ∧ (outs ++ (outF k r).1, (outF k r).2) = Y ∧ (r.fbad = false → 6 * (I.length + outs.length) + r.flist.length = L0) ∧ outs.length + r.flist.length ≤ L0 + (bif r.fbad then 1 else 0) ∧ (∀ x ∈ I, okRule x) ∧ ∀ x ∈ outs, okRule x
theorem fuel_lt {r : row_reader} (hb : r.fbad = false) : fuel (S346 r).2 < fuel r := by
  obtain ⟨t1, t2, t3⟩ := t346 r
  have hlen : (S346 r).2.flist.length = r.flist.length - 6 := by rw [t1, List.length_drop]
  unfold fuel
  rw [hlen, hb]
  cases hq : (S346 r).2.fbad with
  | true => show _ + 0 < _ + 1; omega
  | false => have := (t2 hq).2; show _ + 1 < _ + 1; omega
theorem bif1 (b : Bool) : (bif b then 1 else 0) ≤ 1 := by cases b <;> decide
theorem step1 {a b n : Int} {X : List api_Rule × row_reader} {L0 k : Nat} {r : row_reader} {ins : List api_Rule} (hpr : PR r) (hn : P333 n) (hk : fuel r ≤ k) (hX : (ins ++ (inF k n r).1, (inF k n r).2) = X) (h6 : r.fbad = false → 6 * ins.length + r.flist.length = L0) (hl : ins.length + r.flist.length ≤ L0 + (bif r.fbad then 1 else 0)) (hok : ∀ x ∈ ins, okRule x) (hc : (decide (0 < n) && !r.fbad) = true) :
    In1 a b X L0 (IntKind.i64.wrap (n - 1), (S346 r).2.flist, (S346 r).2.fbad, a, b, ins ++ [(S346 r).1], []) := by
  have hc' := hc
  simp only [Bool.and_eq_true, decide_eq_true_eq, Bool.not_eq_true'] at hc
  obtain ⟨hn0, hb⟩ := hc
  obtain ⟨t1, t2, t3⟩ := t346 r
  have hlen : (S346 r).2.flist.length = r.flist.length - 6 := by rw [t1, List.length_drop]
  have hw : IntKind.i64.wrap (n - 1) = n - 1 := wrap64 (by unfold P333 at hn; omega)
  have hf := fuel_lt hb
  obtain ⟨k, rfl⟩ : ∃ j, k = j + 1 := ⟨k - 1, by omega⟩
  rw [inF_go hc'] at hX
  rw [hb] at hl
  have hl : ins.length + r.flist.length ≤ L0 + 0 := hl
  have h6 := h6 hb
  refine ⟨n - 1, (S346 r).2, ins ++ [(S346 r).1], k, by rw [hw], pr_rule hpr, by unfold P333 at hn ⊢; omega, by omega, ?_, fun h => ?_, ?_, ?_⟩
  · rw [← hX, List.append_assoc]; rfl
  · have := (t2 h).2
    rw [hlen, List.length_append]
    simp only [List.length_cons, List.length_nil]
    omega
  · rw [hlen, List.length_append]
    simp only [List.length_cons, List.length_nil]
    cases hq : (S346 r).2.fbad with
    | true => show _ ≤ L0 + 1; omega
    | false => have := (t2 hq).2; show _ ≤ L0 + 0; omega
  · intro x hx
    rcases List.mem_append.1 hx with hx | hx
    · exact hok x hx
    · rw [List.mem_singleton.1 hx]; exact t3
theorem step2 {a b : Int} {I : List api_Rule} {Y : List api_Rule × row_reader} {L0 k : Nat} {r : row_reader} {outs : List api_Rule} (hpr : PR r) (hk : fuel r ≤ k) (hX : (outs ++ (outF k r).1, (outF k r).2) = Y) (h6 : r.fbad = false → 6 * (I.length + outs.length) + r.flist.length = L0) (hl : outs.length + r.flist.length ≤ L0 + (bif r.fbad then 1 else 0)) (hI : ∀ x ∈ I, okRule x) (hok : ∀ x ∈ outs, okRule x) (hc : (decide (6 ≤ r.flist.length) && !r.fbad) = true) :
    In2 a b I Y L0 ((S346 r).2.flist, (S346 r).2.fbad, a, b, I, outs ++ [(S346 r).1]) := by
  have hc' := hc
  simp only [Bool.and_eq_true, decide_eq_true_eq, Bool.not_eq_true'] at hc
  obtain ⟨hn0, hb⟩ := hc
  obtain ⟨t1, t2, t3⟩ := t346 r
  have hlen : (S346 r).2.flist.length = r.flist.length - 6 := by rw [t1, List.length_drop]
  have hf := fuel_lt hb
  obtain ⟨k, rfl⟩ : ∃ j, k = j + 1 := ⟨k - 1, by omega⟩
  rw [outF_go hc'] at hX
  rw [hb] at hl
  have hl : outs.length + r.flist.length ≤ L0 + 0 := hl
  have h6 := h6 hb
  refine ⟨(S346 r).2, outs ++ [(S346 r).1], k, rfl, pr_rule hpr, by omega, ?_, fun h => ?_, ?_, hI, ?_⟩
  · rw [← hX, List.append_assoc]; rfl
  · rw [hlen, List.length_append]
    simp only [List.length_cons, List.length_nil]
    omega
  · rw [hlen, List.length_append]
    simp only [List.length_cons, List.length_nil]
    have := Nat.zero_le (bif (S346 r).2.fbad then 1 else 0)
    omega
  · intro x hx
    rcases List.mem_append.1 hx with hx | hx
    · exact hok x hx
    · rw [List.mem_singleton.1 hx]; exact t3
theorem run324 : RunC C324 9 24 [42, 4] [9] W324 [] := by
  intro (x : ByteArray) hx hp
  obtain ⟨hsz⟩ : IsP x := hp _ rfl
  have hlen := s315_len x
  have hsize := s315_size x
  refine of_eq (q324 x _) ?_
  rw [Bool.and_true]
  show _ ∧ _
  have hpr : PR ⟨(S315 x).1, !(S315 x).2⟩ := ⟨fun s hs => Nat.le_trans (hsize s hs) (by omega)⟩
  have hS : S324 x = rdPeer x := lk_eq _ _
  refine ⟨Nat.le_trans hsz (by decide), hpr, fun u hu => ?_⟩
  have hpu : PR u := hu ▸ pr_num hpr
  refine ⟨hpu, fun u1 h1 => ?_⟩
  have hp1 : PR u1 := h1 ▸ pr_num hpu
  refine ⟨hp1, fun u2 h2 => ?_⟩
  have hp2 : PR u2 := h2 ▸ pr_num hp1
  have hl2 : u2.flist.length ≤ 40000 := by
    rw [h2, (t344 u1).1, h1, (t344 u).1, hu, (t344 _).1]
    simp only [List.length_drop]
    omega
  generalize hX : inF (u2.flist.length + 1) (S344 u1).1 u2 = X
  generalize hY : outF (X.2.flist.length + 1) X.2 = Y
  have hread := readPeer_eq _ u u1 u2 hu h1 h2 X Y hX hY
  have hfin : S324 x = bif Y.2.fbad || !((S322 (⟨(S344 ⟨(S315 x).1, !(S315 x).2⟩).1, (S344 u).1, X.1, Y.1⟩)).toList == x.toList) then (⟨0, 0, [], []⟩, false) else (⟨(S344 ⟨(S315 x).1, !(S315 x).2⟩).1, (S344 u).1, X.1, Y.1⟩, true) := by
    rw [hS]; unfold rdPeer; rw [hread]
  have va := v344 ⟨(S315 x).1, !(S315 x).2⟩
  have vb := v344 u
  have vn := v344 u1
  show LOOP _ _
  revert hfin hX va vb vn
  generalize (S344 ⟨(S315 x).1, !(S315 x).2⟩).1 = a
  generalize (S344 u).1 = b
  generalize (S344 u1).1 = n0
  intro hX hfin va vb vn
  have f1 : ∀ r : row_reader, fuel r ≤ r.flist.length + 1 := fun r => by
    unfold fuel; cases r.fbad
    · exact Nat.le_refl _
    · exact Nat.le_succ _
  refine LOOP.of (In1 a b X u2.flist.length) (fun y => y.2.1.length + (bif y.2.2.1 then 0 else 1)) ⟨n0, u2, [], _, rfl, hp2, vn, f1 _, hX, fun _ => by simp, by simp, fun x hx => by cases hx⟩ ?_
  rintro _ ⟨n, r, ins, k, rfl, hpr, hn, hk, hX1, h6, hl, hok⟩ J hJ
  dsimp only
  have hb1 := bif1 r.fbad
  refine bif_of (fun hc => ?_) (fun hc => ?_)
  · have hs := step1 hpr hn hk hX1 h6 hl hok hc (a := a) (b := b)
    have hf := fuel_lt (r := r) (by simp only [Bool.and_eq_true, Bool.not_eq_true'] at hc; exact hc.2)
    have key : PR r ∧ ∀ w : row_reader, w = (S346 r).2 → ((ins.length = ins.length ∧ (ins.length + [(S346 r).1].length) * 48 ≤ 140737488355328) ∧ ∀ y : List api_Rule, y = ins ++ [(S346 r).1] → ((y.length = y.length ∧ ([] : List api_Rule).length = ([] : List api_Rule).length) ∧ J (IntKind.i64.wrap (n - 1), w.flist, w.fbad, a, b, y, [])) ∧ True) ∧ True := by
      refine ⟨hpr, fun w hw => ⟨⟨⟨rfl, ?_⟩, fun y hy => ⟨⟨⟨rfl, rfl⟩, ?_⟩, trivial⟩⟩, trivial⟩⟩
      · simp only [List.length_cons, List.length_nil]; omega
      · subst hw hy; exact hJ _ hs hf
    exact ⟨⟨key, trivial⟩, key, trivial⟩
  · rw [inF_end hc] at hX1
    have hX2 : X = (ins, r) := by rw [← hX1, List.append_nil]
    subst hX2
    refine ⟨⟨rfl, rfl⟩, LOOP.of (In2 a b ins Y u2.flist.length) (fun y => y.1.length + (bif y.2.1 then 0 else 1)) ⟨r, [], _, rfl, hpr, f1 _, hY, fun h => by simpa using h6 h, ?_, hok, fun x hx => by cases hx⟩ ?_⟩
    · simp only [List.length_nil]; omega
    rintro _ ⟨q, outs, k2, rfl, hpq, hk2, hY1, h62, hl2', hI, hok2⟩ J2 hJ2
    dsimp only
    have hb2 := bif1 q.fbad
    have e6 : decide ((6 : Int) ≤ (q.flist.length : Int)) = decide (6 ≤ q.flist.length) := decide_eq_decide.2 (by omega)
    rw [e6]
    refine bif_of (fun hc2 => ?_) (fun hc2 => ?_)
    · have hs := step2 hpq hk2 hY1 h62 hl2' hI hok2 hc2 (a := a) (b := b)
      have hf := fuel_lt (r := q) (by simp only [Bool.and_eq_true, Bool.not_eq_true'] at hc2; exact hc2.2)
      have key : PR q ∧ ∀ w : row_reader, w = (S346 q).2 → ((outs.length = outs.length ∧ (outs.length + [(S346 q).1].length) * 48 ≤ 140737488355328) ∧ ∀ y : List api_Rule, y = outs ++ [(S346 q).1] → ((ins.length = ins.length ∧ y.length = y.length) ∧ J2 (w.flist, w.fbad, a, b, ins, y)) ∧ True) ∧ True := by
        refine ⟨hpq, fun w hw => ⟨⟨⟨rfl, ?_⟩, fun y hy => ⟨⟨⟨rfl, rfl⟩, ?_⟩, trivial⟩⟩, trivial⟩⟩
        · simp only [List.length_cons, List.length_nil]; omega
        · subst hw hy; exact hJ2 _ hs hf
      exact ⟨⟨key, trivial⟩, key, trivial⟩
    · rw [outF_end hc2] at hY1
      have hY2 : Y = (outs, q) := by rw [← hY1, List.append_nil]
      subst hY2
      refine bif_of (fun hb => ?_) (fun hb => ⟨?_, ?_⟩)
      · show _ = S324 x
        rw [hfin, hb, Bool.true_or]; rfl
      · have h := h62 hb
        exact ⟨va, vb, by show ins.length ≤ 8000; omega, by show outs.length ≤ 8000; omega, hI, hok2⟩
      · rw [show S324 x = _ from hfin, hb, Bool.false_or]
        refine bif_of (fun h => ?_) (fun h => ?_)
        · show _ = (bif _ then _ else _)
          rw [h]; rfl
        · show _ = (bif _ then _ else _)
          rw [h]; rfl
theorem ok324 : Ok324 := con_ok (C := C324) (kok_cons ok315 (kok_cons ok322 (kok_cons ok344 (kok_cons ok346 kok_nil)))) mx7 (by kernel_rfl) run324
end Go.Rx
namespace Go.Rx
open Go.Ab Go.L21
set_option maxRecDepth 100000
set_option maxHeartbeats 20000000
set_option linter.unusedVariables false
/-- interregnum/script.step -/
noncomputable def C348 : Cfg S := { P := P7, inl := [], K := [(37, ctr P7 [9] [3, 67] (fun x0 => (some (P337 x0), S337 x0))), (57, ctr P7 [9, 3, 3] [59, 67] (fun x0 x1 x2 => (some (P357 x0 x1 x2), S357 x0 x1 x2))), (24, ctr P7 [9] [42, 4] (fun x0 => (some (P324 x0), S324 x0))), (61, ctr P7 [9, 9] [22] (fun x0 x1 => (some (P361 x0 x1), S361 x0 x1))), (62, ctr P7 [9] [9, 4] (fun x0 => (some (P362 x0), S362 x0))), (47, ctr P7 [61] [9] (fun x0 => (some (P347 x0), S347 x0)))], ann := [(48, [(7, .loop [(.tl 5, .run), (.sl 6, .bool), (.sl 32, .int .i64)])])] }
abbrev W348 : CT S [61, 4] [9] := (fun x0 => (some (P348 x0), S348 x0))
abbrev Ok348 : Prop := ConOk P7 48 (ctr P7 [9] [61, 4] W348) ∧ ConMon (ctr P7 [9] [61, 4] W348)
theorem q348 (x0 : ByteArray) (v : HR S [61, 4]) : (Xf C348 6 (emp 0) 48 (argsA C348 [⟨9, x0⟩]) (emp 0) (fun r _ => isR C348.P [61, 4] v r) (fun _ _ => False))
 = ((x0.size < nat_lit 4294967281 ∧ nat_lit 1 = nat_lit 1) ∧ bif !decide ((↑(S361 x0 (ByteArray.mk #[(32 : UInt8)])).length : Int) = (9 : Int)) then
 (api_Step.mk (0 : Int) (0 : Int) (0 : Int) [] (api_PeerConf.mk (0 : Int) (0 : Int) [] []) (api_Prefix.mk (0 : Int) (0 : Int)) (0 : Int) (0 : Int), false) = v
 else nat_lit 0 = nat_lit 0 ∧ LOOP (fun (h : List Int × Bool × Int) (J : List Int × Bool × Int → Prop) => bif decide (h.snd.snd < (↑(nat_lit 4) : Int)) then
 ((0 : Int) ≤ h.snd.snd ∧ h.snd.snd < (↑(nat_lit 4) : Int)) ∧ ((0 : Int) ≤ ix [(0 : Int), (1 : Int), (2 : Int), (5 : Int)] h.snd.snd ∧ ix [(0 : Int), (1 :
 Int), (2 : Int), (5 : Int)] h.snd.snd < (↑(S361 x0 (ByteArray.mk #[(32 : UInt8)])).length : Int)) ∧ (ix (S361 x0 (ByteArray.mk #[(32 : UInt8)])) (ix [(0 :
 Int), (1 : Int), (2 : Int), (5 : Int)] h.snd.snd)).size.le (nat_lit 281474976710656) ∧ ((0 : Int) ≤ h.snd.snd ∧ h.snd.snd < (↑(nat_lit 5) : Int)) ∧
 h.snd.snd.toNat < h.fst.length ∧ nat_lit 0 = nat_lit 0 ∧ J (h.fst.set h.snd.snd.toNat (S337 (ix (S361 x0 (ByteArray.mk #[(32 : UInt8)])) (ix [(0 : Int), (1 :
 Int), (2 : Int), (5 : Int)] h.snd.snd))).fst, h.snd.fst && !(S337 (ix (S361 x0 (ByteArray.mk #[(32 : UInt8)])) (ix [(0 : Int), (1 : Int), (2 : Int), (5 :
 Int)] h.snd.snd))).snd, IntKind.i64.wrap (h.snd.snd + (1 : Int))) else ((0 : Int) ≤ (3 : Int) ∧ (3 : Int) < (↑(S361 x0 (ByteArray.mk #[(32 : UInt8)])).length
 : Int)) ∧ ((ix (S361 x0 (ByteArray.mk #[(32 : UInt8)])) (3 : Int)).size ≤ nat_lit 281474976710656 ∧ (10 : Int) = (10 : Int) ∧ ((64 : Int) = (32 : Int) ∨ (64 :
 Int) = (64 : Int))) ∧ ((0 : Int) ≤ (4 : Int) ∧ (4 : Int) < (↑(S361 x0 (ByteArray.mk #[(32 : UInt8)])).length : Int)) ∧ ((ix (S361 x0 (ByteArray.mk #[(32 :
 UInt8)])) (4 : Int)).size ≤ nat_lit 281474976710656 ∧ (10 : Int) = (10 : Int) ∧ ((32 : Int) = (32 : Int) ∨ (32 : Int) = (64 : Int))) ∧ ((0 : Int) ≤ (6 : Int)
 ∧ (6 : Int) < (↑(S361 x0 (ByteArray.mk #[(32 : UInt8)])).length : Int)) ∧ ((ix (S361 x0 (ByteArray.mk #[(32 : UInt8)])) (6 : Int)).size ≤ nat_lit
 281474976710656 ∧ (10 : Int) = (10 : Int) ∧ ((32 : Int) = (32 : Int) ∨ (32 : Int) = (64 : Int))) ∧ ((0 : Int) ≤ (7 : Int) ∧ (7 : Int) < (↑(S361 x0
 (ByteArray.mk #[(32 : UInt8)])).length : Int)) ∧ (ix (S361 x0 (ByteArray.mk #[(32 : UInt8)])) (7 : Int)).size.le (nat_lit 1099511627776) ∧ ((0 : Int) ≤ (8 :
 Int) ∧ (8 : Int) < (↑(S361 x0 (ByteArray.mk #[(32 : UInt8)])).length : Int)) ∧ (ix (S361 x0 (ByteArray.mk #[(32 : UInt8)])) (8 : Int)).size.le (nat_lit
 1099511627776) ∧ IsP (S362 (ix (S361 x0 (ByteArray.mk #[(32 : UInt8)])) (8 : Int))).fst ∧ ((0 : Int) ≤ (0 : Int) ∧ (0 : Int) < (↑(nat_lit 5) : Int)) ∧ nat_lit
 0 < h.fst.length ∧ ((0 : Int) ≤ (1 : Int) ∧ (1 : Int) < (↑(nat_lit 5) : Int)) ∧ nat_lit 1 < h.fst.length ∧ ((0 : Int) ≤ (2 : Int) ∧ (2 : Int) < (↑(nat_lit 5)
 : Int)) ∧ nat_lit 2 < h.fst.length ∧ ((0 : Int) ≤ (3 : Int) ∧ (3 : Int) < (↑(nat_lit 5) : Int)) ∧ nat_lit 3 < h.fst.length ∧ (S362 (ix (S361 x0 (ByteArray.mk
 #[(32 : UInt8)])) (7 : Int))).fst.size ≤ nat_lit 9223372036854775807 ∧ ((h.snd.fst && !(S357 (ix (S361 x0 (ByteArray.mk #[(32 : UInt8)])) (3 : Int)) (10 :
 Int) (64 : Int)).snd && !(S357 (ix (S361 x0 (ByteArray.mk #[(32 : UInt8)])) (4 : Int)) (10 : Int) (32 : Int)).snd && !(S357 (ix (S361 x0 (ByteArray.mk #[(32 :
 UInt8)])) (6 : Int)) (10 : Int) (32 : Int)).snd && (S362 (ix (S361 x0 (ByteArray.mk #[(32 : UInt8)])) (7 : Int))).snd && (S362 (ix (S361 x0 (ByteArray.mk
 #[(32 : UInt8)])) (8 : Int))).snd && (S324 (S362 (ix (S361 x0 (ByteArray.mk #[(32 : UInt8)])) (8 : Int))).fst).snd) = true → x0.size + nat_lit 1 ≤ nat_lit
 9223372036854775807) ∧ bif h.snd.fst && !(S357 (ix (S361 x0 (ByteArray.mk #[(32 : UInt8)])) (3 : Int)) (10 : Int) (64 : Int)).snd && !(S357 (ix (S361 x0
 (ByteArray.mk #[(32 : UInt8)])) (4 : Int)) (10 : Int) (32 : Int)).snd && !(S357 (ix (S361 x0 (ByteArray.mk #[(32 : UInt8)])) (6 : Int)) (10 : Int) (32 :
 Int)).snd && (S362 (ix (S361 x0 (ByteArray.mk #[(32 : UInt8)])) (7 : Int))).snd && (S362 (ix (S361 x0 (ByteArray.mk #[(32 : UInt8)])) (8 : Int))).snd && (S324
 (S362 (ix (S361 x0 (ByteArray.mk #[(32 : UInt8)])) (8 : Int))).fst).snd then okStep (api_Step.mk (ix h.fst (0 : Int)) (ix h.fst (1 : Int)) (ix h.fst (2 :
 Int)) (List.map (fun (c : UInt8) => (↑c.toNat : Int)) (S362 (ix (S361 x0 (ByteArray.mk #[(32 : UInt8)])) (7 : Int))).fst.data.toList) (S324 (S362 (ix (S361 x0
 (ByteArray.mk #[(32 : UInt8)])) (8 : Int))).fst).fst (api_Prefix.mk (IntKind.u32.wrap (S357 (ix (S361 x0 (ByteArray.mk #[(32 : UInt8)])) (4 : Int)) (10 : Int)
 (32 : Int)).fst) (ix h.fst (3 : Int))) (IntKind.u32.wrap (S357 (ix (S361 x0 (ByteArray.mk #[(32 : UInt8)])) (6 : Int)) (10 : Int) (32 : Int)).fst) (S357 (ix
 (S361 x0 (ByteArray.mk #[(32 : UInt8)])) (3 : Int)) (10 : Int) (64 : Int)).fst) ∧ (api_Step.mk (ix h.fst (0 : Int)) (ix h.fst (1 : Int)) (ix h.fst (2 : Int))
 (List.map (fun (c : UInt8) => (↑c.toNat : Int)) (S362 (ix (S361 x0 (ByteArray.mk #[(32 : UInt8)])) (7 : Int))).fst.data.toList) (S324 (S362 (ix (S361 x0
 (ByteArray.mk #[(32 : UInt8)])) (8 : Int))).fst).fst (api_Prefix.mk (IntKind.u32.wrap (S357 (ix (S361 x0 (ByteArray.mk #[(32 : UInt8)])) (4 : Int)) (10 : Int)
 (32 : Int)).fst) (ix h.fst (3 : Int))) (IntKind.u32.wrap (S357 (ix (S361 x0 (ByteArray.mk #[(32 : UInt8)])) (6 : Int)) (10 : Int) (32 : Int)).fst) (S357 (ix
 (S361 x0 (ByteArray.mk #[(32 : UInt8)])) (3 : Int)) (10 : Int) (64 : Int)).fst, (S347 (api_Step.mk (ix h.fst (0 : Int)) (ix h.fst (1 : Int)) (ix h.fst (2 :
 Int)) (List.map (fun (c : UInt8) => (↑c.toNat : Int)) (S362 (ix (S361 x0 (ByteArray.mk #[(32 : UInt8)])) (7 : Int))).fst.data.toList) (S324 (S362 (ix (S361 x0
 (ByteArray.mk #[(32 : UInt8)])) (8 : Int))).fst).fst (api_Prefix.mk (IntKind.u32.wrap (S357 (ix (S361 x0 (ByteArray.mk #[(32 : UInt8)])) (4 : Int)) (10 : Int)
 (32 : Int)).fst) (ix h.fst (3 : Int))) (IntKind.u32.wrap (S357 (ix (S361 x0 (ByteArray.mk #[(32 : UInt8)])) (6 : Int)) (10 : Int) (32 : Int)).fst) (S357 (ix
 (S361 x0 (ByteArray.mk #[(32 : UInt8)])) (3 : Int)) (10 : Int) (64 : Int)).fst)).toList == (x0 ++ ByteArray.mk #[(10 : UInt8)]).toList) = v else (api_Step.mk
 (ix h.fst (0 : Int)) (ix h.fst (1 : Int)) (ix h.fst (2 : Int)) (List.map (fun (c : UInt8) => (↑c.toNat : Int)) (S362 (ix (S361 x0 (ByteArray.mk #[(32 :
 UInt8)])) (7 : Int))).fst.data.toList) (S324 (S362 (ix (S361 x0 (ByteArray.mk #[(32 : UInt8)])) (8 : Int))).fst).fst (api_Prefix.mk (IntKind.u32.wrap (S357
 (ix (S361 x0 (ByteArray.mk #[(32 : UInt8)])) (4 : Int)) (10 : Int) (32 : Int)).fst) (ix h.fst (3 : Int))) (IntKind.u32.wrap (S357 (ix (S361 x0 (ByteArray.mk
 #[(32 : UInt8)])) (6 : Int)) (10 : Int) (32 : Int)).fst) (S357 (ix (S361 x0 (ByteArray.mk #[(32 : UInt8)])) (3 : Int)) (10 : Int) (64 : Int)).fst, false) = v)
 ([(0 : Int), (0 : Int), (0 : Int), (0 : Int), (0 : Int)], true, (0 : Int))) := by kernel_rfl
end Go.Rx
/-! A step out of a line. -/
namespace Go.Rx
open Go.Ab Go.L21
set_option linter.unusedVariables false
set_option maxRecDepth 100000
theorem inF_ok : ∀ (k : Nat) (n : Int) (r : row_reader), (∀ x ∈ (inF k n r).1, okRule x) ∧ ((inF k n r).2.fbad = false → r.fbad = false ∧ 6 * (inF k n r).1.length + (inF k n r).2.flist.length = r.flist.length)
  | 0, n, r => ⟨fun x hx => (by cases hx), fun h => ⟨h, by show 6 * 0 + _ = _; rw [Nat.mul_zero, Nat.zero_add]; rfl⟩⟩
  | k + 1, n, r => by
    cases hc : (decide (0 < n) && !r.fbad) with
    | false => rw [inF_end hc]; exact ⟨fun x hx => (by cases hx), fun h => ⟨h, by show 6 * 0 + _ = _; rw [Nat.mul_zero, Nat.zero_add]⟩⟩
    | true =>
      rw [inF_go hc]
      obtain ⟨h1, h2⟩ := inF_ok k (n - 1) (S346 r).2
      obtain ⟨t1, t2, t3⟩ := t346 r
      refine ⟨fun x hx => ?_, fun h => ?_⟩
      · rcases List.mem_cons.1 hx with rfl | hx
        · exact t3
        · exact h1 x hx
      · obtain ⟨h3, h4⟩ := h2 h
        obtain ⟨h5, h6⟩ := t2 h3
        refine ⟨h5, ?_⟩
        rw [t1, List.length_drop] at h4
        dsimp only
        rw [List.length_cons]
        omega
theorem outF_ok : ∀ (k : Nat) (r : row_reader), (∀ x ∈ (outF k r).1, okRule x) ∧ ((outF k r).2.fbad = false → r.fbad = false ∧ 6 * (outF k r).1.length + (outF k r).2.flist.length = r.flist.length)
  | 0, r => ⟨fun x hx => (by cases hx), fun h => ⟨h, by show 6 * 0 + _ = _; rw [Nat.mul_zero, Nat.zero_add]; rfl⟩⟩
  | k + 1, r => by
    cases hc : (decide (6 ≤ r.flist.length) && !r.fbad) with
    | false => rw [outF_end hc]; exact ⟨fun x hx => (by cases hx), fun h => ⟨h, by show 6 * 0 + _ = _; rw [Nat.mul_zero, Nat.zero_add]⟩⟩
    | true =>
      rw [outF_go hc]
      obtain ⟨h1, h2⟩ := outF_ok k (S346 r).2
      obtain ⟨t1, t2, t3⟩ := t346 r
      refine ⟨fun x hx => ?_, fun h => ?_⟩
      · rcases List.mem_cons.1 hx with rfl | hx
        · exact t3
        · exact h1 x hx
      · obtain ⟨h3, h4⟩ := h2 h
        obtain ⟨h5, h6⟩ := t2 h3
        refine ⟨h5, ?_⟩
        rw [t1, List.length_drop] at h4
        dsimp only
        rw [List.length_cons]
        omega
theorem s324_ok {s : ByteArray} (hs : IsP s) (h : (S324 s).2 = true) : okPeer (S324 s).1 ∧ S322 (S324 s).1 = s := by
  obtain ⟨hsz⟩ := hs
  have hlen := s315_len s
  have hS : S324 s = rdPeer s := lk_eq _ _
  have hread := readPeer_eq ⟨(S315 s).1, !(S315 s).2⟩ _ _ _ rfl rfl rfl _ _ rfl rfl
  have va := v344 ⟨(S315 s).1, !(S315 s).2⟩
  have vb := v344 (S344 ⟨(S315 s).1, !(S315 s).2⟩).2
  generalize hr0 : (⟨(S315 s).1, !(S315 s).2⟩ : row_reader) = r0 at *
  have t0 := (t344 r0).1
  have t1 := (t344 (S344 r0).2).1
  have t2 := (t344 (S344 (S344 r0).2).2).1
  have hl0 : r0.flist.length ≤ 40000 := by rw [← hr0]; show (S315 s).1.length ≤ _; omega
  generalize (S344 r0).1 = a at *
  generalize (S344 (S344 r0).2).1 = b at *
  have hl2 : (S344 (S344 (S344 r0).2).2).2.flist.length ≤ 40000 := by
    rw [t2, t1, t0]; simp only [List.length_drop]; omega
  generalize (S344 (S344 (S344 r0).2).2).2 = q at *
  generalize (S344 (S344 (S344 r0).2).2).1 = n at *
  obtain ⟨i1, i2⟩ := inF_ok (q.flist.length + 1) n q
  generalize inF (q.flist.length + 1) n q = X at *
  obtain ⟨o1, o2⟩ := outF_ok (X.2.flist.length + 1) X.2
  generalize outF (X.2.flist.length + 1) X.2 = Y at *
  have hfin : S324 s = bif Y.2.fbad || !((S322 (⟨a, b, X.1, Y.1⟩)).toList == s.toList) then (⟨0, 0, [], []⟩, false) else (⟨a, b, X.1, Y.1⟩, true) := by
    rw [hS]; unfold rdPeer; rw [hr0, hread]
  cases hc : (Y.2.fbad || !((S322 (⟨a, b, X.1, Y.1⟩)).toList == s.toList)) with
  | true => rw [hfin, hc] at h; cases h
  | false =>
    rw [hfin, hc]
    rw [Bool.or_eq_false_iff, Bool.not_eq_false'] at hc
    obtain ⟨hb, he⟩ := hc
    obtain ⟨p1, p2⟩ := o2 hb
    obtain ⟨p3, p4⟩ := i2 p1
    refine ⟨⟨va, vb, by show X.1.length ≤ 8000; omega, by show Y.1.length ≤ 8000; omega, i1, o1⟩, ?_⟩
    have he := beq_iff_eq.1 he
    rw [Lib.toList_data, Lib.toList_data] at he
    exact ba_eq he
theorem splitC_len (c : UInt8) : ∀ (l : List UInt8), ∀ y ∈ splitC c l, y.length ≤ l.length
  | [], y, hy => by
    have : y = [] := by simpa [splitC] using hy
    rw [this]; exact Nat.le_refl _
  | b :: l, y, hy => by
    obtain ⟨x, r, h⟩ := splitC_eq c l
    have ih := splitC_len c l
    rw [h] at ih
    by_cases hb : b = c
    · subst hb
      rw [splitC_hit, h] at hy
      rcases List.mem_cons.1 hy with rfl | hy
      · exact Nat.zero_le _
      · have := ih y hy; rw [List.length_cons]; omega
    · rw [splitC_cons hb h] at hy
      rcases List.mem_cons.1 hy with rfl | hy
      · have := ih x List.mem_cons_self; rw [List.length_cons, List.length_cons]; omega
      · have := ih y (List.mem_cons_of_mem _ hy); rw [List.length_cons]; omega
theorem s361_size (x : ByteArray) : ∀ s ∈ S361 x sp, s.size ≤ x.size := by
  intro s hs
  rw [show sp = ⟨#[32]⟩ from rfl, s361] at hs
  obtain ⟨y, hy, rfl⟩ := List.mem_map.1 hs
  rw [size_bs, Lib.size_eq x]
  exact splitC_len 32 _ y hy
theorem unhex_len : ∀ (l t : List UInt8), unhex l = some t → 2 * t.length ≤ l.length
  | [], t, h => by cases h; exact Nat.le_refl _
  | [a], t, h => by cases h; exact Nat.zero_le _
  | a :: b :: r, t, h => by
    rw [unhex] at h
    cases hm : hexM 0 [a, b] with
    | none => rw [hm] at h; cases h
    | some v =>
      rw [hm] at h
      cases hu : unhex r with
      | none => rw [hu] at h; cases h
      | some u =>
        rw [hu] at h
        cases h
        have := unhex_len r u hu
        simp only [List.length_cons]; omega
theorem s362_size (s : ByteArray) : 2 * (S362 s).1.size ≤ s.size := by
  rw [s362, Lib.size_eq s]
  generalize s.data.toList = l
  cases l with
  | nil => exact Nat.le_refl _
  | cons c r =>
    show 2 * (bif (c == 120 && decide (r.length % 2 = 0)) then (match unhex r with | some l => ((bs l, true) : ByteArray × Bool) | none => (bs [], false)) else (bs [], false)).1.size ≤ (c :: r).length
    cases (c == 120 && decide (r.length % 2 = 0)) with
    | false => exact Nat.zero_le _
    | true =>
      rw [cond_true]
      cases hu : unhex r with
      | none => exact Nat.zero_le _
      | some t =>
        have := unhex_len r t hu
        show 2 * (bs t).size ≤ _
        rw [size_bs, List.length_cons]; omega
theorem s357_64 (s : ByteArray) : 0 ≤ (S357 s 10 64).1 ∧ (S357 s 10 64).1 < 18446744073709551616 := by
  show 0 ≤ (endN (Lib.parseUintB 64 s.data.toList) (2 ^ 64 - 1)).1 ∧ (endN (Lib.parseUintB 64 s.data.toList) (2 ^ 64 - 1)).1 < 18446744073709551616
  cases h : Lib.parseUintB 64 s.data.toList
  rotate_left
  · exact ⟨by show (0 : Int) ≤ 0; omega, by show (0 : Int) < _; omega⟩
  · exact ⟨by show (0 : Int) ≤ (2 ^ 64 - 1); omega, by show (2 ^ 64 - 1 : Int) < _; omega⟩
  · rename_i v
    have : v ≤ 2 ^ 64 - 1 := by
      unfold Lib.parseUintB at h
      split at h
      · cases h
      · exact parseM_le _ _ 0 v (Nat.zero_le _) h
    exact ⟨by show (0 : Int) ≤ (v : Int); omega, by show (v : Int) < _; omega⟩
theorem okStep_of {L : List ByteArray} {N : Nat} (hN : N ≤ 70000) (hL : ∀ s ∈ L, s.size ≤ N) (h9 : L.length = 9) (h : (S324 (S362 (L.getD 8 (bs []))).1).2 = true) : okStep (stepOf L) := by
  have m : ∀ i, i < 9 → (L.getD i (bs [])).size ≤ N := fun i hi => by
    have : L[i]? = some L[i] := List.getElem?_eq_getElem (by omega)
    rw [List.getD_eq_getElem?_getD, this]
    exact hL _ (List.getElem_mem (by omega))
  have h7 := s362_size (L.getD 7 (bs []))
  have h8 := s362_size (L.getD 8 (bs []))
  have m7 := m 7 (by omega)
  have m8 := m 8 (by omega)
  obtain ⟨hp, _⟩ := s324_ok (s := (S362 (L.getD 8 (bs []))).1) ⟨by omega⟩ h
  exact { k := valI_ok _, a := valI_ok _, b := valI_ok _, keep := s357_64 _, addr := s357_range _, len := valI_ok _, next := s357_range _,
          data := ⟨by show (List.map _ _).length ≤ 100000; rw [List.length_map, ← Lib.size_eq]; omega, fun c hc => by
            obtain ⟨u, _, rfl⟩ := List.mem_map.1 hc
            have := u.toNat_lt
            omega⟩, peer := hp }
theorem run348 : RunC C348 6 48 [61, 4] [9] W348 [] := by
  intro (x : ByteArray) hx hp
  obtain ⟨hsz⟩ : okLine x := hp _ rfl
  have hsize := s361_size x
  have hS : S348 x = readStep x := lk_eq _ _
  have e32 : (ByteArray.mk #[32]) = sp := rfl
  refine of_eq (q348 x _) ?_
  rw [e32]
  unfold readStep at hS
  generalize hL : S361 x sp = L at *
  refine ⟨⟨Nat.lt_of_le_of_lt hsz (by decide), rfl⟩, bif_of (fun h => ?_) (fun h => ⟨rfl, ?_⟩)⟩
  · show _ = S348 x
    have : decide (L.length = 9) = false := by
      have h := of_decide_eq_false (show decide ((L.length : Int) = 9) = false by simpa using h)
      exact decide_eq_false fun e => h (by omega)
    rw [hS, this]; rfl
  · have h9 : L.length = 9 := by
      have h := of_decide_eq_true (show decide ((L.length : Int) = 9) = true by simpa using h)
      omega
    rw [decide_eq_true h9] at hS
    have hok := okStep_of hsz hsize h9
    match L, h9, hsize, hS, hok with
    | [l0, l1, l2, l3, l4, l5, l6, l7, l8], _, hsize, hS, hok =>
    have s0 : l0.size ≤ x.size := hsize _ (by simp)
    have s1 : l1.size ≤ x.size := hsize _ (by simp)
    have s2 : l2.size ≤ x.size := hsize _ (by simp)
    have s3 : l3.size ≤ x.size := hsize _ (by simp)
    have s4 : l4.size ≤ x.size := hsize _ (by simp)
    have s5 : l5.size ≤ x.size := hsize _ (by simp)
    have s6 : l6.size ≤ x.size := hsize _ (by simp)
    have s7 : l7.size ≤ x.size := hsize _ (by simp)
    have s8 : l8.size ≤ x.size := hsize _ (by simp)
    have z7 := s362_size l7
    have z8 := s362_size l8
    have big : ∀ {n m : Nat}, n ≤ x.size → 70000 ≤ m → n ≤ m := fun h1 h2 => Nat.le_trans (Nat.le_trans h1 hsz) h2
    let st : Nat → List Int × Bool × Int := fun k => match k with
      | 0 => ([0, 0, 0, 0, 0], true, 0)
      | 1 => ([valI l0, 0, 0, 0, 0], true && !(S337 l0).2, 1)
      | 2 => ([valI l0, valI l1, 0, 0, 0], true && !(S337 l0).2 && !(S337 l1).2, 2)
      | 3 => ([valI l0, valI l1, valI l2, 0, 0], true && !(S337 l0).2 && !(S337 l1).2 && !(S337 l2).2, 3)
      | _ => ([valI l0, valI l1, valI l2, valI l5, 0], true && !(S337 l0).2 && !(S337 l1).2 && !(S337 l2).2 && !(S337 l5).2, 4)
    refine LOOP.of (fun y => y = st 0 ∨ y = st 1 ∨ y = st 2 ∨ y = st 3 ∨ y = st 4) (fun y => 4 - y.2.2.toNat) (.inl rfl) ?_
    rintro y hy J hJ
    rcases hy with rfl | rfl | rfl | rfl | rfl
    · refine bif_of (fun _ => ⟨(show (0 : Int) ≤ 0 ∧ (0 : Int) < 4 from by decide), ⟨by show (0 : Int) ≤ 0; omega, by show (0 : Int) < 9; omega⟩, ?_, (show (0 : Int) ≤ 0 ∧ (0 : Int) < 5 from by decide), by show 0 < 5; omega, rfl, hJ _ (.inr (.inl rfl)) ?_⟩) (fun h => absurd h (show ¬ (decide ((0 : Int) < 4) = false) from by decide))
      · exact big s0 (by decide)
      · show 4 - (1 : Int).toNat < 4 - (0 : Int).toNat; decide
    · refine bif_of (fun _ => ⟨(show (0 : Int) ≤ 1 ∧ (1 : Int) < 4 from by decide), ⟨by show (0 : Int) ≤ 1; omega, by show (1 : Int) < 9; omega⟩, ?_, (show (0 : Int) ≤ 1 ∧ (1 : Int) < 5 from by decide), by show 1 < 5; omega, rfl, hJ _ (.inr (.inr (.inl rfl))) ?_⟩) (fun h => absurd h (show ¬ (decide ((1 : Int) < 4) = false) from by decide))
      · exact big s1 (by decide)
      · show 4 - (2 : Int).toNat < 4 - (1 : Int).toNat; decide
    · refine bif_of (fun _ => ⟨(show (0 : Int) ≤ 2 ∧ (2 : Int) < 4 from by decide), ⟨by show (0 : Int) ≤ 2; omega, by show (2 : Int) < 9; omega⟩, ?_, (show (0 : Int) ≤ 2 ∧ (2 : Int) < 5 from by decide), by show 2 < 5; omega, rfl, hJ _ (.inr (.inr (.inr (.inl rfl)))) ?_⟩) (fun h => absurd h (show ¬ (decide ((2 : Int) < 4) = false) from by decide))
      · exact big s2 (by decide)
      · show 4 - (3 : Int).toNat < 4 - (2 : Int).toNat; decide
    · refine bif_of (fun _ => ⟨(show (0 : Int) ≤ 3 ∧ (3 : Int) < 4 from by decide), ⟨by show (0 : Int) ≤ 5; omega, by show (5 : Int) < 9; omega⟩, ?_, (show (0 : Int) ≤ 3 ∧ (3 : Int) < 5 from by decide), by show 3 < 5; omega, rfl, hJ _ (.inr (.inr (.inr (.inr rfl)))) ?_⟩) (fun h => absurd h (show ¬ (decide ((3 : Int) < 4) = false) from by decide))
      · exact big s5 (by decide)
      · show 4 - (4 : Int).toNat < 4 - (3 : Int).toNat; decide
    · refine bif_of (fun h => absurd h (show ¬ (decide ((4 : Int) < 4) = true) from by decide)) (fun _ => ?_)
      have w1 : IntKind.u32.wrap (S357 l4 10 32).1 = (S357 l4 10 32).1 := wrap32 (s357_range l4)
      have w2 : IntKind.u32.wrap (S357 l6 10 32).1 = (S357 l6 10 32).1 := wrap32 (s357_range l6)
      have g : ∀ i : Nat, i < 9 → (0 : Int) ≤ (i : Int) ∧ (i : Int) < (([l0, l1, l2, l3, l4, l5, l6, l7, l8].length : Nat) : Int) := fun i hi => by
        simp only [List.length_cons, List.length_nil]; omega
      have g5 : ∀ i : Nat, i < 5 → (0 : Int) ≤ (i : Int) ∧ (i : Int) < (((5 : Nat)) : Int) := fun i hi => by omega
      have e9 : stepOk [l0, l1, l2, l3, l4, l5, l6, l7, l8] = (true && !(S337 l0).2 && !(S337 l1).2 && !(S337 l2).2 && !(S337 l5).2 && !(S357 l3 10 64).2 && !(S357 l4 10 32).2 && !(S357 l6 10 32).2 && (S362 l7).2 && (S362 l8).2 && (S324 (S362 l8).1).2) := by
        simp only [Bool.true_and]
        rfl
      have e10 : (⟨valI l0, valI l1, valI l2, List.map (fun (c : UInt8) => (c.toNat : Int)) (S362 l7).1.data.toList, (S324 (S362 l8).1).1, ⟨IntKind.u32.wrap (S357 l4 10 32).1, valI l5⟩, IntKind.u32.wrap (S357 l6 10 32).1, (S357 l3 10 64).1⟩ : api_Step) = stepOf [l0, l1, l2, l3, l4, l5, l6, l7, l8] := by
        rw [w1, w2]; rfl
      have hx9 : (x ++ ByteArray.mk #[(10 : UInt8)]).toList = x.data.toList ++ [10] := by
        rw [Lib.toList_data]
        show (x ++ ByteArray.mk #[(10 : UInt8)]).data.toList = _
        simp
      refine ⟨g 3 (by omega), ⟨big s3 (by decide), rfl, .inr rfl⟩, g 4 (by omega), ⟨big s4 (by decide), rfl, .inl rfl⟩, g 6 (by omega), ⟨big s6 (by decide), rfl, .inl rfl⟩, g 7 (by omega), big s7 (by decide), g 8 (by omega), big s8 (by decide), ⟨?_⟩, g5 0 (by omega), by show 0 < 5; omega, g5 1 (by omega), by show 1 < 5; omega, g5 2 (by omega), by show 2 < 5; omega, g5 3 (by omega), by show 3 < 5; omega, ?_, ?_, ?_⟩
      · show (S362 l8).1.size ≤ 40000
        omega
      · exact Nat.le_trans (m := 70000) (by show (S362 l7).1.size ≤ 70000; omega) (by decide)
      · intro _
        exact Nat.le_trans (Nat.add_le_add_right hsz 1) (by decide)
      · change (bif (true && !(S337 l0).2 && !(S337 l1).2 && !(S337 l2).2 && !(S337 l5).2 && !(S357 l3 10 64).2 && !(S357 l4 10 32).2 && !(S357 l6 10 32).2 && (S362 l7).2 && (S362 l8).2 && (S324 (S362 l8).1).2) then okStep (⟨valI l0, valI l1, valI l2, List.map (fun (c : UInt8) => (c.toNat : Int)) (S362 l7).1.data.toList, (S324 (S362 l8).1).1, ⟨IntKind.u32.wrap (S357 l4 10 32).1, valI l5⟩, IntKind.u32.wrap (S357 l6 10 32).1, (S357 l3 10 64).1⟩ : api_Step) ∧ (((⟨valI l0, valI l1, valI l2, List.map (fun (c : UInt8) => (c.toNat : Int)) (S362 l7).1.data.toList, (S324 (S362 l8).1).1, ⟨IntKind.u32.wrap (S357 l4 10 32).1, valI l5⟩, IntKind.u32.wrap (S357 l6 10 32).1, (S357 l3 10 64).1⟩ : api_Step), (S347 (⟨valI l0, valI l1, valI l2, List.map (fun (c : UInt8) => (c.toNat : Int)) (S362 l7).1.data.toList, (S324 (S362 l8).1).1, ⟨IntKind.u32.wrap (S357 l4 10 32).1, valI l5⟩, IntKind.u32.wrap (S357 l6 10 32).1, (S357 l3 10 64).1⟩ : api_Step)).toList == (x ++ ByteArray.mk #[(10 : UInt8)]).toList) : api_Step × Bool) = S348 x else (((⟨valI l0, valI l1, valI l2, List.map (fun (c : UInt8) => (c.toNat : Int)) (S362 l7).1.data.toList, (S324 (S362 l8).1).1, ⟨IntKind.u32.wrap (S357 l4 10 32).1, valI l5⟩, IntKind.u32.wrap (S357 l6 10 32).1, (S357 l3 10 64).1⟩ : api_Step), false) : api_Step × Bool) = S348 x)
        rw [← e9, e10, hx9, hS, cond_true]
        refine bif_of (fun h => ⟨hok ?_, ?_⟩) (fun h => ?_)
        · rw [e9] at h
          simp only [Bool.and_eq_true] at h
          exact h.2
        · rw [h, Bool.true_and, show (S347 (stepOf [l0, l1, l2, l3, l4, l5, l6, l7, l8])).toList = lineL (stepOf [l0, l1, l2, l3, l4, l5, l6, l7, l8]) from toList_bs _]
        · rw [h, Bool.false_and]
theorem ok348 : Ok348 := by
  refine con_ok (C := C348) ?_ mx7 (by kernel_rfl) run348
  exact kok_cons ok337 (kok_cons ok357 (kok_cons ok324 (kok_cons ok361 (kok_cons ok362 (kk1 ok347)))))
end Go.Rx
namespace Go.Rx
open Go.Ab Go.L21
set_option maxRecDepth 100000
set_option maxHeartbeats 20000000
set_option linter.unusedVariables false
/-- interregnum/script.Parse -/
noncomputable def C329 : Cfg S := { P := P7, inl := [], K := [(65, ctr P7 [9, 9] [3] (fun x0 x1 => (some (P365 x0 x1), S365 x0 x1))), (48, ctr P7 [9] [61, 4] (fun x0 => (some (P348 x0), S348 x0)))], ann := [(29, [(3, .loop [(.sl 0, .str), (.sl 5, .own 61), (.sl 6, .int .i64)])])] }
abbrev W329 : CT S [49, 3, 52] [9] := (fun x0 => (some (P329 x0), S329 x0))
abbrev Ok329 : Prop := ConOk P7 29 (ctr P7 [9] [49, 3, 52] W329) ∧ ConMon (ctr P7 [9] [49, 3, 52] W329)
theorem q329 (x0 : ByteArray) (v : HR S [49, 3, 52]) : (Xf C329 6 (emp 0) 29 (argsA C329 [⟨9, x0⟩]) (emp 0) (fun r _ => isR C329.P [49, 3, 52] v r) (fun _ _ =>
 False)) = (LOOP (fun (h : ByteArray × List api_Step × Int) (J : ByteArray × List api_Step × Int → Prop) => bif !h.fst.toList == (ByteArray.mk #[]).toList then
 nat_lit 1 = nat_lit 1 ∧ bif decide ((0 : Int) ≤ S365 h.fst (ByteArray.mk #[(10 : UInt8)])) then ((0 : Int) ≤ (0 : Int) ∧ (0 : Int) ≤ S365 h.fst (ByteArray.mk
 #[(10 : UInt8)]) ∧ S365 h.fst (ByteArray.mk #[(10 : UInt8)]) ≤ (↑h.fst.size : Int)) ∧ ((0 : Int) ≤ IntKind.i64.wrap (S365 h.fst (ByteArray.mk #[(10 : UInt8)])
 + (↑(nat_lit 1) : Int)) ∧ IntKind.i64.wrap (S365 h.fst (ByteArray.mk #[(10 : UInt8)]) + (↑(nat_lit 1) : Int)) ≤ (↑h.fst.size : Int) ∧ (↑h.fst.size : Int) ≤
 (↑h.fst.size : Int)) ∧ okLine (h.fst.extract (nat_lit 0) (S365 h.fst (ByteArray.mk #[(10 : UInt8)])).toNat) ∧ bif !(S348 (h.fst.extract (nat_lit 0) (S365
 h.fst (ByteArray.mk #[(10 : UInt8)])).toNat)).snd && true then ([], h.snd.snd, (7 : Int)) = v else (h.snd.fst.length = h.snd.fst.length ∧ (h.snd.fst.length +
 [(S348 (h.fst.extract (nat_lit 0) (S365 h.fst (ByteArray.mk #[(10 : UInt8)])).toNat)).fst].length) * nat_lit 144 ≤ nat_lit 140737488355328) ∧ ∀ (y : List
 (api_Step)), y = h.snd.fst ++ [(S348 (h.fst.extract (nat_lit 0) (S365 h.fst (ByteArray.mk #[(10 : UInt8)])).toNat)).fst] → y.length = y.length ∧ J
 (h.fst.extract (IntKind.i64.wrap (S365 h.fst (ByteArray.mk #[(10 : UInt8)]) + (↑(nat_lit 1) : Int))).toNat (↑h.fst.size : Int).toNat, y, IntKind.i64.wrap
 (h.snd.snd + (1 : Int))) else okLine h.fst ∧ bif !(S348 h.fst).snd || true then ([], h.snd.snd, (7 : Int)) = v else (h.snd.fst.length = h.snd.fst.length ∧
 (h.snd.fst.length + [(S348 h.fst).fst].length) * nat_lit 144 ≤ nat_lit 140737488355328) ∧ ∀ (y : List (api_Step)), y = h.snd.fst ++ [(S348 h.fst).fst] →
 y.length = y.length ∧ J (ByteArray.mk #[], y, IntKind.i64.wrap (h.snd.snd + (1 : Int))) else (h.snd.fst, (0 : Int), (0 : Int)) = v) (x0, [], (1 : Int))) := by
 kernel_rfl
end Go.Rx
/-! Steps out of a text. -/
namespace Go.Rx
open Go.Ab Go.L21
set_option linter.unusedVariables false
set_option maxRecDepth 100000
def tk (l : List UInt8) : List UInt8 := l.takeWhile (· != 10)
theorem tk_le (l : List UInt8) : (tk l).length ≤ l.length := by
  have := List.takeWhile_append_dropWhile (p := (· != (10 : UInt8))) (l := l)
  have := congrArg List.length this
  rw [List.length_append] at this
  unfold tk; omega
theorem tk_take (l : List UInt8) : tk l = l.take (tk l).length := List.prefix_iff_eq_take.1 (List.takeWhile_prefix _)
theorem idx10 : ∀ l : List UInt8, Lib.indexByte l 10 = if (tk l).length < l.length then ((tk l).length : Int) else -1
  | [] => rfl
  | b :: l => by
    unfold Lib.indexByte tk
    by_cases hb : b = 10
    · subst hb
      rfl
    · have hb2 : (b == 10) = false := by simpa using hb
      have hb3 : (b != 10) = true := by simpa using hb
      rw [hb2, List.takeWhile_cons, hb3]
      have ih := idx10 l
      unfold tk at ih
      simp only [if_true, List.length_cons]
      split
      · rename_i h; cases h
      · split
        · rename_i h
          have h := beq_iff_eq.1 h
          rw [ih] at h
          split at h
          · omega
          · rw [if_neg (by omega)]
        · rename_i h
          have h : Lib.indexByte l 10 ≠ -1 := fun e => h (beq_iff_eq.2 e)
          rw [ih] at h ⊢
          split at h
          · rename_i h2
            rw [if_pos h2, if_pos (by omega)]
            omega
          · exact absurd rfl h
theorem readF_cons (k : Nat) (n : Int) (l : List UInt8) (out : List api_Step) (h : l ≠ []) : readF (k + 1) n l out = bif (S348 (bs (tk l))).2 && decide ((tk l).length < l.length) then readF k (n + 1) (l.drop ((tk l).length + 1)) (out ++ [(S348 (bs (tk l))).1]) else ([], n, 7) := by
  cases l with
  | nil => exact absurd rfl h
  | cons b r => rfl
theorem readF_nil (k : Nat) (n : Int) (out : List api_Step) : readF k n [] out = (out, 0, 0) := by cases k <;> rfl
theorem s329 (s : ByteArray) : S329 s = readF s.data.toList.length 1 s.data.toList [] := lk_eq _ _
theorem run329 : RunC C329 6 29 [49, 3, 52] [9] W329 [] := by
  intro (x : ByteArray) hx hp
  obtain ⟨hsz⟩ : okLine x := hp _ rfl
  obtain ⟨l, rfl⟩ : ∃ l, x = bs l := ⟨x.data.toList, rfl⟩
  have hS : S329 (bs l) = readF l.length 1 l [] := s329 (bs l)
  rw [size_bs] at hsz
  refine of_eq (q329 (bs l) _) ?_
  refine LOOP.of (fun y => ∃ (rest : List UInt8) (out : List api_Step) (n : Int) (k : Nat), y = (bs rest, out, n) ∧ rest.length ≤ k ∧ 1 ≤ n ∧ n + (rest.length : Int) ≤ l.length + 1 ∧ out.length + rest.length ≤ l.length ∧ readF k n rest out = readF l.length 1 l []) (fun y => y.1.size) ⟨l, [], 1, l.length, rfl, Nat.le_refl _, Int.le_refl _, by omega, by simp, rfl⟩ ?_
  rintro _ ⟨rest, out, n, k, rfl, hk, hn1, hn2, hlen, hfin⟩ J hJ
  dsimp only
  rw [beqL]
  cases hr : rest with
  | nil =>
    subst hr
    refine bif_of (fun h => by cases h) (fun _ => ?_)
    rw [readF_nil] at hfin
    show _ = S329 (bs l)
    rw [hS, ← hfin]
  | cons b r =>
    have hne : rest ≠ [] := fun e => by rw [e] at hr; cases hr
    rw [← hr]
    have hem : (!rest.isEmpty) = true := by rw [hr]; rfl
    have hpos : 0 < rest.length := by rw [hr]; simp
    have hz : (bs rest).size = rest.length := size_bs rest
    have htl := tk_le rest
    have hI : S365 (bs rest) (ByteArray.mk #[(10 : UInt8)]) = if (tk rest).length < rest.length then ((tk rest).length : Int) else -1 := idx10 rest
    obtain ⟨k, rfl⟩ : ∃ j, k = j + 1 := ⟨k - 1, by omega⟩
    rw [readF_cons k n rest out hne] at hfin
    refine bif_of (fun _ => ⟨rfl, ?_⟩) (fun h => by rw [hem] at h; cases h)
    rw [hI]
    by_cases ht : (tk rest).length < rest.length
    · rw [if_pos ht]
      rw [decide_eq_true ht, Bool.and_true] at hfin
      have hw : IntKind.i64.wrap (((tk rest).length : Int) + ((1 : Nat) : Int)) = (((tk rest).length + 1 : Nat) : Int) := wrap64 (by omega)
      have e1 : (bs rest).extract 0 (((tk rest).length : Nat) : Int).toNat = bs (tk rest) := by
        rw [Int.toNat_natCast, ext_bs, ← tk_take]
      have e2 : (bs rest).extract ((((tk rest).length + 1 : Nat) : Int)).toNat (((bs rest).size : Nat) : Int).toNat = bs (rest.drop ((tk rest).length + 1)) := by
        rw [Int.toNat_natCast]; exact ext_bsE _ _
      have hz1 : (bs (tk rest)).size = (tk rest).length := size_bs _
      rw [hw, e1, e2]
      refine bif_of (fun _ => ⟨⟨by omega, by omega, by omega⟩, ⟨by omega, by omega, by omega⟩, ⟨by omega⟩, bif_of (fun h => ?_) (fun h => ?_)⟩) (fun h => absurd (of_decide_eq_false h) (fun h => h (by omega)))
      · have h : (S348 (bs (tk rest))).2 = false := by simpa using h
        show _ = S329 (bs l)
        rw [hS, ← hfin, h]; rfl
      · have h : (S348 (bs (tk rest))).2 = true := by simpa using h
        rw [h] at hfin
        refine ⟨⟨rfl, ?_⟩, fun y hy => ⟨rfl, hJ _ ⟨rest.drop ((tk rest).length + 1), y, n + 1, k, ?_, ?_, by omega, ?_, ?_, ?_⟩ ?_⟩⟩
        · exact Nat.le_trans (m := 70001 * 144) (Nat.mul_le_mul_right 144 (by show out.length + 1 ≤ 70001; omega)) (by decide)
        · rw [wrap64 (by omega)]
        · rw [List.length_drop]; omega
        · rw [List.length_drop]; omega
        · rw [hy, List.length_append, List.length_drop]
          show out.length + 1 + _ ≤ _
          omega
        · rw [hy]; exact hfin
        · show (bs _).size < (bs rest).size
          rw [size_bs, hz, List.length_drop]; omega
    · rw [if_neg ht]
      rw [decide_eq_false ht, Bool.and_false] at hfin
      refine bif_of (fun h => absurd h (by decide)) (fun _ => ⟨⟨by omega⟩, bif_of (fun _ => ?_) (fun h => by rw [Bool.or_true] at h; cases h)⟩)
      show _ = S329 (bs l)
      rw [hS, ← hfin]; rfl
theorem ok329 : Ok329 := by
  refine con_ok (C := C329) ?_ mx7 (by kernel_rfl) run329
  exact kok_cons ok365 (kk1 ok348)
end Go.Rx
/-! script.Print, with the builder of the library. -/
set_option linter.unusedVariables false
namespace Go.Proofs
open Go.Shelf Go.RowKit Go.Sort Go.Lib
open Go.L21 Go.Rx
def stepV (x : api_Step) (v3 v6 v7 : Value) : List Value := [.int .i64 x.fKind, .int .i64 x.fA, .int .i64 x.fB, v3, .int .i64 x.fPeer.fNum, .int .i64 x.fPeer.fAS, v6, v7, .int .u32 x.fPrefix.fAddr, .int .i64 x.fPrefix.fLen, .int .u32 x.fNext, .int .u64 x.fKeep]
def stepAt (w : World) (A : Option Addr) (xs : List api_Step) (j : Nat) (x : api_Step) : Prop :=
  ∃ bk o A3 n3 c3 A6 n6 c6 A7 n7 c7, A = some ⟨bk, o, none⟩ ∧ bk < w.heap.size ∧ (∀ i v, (stepV x (.slice A3 n3 c3) (.slice A6 n6 c6) (.slice A7 n7 c7))[i]? = some v → w.cell? ⟨bk, o + j * 12 + i, none⟩ = some v) ∧
    ∀ wr, Below w.heap.size w wr → Calls Tryd.prog 47 #[.agg (stepV x (.slice A3 n3 c3) (.slice A6 n6 c6) (.slice A7 n7 c7)).toArray] wr fun e w' => e = .returned (.string (S347 x)) ∧ Below wr.heap.size wr w'
theorem isB_keep {T e : TypeId} {B b : Nat} {bs : List Value} {w w' : World} (h : Lib.IsBuilder T e B b bs w) (hb : Below w.heap.size w w') : Lib.IsBuilder T e B b bs w' := by
  have key : ∀ p, Lib.BuilderAt T e B b p bs w → Lib.BuilderAt T e B b p bs w' := by
    rintro p ⟨hB, v, h1, ⟨h2, h3⟩, h4⟩
    refine ⟨hB, v, by rw [hb.block b (Array.getElem?_eq_some_iff.1 h1).1]; exact h1, ⟨h2, ?_⟩, h4⟩
    rcases h3 with h3 | ⟨g, cap, cur, hv, hbg, hg, r⟩
    · exact .inl h3
    · exact .inr ⟨g, cap, cur, hv, hbg, by rw [hb.block g (Array.getElem?_eq_some_iff.1 hg).1]; exact hg, r⟩
  exact h.elim (fun h => .inl (key _ h)) (fun h => .inr (key _ h))
theorem isB_alloc {T e : TypeId} {B b : Nat} {bs : List Value} {w : World} (h : Lib.IsBuilder T e B b bs w) (o : Obj) : Lib.IsBuilder T e B b bs (w.alloc o) :=
  isB_keep h ((Below.refl _ w).alloc (Nat.le_refl _) o)
set_option maxHeartbeats 4000000 in
set_option maxRecDepth 100000 in
theorem Tryd.print_walk (A : Option Addr) (c : Nat) (xs : List api_Step) (w : World) (hlen : (linesL xs).length ≤ 4000000)
    (hcells : ∀ (j : Nat) x, xs[j]? = some x → stepAt w A xs j x) :
    Calls Tryd.prog 28 #[.slice A xs.length c] w fun e w' => e = .returned (.string ⟨(linesL xs).toArray⟩) ∧ Below w.heap.size w w' := by
  have HC := hidT hcells
  have HL := hidT hlen
  have hxl := lines_num xs
  have hxl2 : xs.length ≤ 4000000 := by omega
  clear hcells hlen hxl
  go_enter Tryd.func28, Tryd.ntmps28
  go_wp2
  go_loopw [8] (fun i wr => ∃ k : Nat, k ≤ xs.length ∧ i = .int .i64 k ∧ Hid (Lib.IsBuilder 65 5 w.heap.size w.heap.size (Lib.byteCells (linesL (xs.take k))) wr) ∧ Hid (Below w.heap.size w wr)) (fun i _ => xs.length - (RowKit.intOf i).toNat)
  case atStart => exact ⟨0, Nat.zero_le _, rfl, hidT (Lib.fresh_isBuilder 65 5 w), hidT ((Below.refl _ w).alloc (Nat.le_refl _) _)⟩
  case round =>
    obtain ⟨k, hk, rfl, HB, HW⟩ := hrel
    by_cases hkr : k < xs.length
    · obtain ⟨y, hy⟩ : ∃ y, xs[k]? = some y := ⟨xs[k], List.getElem?_eq_getElem hkr⟩
      obtain ⟨bk, o, A3, n3, c3, A6, n6, c6, A7, n7, c7, rfl, hbk, hcy, hcall⟩ := HC.out k y hy
      have HY := hidT hcall
      clear hcall
      have hcy : ∀ i v, (stepV y (.slice A3 n3 c3) (.slice A6 n6 c6) (.slice A7 n7 c7))[i]? = some v → wr.cell? ⟨bk, o + k * 12 + i, none⟩ = some v := fun i v hv => by
        rw [HW.out.cell (p := ⟨bk, o + k * 12 + i, none⟩) hbk]; exact hcy i v hv
      have h0 : wr.cell? ⟨bk, o + k * 12, none⟩ = some (.int .i64 y.fKind) := hcy 0 _ rfl
      have h1 : wr.cell? ⟨bk, o + k * 12 + 1, none⟩ = some (.int .i64 y.fA) := hcy 1 _ rfl
      have h2 : wr.cell? ⟨bk, o + k * 12 + 2, none⟩ = some (.int .i64 y.fB) := hcy 2 _ rfl
      have h3 : wr.cell? ⟨bk, o + k * 12 + 3, none⟩ = some (.slice A3 n3 c3) := hcy 3 _ rfl
      have h4 : wr.cell? ⟨bk, o + k * 12 + 4, none⟩ = some (.int .i64 y.fPeer.fNum) := hcy 4 _ rfl
      have h5 : wr.cell? ⟨bk, o + k * 12 + 5, none⟩ = some (.int .i64 y.fPeer.fAS) := hcy 5 _ rfl
      have h6 : wr.cell? ⟨bk, o + k * 12 + 6, none⟩ = some (.slice A6 n6 c6) := hcy 6 _ rfl
      have h7 : wr.cell? ⟨bk, o + k * 12 + 7, none⟩ = some (.slice A7 n7 c7) := hcy 7 _ rfl
      have h8 : wr.cell? ⟨bk, o + k * 12 + 8, none⟩ = some (.int .u32 y.fPrefix.fAddr) := hcy 8 _ rfl
      have h9 : wr.cell? ⟨bk, o + k * 12 + 9, none⟩ = some (.int .i64 y.fPrefix.fLen) := hcy 9 _ rfl
      have h10 : wr.cell? ⟨bk, o + k * 12 + 10, none⟩ = some (.int .u32 y.fNext) := hcy 10 _ rfl
      have h11 : wr.cell? ⟨bk, o + k * 12 + 11, none⟩ = some (.int .u64 y.fKeep) := hcy 11 _ rfl
      unfold stepV at HY
      clear hcy
      have hBw : w.heap.size ≤ wr.heap.size := HW.out.size
      have hnext : Lib.byteCells (linesL (xs.take k)) ++ Lib.strCells (S347 y) = Lib.byteCells (linesL (xs.take (k + 1))) := by
        rw [steps_take hy, Lib.strCells_eq, Lib.byteCells_append]; rfl
      have hl := lines_le xs (k + 1)
      have hl2 := HL.out
      rw [steps_take hy] at hl
      have hS : (S347 y).size = (lineL y).length := size_bs _
      simp only [List.length_append, ← hS] at hl
      have hl0 : (Lib.byteCells (linesL (xs.take k))).length = (linesL (xs.take k)).length := Lib.byteCells_length _
      have Hn := hidT hnext
      have Hl := hidT (show (Lib.byteCells (linesL (xs.take k))).length + (S347 y).size ≤ 140737488355328 by omega)
      clear hnext hl hl2 hS hl0
      clear hy
      go_wp2_with (go_at_call 47; refine (HY.out _ ?_).mono ?_)
      · exact HW.out.trans ((Below.refl _ wr).alloc (Nat.le_refl _) _ |>.mono hBw)
      intro e w1 hh
      obtain ⟨rfl, hb1⟩ := hh
      have HW0 := hidT (HW.out.trans ((Below.refl _ wr).alloc (Nat.le_refl _) (Obj.cells (stepV y (.slice A3 n3 c3) (.slice A6 n6 c6) (.slice A7 n7 c7)).toArray 61) |>.mono hBw))
      have HB0 := hidT (isB_alloc HB.out (Obj.cells (stepV y (.slice A3 n3 c3) (.slice A6 n6 c6) (.slice A7 n7 c7)).toArray 61))
      unfold stepV at HW0 HB0
      generalize wr.alloc (Obj.cells #[Value.int IntKind.i64 y.fKind, Value.int IntKind.i64 y.fA, Value.int IntKind.i64 y.fB, Value.slice A3 n3 c3, Value.int IntKind.i64 y.fPeer.fNum, Value.int IntKind.i64 y.fPeer.fAS, Value.slice A6 n6 c6, Value.slice A7 n7 c7, Value.int IntKind.u32 y.fPrefix.fAddr, Value.int IntKind.i64 y.fPrefix.fLen, Value.int IntKind.u32 y.fNext, Value.int IntKind.u64 y.fKeep] 61) = W0 at *
      have HW1 := hidT (HW0.out.trans (hb1.mono HW0.out.size))
      have HB1 := hidT (isB_keep HB0.out hb1)
      have hBw1 : w.heap.size ≤ w1.heap.size := HW1.out.size
      clear hb1
      go_wp2_with (go_at_call 32; refine (Tryd.wstr w.heap.size w.heap.size _ (S347 y) w1 HB1.out Hl.out hBw1).mono ?_)
      intro e W2 hh
      obtain ⟨rfl, HB2, hb2⟩ := hh
      rw [Hn.out] at HB2
      have HB2 := hidT HB2
      have HW2 := hidT (HW1.out.trans hb2)
      clear hb2
      go_wp2
      exact ⟨⟨k + 1, by omega, by go_num, HB2, HW2⟩, by simp [RowKit.intOf]; omega⟩
    · have hke : k = xs.length := by omega
      subst hke
      have hB' := HB.out
      rw [List.take_length] at hB'
      have hBw : w.heap.size ≤ wr.heap.size := HW.out.size
      go_wp2_with (go_at_call 35; refine (Tryd.bstr w.heap.size w.heap.size _ wr hB' hBw).mono ?_)
      rintro e w5 ⟨rfl, hb5⟩
      have Hb5 := hidT (HW.out.trans hb5)
      clear hb5 hB'
      go_wp2
      go_ret
      exact ⟨rfl, Hb5.out⟩
end Go.Proofs
namespace Go.Rx
open Go.Ab Go.L21 Go.Proofs Go.RowKit
set_option linter.unusedVariables false
set_option maxRecDepth 100000
theorem immOk_keep {imm : Imm} {w w' : World} (hok : ImmOk imm w) (hb : RowKit.Below w.heap.size w w') : ImmOk imm w' := fun b o u h => by
  have hc := hok b o u h
  unfold World.cell? at hc ⊢
  have hb' : b < w.heap.size := by
    split at hc
    · rename_i c _ _ hq; exact (Array.getElem?_eq_some_iff.1 hq).1
    · cases hc
  rw [hb.block b hb']; exact hc
theorem strip61 (x : api_Step) : stripA (argA (S := S) P7 61 x) = .agg (api_Step.cells x) := by kernel_rfl
theorem call347 {imm : Imm} {w wr : World} (hok : ImmOk imm w) (hgl : GlobW S imm w) {x : api_Step} (hx : okStep x) {vs : List Value} (hv : RepL noT (gh imm) (api_Step.cells x) vs) (hb : RowKit.Below w.heap.size w wr) :
    Calls P7 47 #[.agg vs.toArray] wr fun e w' => e = .returned (.string (S347 x)) ∧ RowKit.Below wr.heap.size wr w' := by
  have h := ok347.1 [argA P7 61 x] (fun r => r = tupA (encL (S := S) P7 [9] (S347 x))) ?_
  · refine (h imm wr [.agg vs.toArray] (immOk_keep hok hb) ⟨hgl.1, S.gwm w wr hb.size (fun b hb' => hb.block b hb') hgl.2⟩ ?_).mono ?_
    · show RepT noT (gh imm) [stripA (argA (S := S) P7 61 x)] _
      rw [strip61]
      exact ⟨_, [], rfl, ⟨vs, rfl, hv⟩, rfl⟩
    · rintro e w' ⟨r, v, imm', rfl, _, rfl, _, _, _, hr, hbel⟩
      have hr : v = .string (S347 x) := hr
      subst hr
      exact ⟨rfl, hbel⟩
  · show appC (S := S) P7 [9] [61] W347 [argA P7 61 x] _
    exact ⟨hx, rfl⟩
abbrev W328 : CT S [9] [49] := (fun x0 => (some (P328 x0), S328 x0))
abbrev Ok328 : Prop := ConOk P7 28 (ctr P7 [49] [9] W328) ∧ ConMon (ctr P7 [49] [9] W328)
theorem run328 : RunP C0 28 [9] [49] W328 [] := by
  intro (x : List api_Step) hx hp
  obtain ⟨h0, h1⟩ : okSteps x := hp _ rfl
  intro imm w vs hok hgl hargs
  obtain ⟨v1, vs1, rfl, hv1, rfl⟩ := hargs
  have hv1 : sliceH api_Step.enc x imm v1 := hv1
  obtain ⟨A, c, rfl, hc1, hc2, hc3, hc4⟩ := hv1
  refine (Tryd.print_walk A c x w h1 (fun j y hy => ?_)).mono ?_
  · obtain ⟨bk, o, rfl, h6⟩ := hc4 (fun e => by rw [e] at hy; cases hy)
    obtain ⟨vs, hR, hI⟩ := h6 j y hy
    have hcell : ∀ i v, vs[i]? = some v → w.cell? ⟨bk, o + j * 12 + i, none⟩ = some v := fun i v hv => hok _ _ _ (hI i v hv)
    have hbk : bk < w.heap.size := by
      have hl : vs.length = 12 := repL_length hR
      have := hcell 0 (vs[0]'(by omega)) (List.getElem?_eq_getElem (by omega))
      unfold World.cell? at this
      split at this
      · rename_i c _ _ hq; exact (Array.getElem?_eq_some_iff.1 hq).1
      · cases this
    have hcalls := fun wr hb => call347 hok hgl (h0 y (List.mem_of_getElem? hy)) hR (wr := wr) hb
    obtain ⟨v0, r0, rfl, k0, _, v1, r1, rfl, k1, _, v2, r2, rfl, k2, _, v3, r3, rfl, k3, _, v4, r4, rfl, k4, _, v5, r5, rfl, k5, _, v6, r6, rfl, k6, _, v7, r7, rfl, k7, _, v8, r8, rfl, k8, _, v9, r9, rfl, k9, _, v10, r10, rfl, k10, _, v11, r11, rfl, k11, _, rfl⟩ := hR
    obtain rfl : v0 = .int .i64 y.fKind := k0
    obtain rfl : v1 = .int .i64 y.fA := k1
    obtain rfl : v2 = .int .i64 y.fB := k2
    obtain ⟨A3, c3, rfl, _⟩ : sliceH (eI .u8) y.fData imm v3 := k3
    obtain rfl : v4 = .int .i64 y.fPeer.fNum := k4
    obtain rfl : v5 = .int .i64 y.fPeer.fAS := k5
    obtain ⟨A6, c6, rfl, _⟩ : sliceH api_Rule.enc y.fPeer.fIn imm v6 := k6
    obtain ⟨A7, c7, rfl, _⟩ : sliceH api_Rule.enc y.fPeer.fOut imm v7 := k7
    obtain rfl : v8 = .int .u32 y.fPrefix.fAddr := k8
    obtain rfl : v9 = .int .i64 y.fPrefix.fLen := k9
    obtain rfl : v10 = .int .u32 y.fNext := k10
    obtain rfl : v11 = .int .u64 y.fKeep := k11
    exact ⟨bk, o, A3, _, c3, A6, _, c6, A7, _, c7, rfl, hbk, hcell, hcalls⟩
  rintro e w' ⟨rfl, hb⟩
  exact pf_done (rts := [9]) (S328 x) hok hb rfl
theorem ok328 : Ok328 := con_okP (C := C0) run328
end Go.Rx
namespace Go.Rx
open Go.Ab Go.L21
set_option maxRecDepth 100000
set_option maxHeartbeats 20000000
set_option linter.unusedVariables false
/-- interregnum/interregnumlaw21.RowPeers -/
noncomputable def C306 : Cfg S := { P := P7, inl := [], K := [(13, ctr P7 [] [4] (none, S313)), (22, ctr P7 [42] [9] (fun x0 => (some (P322 x0), S322 x0))), (25, ctr P7 [42] [9] (fun x0 => (some (P325 x0), S325 x0))), (23, ctr P7 [42, 42] [4] (fun x0 x1 => (some (P323 x0 x1), S323 x0 x1))), (24, ctr P7 [9] [42, 4] (fun x0 => (some (P324 x0), S324 x0)))], ann := [] }
abbrev W306 : CT S [4] [42] := (fun x0 => (some (P306 x0), S306 x0))
abbrev Ok306 : Prop := ConOk P7 6 (ctr P7 [42] [4] W306) ∧ ConMon (ctr P7 [42] [4] W306)
theorem q306 (x0 : api_PeerConf) (v : HR S [4]) : (Xf C306 6 (emp 0) 6 (argsA C306 [⟨42, x0⟩]) (emp 0) (fun r _ => isR C306.P [4] v r) (fun _ _ => False)) =
 (bif decide ((50 : Int) < (↑x0.fIn.length : Int)) || decide ((50 : Int) < (↑x0.fOut.length : Int)) then true = v else OkP x0 ∧ IsP (S322 x0) ∧ OkP x0 ∧ bif
 (S322 x0).toList == (S325 x0).toList && (S324 (S322 x0)).snd then (OkP (S324 (S322 x0)).fst ∧ OkP x0) ∧ S323 (S324 (S322 x0)).fst x0 = v else false = v) := by
 kernel_rfl
end Go.Rx
/-! What a peer's text gives back. -/
namespace Go.Rx
open Go.Ab Go.L21
set_option linter.unusedVariables false
set_option maxRecDepth 100000
theorem valU_of {n : Int} (h : 0 ≤ n ∧ n ≤ 4294967295) : valU (S333 n) = n := by unfold valU; rw [s357_of h]
theorem valI_of {n : Int} (h : P333 n) : valI (S333 n) = n := by unfold valI; rw [s337_of h]
theorem b2_back (b : Bool) : ((b2 b).toList == [49]) = b := by
  cases b
  · show ((⟨#[48]⟩ : ByteArray).toList == [49]) = false
    rw [Lib.toList_data]; rfl
  · show ((⟨#[49]⟩ : ByteArray).toList == [49]) = true
    rw [Lib.toList_data]; rfl
theorem a344 {n : Int} (h : P333 n) (l : List ByteArray) (b : Bool) : S344 ⟨S333 n :: l, b⟩ = (n, ⟨l, b⟩) := by
  rw [s344, rText_cons]
  show (valI (S333 n), (⟨l, b || (S337 (S333 n)).2⟩ : row_reader)) = _
  rw [valI_of h, s337_of h, Bool.or_false]
theorem a343 {n : Int} (h : 0 ≤ n ∧ n ≤ 4294967295) (l : List ByteArray) (b : Bool) : S343 ⟨S333 n :: l, b⟩ = (n, ⟨l, b⟩) := by
  rw [s343, rText_cons]
  show (valU (S333 n), (⟨l, b || (S357 (S333 n) 10 32).2⟩ : row_reader)) = _
  rw [valU_of h, s357_of h, Bool.or_false]
theorem a346 {x : api_Rule} (h : okRule x) (l : List ByteArray) (b : Bool) : S346 ⟨ruleL x ++ l, b⟩ = (x, ⟨l, b⟩) := by
  obtain ⟨h1, h2, h3, h4, h5⟩ := h
  rw [r346, r342]
  show _ = (x, (⟨l, b⟩ : row_reader))
  rw [show (⟨ruleL x ++ l, b⟩ : row_reader) = ⟨S333 x.fPrefix.fAddr :: S333 x.fPrefix.fLen :: S333 x.fMin :: S333 x.fMax :: b2 x.fDeny :: S333 x.fPref :: l, b⟩ from rfl, a343 h1]
  dsimp only
  rw [a344 h2]; dsimp only
  rw [a344 h3]; dsimp only
  rw [a344 h4]; dsimp only
  rw [show S358 ⟨b2 x.fDeny :: S333 x.fPref :: l, b⟩ = (b2 x.fDeny, ⟨S333 x.fPref :: l, b⟩) from rfl]
  dsimp only
  rw [a344 h5, b2_back]
theorem inF_rules : ∀ (I : List api_Rule) (k : Nat) (l : List ByteArray), (∀ r ∈ I, okRule r) → I.length ≤ k → inF k (I.length : Int) ⟨rulesL I ++ l, false⟩ = (I, ⟨l, false⟩)
  | [], k, l, h, hk => inF_end rfl
  | x :: I, 0, l, h, hk => absurd hk (by simp)
  | x :: I, k + 1, l, h, hk => by
    have hk : I.length ≤ k := by simpa using hk
    have hc : (decide ((0 : Int) < ((x :: I).length : Int)) && !false) = true := by
      rw [Bool.not_false, Bool.and_true, decide_eq_true_eq]
      simp only [List.length_cons]; omega
    have e : (⟨rulesL (x :: I) ++ l, false⟩ : row_reader) = ⟨ruleL x ++ (rulesL I ++ l), false⟩ := by
      show (⟨(ruleL x ++ rulesL I) ++ l, false⟩ : row_reader) = _
      rw [List.append_assoc]
    rw [e, inF_go hc, a346 (h x List.mem_cons_self)]
    dsimp only
    rw [show (((x :: I).length : Nat) : Int) - 1 = (I.length : Int) by simp only [List.length_cons]; omega, inF_rules I k l (fun r hr => h r (List.mem_cons_of_mem _ hr)) hk]
theorem outF_rules : ∀ (I : List api_Rule) (k : Nat), (∀ r ∈ I, okRule r) → I.length ≤ k → outF k ⟨rulesL I, false⟩ = (I, ⟨[], false⟩)
  | [], k, h, hk => outF_end rfl
  | x :: I, 0, h, hk => absurd hk (by simp)
  | x :: I, k + 1, h, hk => by
    have hk : I.length ≤ k := by simpa using hk
    have e : (⟨rulesL (x :: I), false⟩ : row_reader) = ⟨ruleL x ++ rulesL I, false⟩ := rfl
    have hc : (decide (6 ≤ (⟨rulesL (x :: I), false⟩ : row_reader).flist.length) && !(⟨rulesL (x :: I), false⟩ : row_reader).fbad) = true := by
      show (decide (6 ≤ (rulesL (x :: I)).length) && !false) = true
      rw [Bool.not_false, Bool.and_true, decide_eq_true_eq, rules_len, List.length_cons]; omega
    rw [outF_go hc, e, a346 (h x List.mem_cons_self)]
    dsimp only
    rw [outF_rules I k (fun r hr => h r (List.mem_cons_of_mem _ hr)) hk]
theorem readPeer_peer {p : api_PeerConf} (h : okPeer p) : readPeer ⟨peerL p, false⟩ = (p, ⟨[], false⟩) := by
  obtain ⟨h1, h2, h3, h4, h5, h6⟩ := h
  have e : (⟨peerL p, false⟩ : row_reader) = ⟨S333 p.fNum :: S333 p.fAS :: S333 p.fIn.length :: (rulesL p.fIn ++ rulesL p.fOut), false⟩ := by
    show (⟨([S333 p.fNum, S333 p.fAS, S333 p.fIn.length] ++ rulesL p.fIn) ++ rulesL p.fOut, false⟩ : row_reader) = _
    rw [List.append_assoc]; rfl
  have hn : P333 (p.fIn.length : Int) := ⟨by omega, by omega⟩
  rw [e]
  refine (readPeer_eq _ _ _ _ rfl rfl rfl (p.fIn, ⟨rulesL p.fOut, false⟩) (p.fOut, ⟨[], false⟩) ?_ ?_).trans ?_
  · rw [a344 h1]; dsimp only
    rw [a344 h2]; dsimp only
    rw [a344 hn]; dsimp only
    refine inF_rules _ _ _ h5 ?_
    rw [List.length_append, rules_len]; omega
  · refine outF_rules _ _ h6 ?_
    show p.fOut.length ≤ (rulesL p.fOut).length + 1
    rw [rules_len]; omega
  · rw [a344 h1]; dsimp only
    rw [a344 h2]
theorem s324_peer {p : api_PeerConf} (h : okPeer p) : S324 (S322 p) = (p, true) := by
  have e : S315 (S322 p) = (peerL p, true) := split_texts (peerL p)
  show lk _ (rdPeer _) = _
  rw [lk_eq]
  unfold rdPeer
  rw [e]
  show (match readPeer ⟨peerL p, false⟩ with | (p', q) => bif q.fbad || !((S322 p').toList == (S322 p).toList) then ((⟨0, 0, [], []⟩, false) : api_PeerConf × Bool) else (p', true)) = _
  rw [readPeer_peer h]
  dsimp only
  rw [Bool.false_or, show ((S322 p).toList == (S322 p).toList) = true from beq_iff_eq.2 rfl]
  rfl
theorem isP_peer {p : api_PeerConf} (h : okPeer p) (h1 : p.fIn.length + p.fOut.length ≤ 140) : IsP (S322 p) := by
  obtain ⟨h1, h2, h3, h4, h5, h6⟩ := h
  refine ⟨?_⟩
  show (bs (textsL (peerL p))).size ≤ 40000
  rw [size_bs]
  have a1 := text_len h1
  have a2 := text_len h2
  have a3 := text_len (n := (p.fIn.length : Int)) ⟨by omega, by omega⟩
  have a4 := rules_texts _ h5
  have a5 := rules_texts _ h6
  unfold peerL
  rw [texts_app, texts_app, List.length_append, List.length_append]
  have : (textsL [S333 p.fNum, S333 p.fAS, S333 p.fIn.length]).length ≤ 129 := by
    simp only [textsL, List.flatMap_cons, List.flatMap_nil, List.length_append, List.length_nil]
    omega
  omega
theorem okP_of {p : api_PeerConf} (h : OkF p) (h1 : p.fIn.length ≤ 8000) (h2 : p.fOut.length ≤ 8000) : OkP p := by
  obtain ⟨a, b, _, _, e, f⟩ := h
  exact ⟨⟨a, b, h1, h2, e, f⟩⟩
theorem run306 : RunC C306 6 6 [4] [42] W306 [] := by
  intro (p : api_PeerConf) hx hp
  have hf : OkF p := hp _ rfl
  refine of_eq (q306 p _) (bif_of (fun _ => rfl) (fun hc => ?_))
  rw [Bool.or_eq_false_iff] at hc
  have c1 := of_decide_eq_false hc.1
  have c2 := of_decide_eq_false hc.2
  have hk : OkP p := okP_of hf (by omega) (by omega)
  obtain ⟨ho⟩ := hk
  have hk : OkP p := ⟨ho⟩
  have e : S315 (S322 p) = (peerL p, true) := split_texts (peerL p)
  have e := s324_peer ho
  refine ⟨hk, isP_peer ho (by omega), hk, bif_of (fun _ => ?_) (fun hn => ?_)⟩
  · rw [e]
    refine ⟨⟨hk, hk⟩, ?_⟩
    show S323 p p = true
    unfold S323
    rw [decide_eq_true rfl, Bool.true_and]
    exact beq_iff_eq.2 rfl
  · have : ((S322 p).toList == (S325 p).toList && (S324 (S322 p)).2) = true := by
      rw [e, Bool.and_true]; exact beq_iff_eq.2 rfl
    rw [this] at hn; cases hn
theorem ok306 : Ok306 := con_ok (C := C306) (kok_cons ok313 (kok_cons ok322 (kok_cons ok325 (kok_cons ok323 (kok_cons ok324 kok_nil))))) mx7 (by kernel_rfl) run306
end Go.Rx
namespace Go.Rx
open Go.Ab Go.L21
set_option maxRecDepth 100000
set_option maxHeartbeats 20000000
set_option linter.unusedVariables false
/-- interregnum/interregnumlaw24.answers -/
noncomputable def C327 : Cfg S := { P := P7, inl := [], K := [(25, ctr P7 [42] [9] (fun x0 => (some (P325 x0), S325 x0))), (31, ctr P7 [9] [9] (fun x0 => (some (P331 x0), S331 x0))), (28, ctr P7 [49] [9] (fun x0 => (some (P328 x0), S328 x0))), (29, ctr P7 [9] [49, 3, 52] (fun x0 => (some (P329 x0), S329 x0)))], ann := [] }
abbrev W327 : CT S [4] [] := (none, S327)
abbrev Ok327 : Prop := ConOk P7 27 (ctr P7 [] [4] W327) ∧ ConMon (ctr P7 [] [4] W327)
theorem q327 (v : HR S [4]) : (Xf C327 6 (emp 0) 27 (argsA C327 []) (emp 0) (fun r _ => isR C327.P [4] v r) (fun _ _ => False)) = (okSteps [api_Step.mk (1 :
 Int) (-2 : Int) (0 : Int) [(255 : Int)] (api_PeerConf.mk (0 : Int) (0 : Int) [] []) (api_Prefix.mk (0 : Int) (0 : Int)) (0 : Int) (7 : Int)] ∧ okLine (S328
 [api_Step.mk (1 : Int) (-2 : Int) (0 : Int) [(255 : Int)] (api_PeerConf.mk (0 : Int) (0 : Int) [] []) (api_Prefix.mk (0 : Int) (0 : Int)) (0 : Int) (7 :
 Int)]) ∧ OkP (api_PeerConf.mk (0 : Int) (0 : Int) [] []) ∧ Nat.le (nat_lit 9) (nat_lit 1099511627776) ∧ nat_lit 38 ≤ nat_lit 9223372036854775807 ∧ nat_lit 39
 ≤ nat_lit 9223372036854775807 ∧ (true = true → (0 : Int) ≤ (0 : Int) ∧ (0 : Int) < (↑(nat_lit 1) : Int)) ∧ true = v) := by kernel_rfl
end Go.Rx
namespace Go.Rx
open Go.Ab Go.L21
set_option maxRecDepth 100000
set_option maxHeartbeats 20000000
set_option linter.unusedVariables false
/-- interregnum/interregnumlaw24.ScriptBack -/
noncomputable def C307 : Cfg S := { P := P7, inl := [], K := [(28, ctr P7 [49] [9] (fun x0 => (some (P328 x0), S328 x0))), (30, ctr P7 [49] [9] (fun x0 => (some (P330 x0), S330 x0))), (29, ctr P7 [9] [49, 3, 52] (fun x0 => (some (P329 x0), S329 x0))), (26, ctr P7 [49] [4] (fun x0 => (some (P326 x0), S326 x0))), (27, ctr P7 [] [4] (none, S327))], ann := [] }
abbrev W307 : CT S [4] [49] := (fun x0 => (some (P307 x0), S307 x0))
abbrev Ok307 : Prop := ConOk P7 7 (ctr P7 [49] [4] W307) ∧ ConMon (ctr P7 [49] [4] W307)
theorem q307 (x0 : List api_Step) (v : HR S [4]) : (Xf C307 6 (emp 0) 7 (argsA C307 [⟨49, x0⟩]) (emp 0) (fun r _ => isR C307.P [4] v r) (fun _ _ => False)) =
 (okSmall x0 ∧ bif !S326 x0 then true = v else okSteps x0 ∧ okLine (S328 x0) ∧ okSteps x0 ∧ bif (S328 x0).toList == (S330 x0).toList && decide ((S329 (S328
 x0)).snd.snd = (0 : Int)) && decide ((S329 (S328 x0)).snd.fst = (0 : Int)) && decide ((↑(S329 (S328 x0)).fst.length : Int) = (↑x0.length : Int)) then okSteps
 (S329 (S328 x0)).fst ∧ ((S330 (S329 (S328 x0)).fst).toList == (S328 x0).toList) = v else false = v) := by kernel_rfl
end Go.Rx
namespace Go.Rx
open Go.Ab Go.L21
set_option maxRecDepth 100000
set_option maxHeartbeats 20000000
set_option linter.unusedVariables false
/-- interregnum/interregnumlaw24.ScriptReads -/
noncomputable def C308 : Cfg S := { P := P7, inl := [], K := [(30, ctr P7 [49] [9] (fun x0 => (some (P330 x0), S330 x0))), (29, ctr P7 [9] [49, 3, 52] (fun x0 => (some (P329 x0), S329 x0))), (27, ctr P7 [] [4] (none, S327))], ann := [(8, [(9, .join [(.sl 6, .int .i64)]), (8, .loop [(.sl 6, .int .i64), (.sl 7, .int .i64)])])] }
abbrev W308 : CT S [4] [9] := (fun x0 => (some (P308 x0), S308 x0))
abbrev Ok308 : Prop := ConOk P7 8 (ctr P7 [9] [4] W308) ∧ ConMon (ctr P7 [9] [4] W308)
theorem q308 (x0 : ByteArray) (v : HR S [4]) : (Xf C308 6 (emp 0) 8 (argsA C308 [⟨9, x0⟩]) (emp 0) (fun r _ => isR C308.P [4] v r) (fun _ _ => False)) = (bif
 decide ((4000 : Int) < (↑x0.size : Int)) then true = v else okLine x0 ∧ bif decide ((S329 x0).snd.snd = (0 : Int)) then bif decide ((S329 x0).snd.fst = (0 :
 Int)) then okSteps (S329 x0).fst ∧ ((S330 (S329 x0).fst).toList == x0.toList) = v else false = v else LOOP (fun (h : Int × Int) (J : Int × Int → Prop) => bif
 decide (h.snd < (↑x0.size : Int)) then JP (fun (h_1 : Int) => J (h_1, IntKind.i64.wrap (h.snd + (1 : Int)))) fun (J : Int → Prop) => ((0 : Int) ≤ h.snd ∧
 h.snd < (↑x0.size : Int)) ∧ bif decide ((↑(x0.data.toList.getD h.snd.toNat (0 : UInt8)).toNat : Int) = (10 : Int)) then J (IntKind.i64.wrap (h.fst + (1 :
 Int))) else J h.fst else (decide ((S329 x0).snd.snd = (7 : Int)) && decide ((↑(S329 x0).fst.length : Int) = (0 : Int)) && decide ((1 : Int) ≤ (S329
 x0).snd.fst) && decide ((S329 x0).snd.fst ≤ IntKind.i64.wrap (h.fst + (1 : Int)))) = v) ((0 : Int), (0 : Int))) := by kernel_rfl
end Go.Rx
namespace Go.Rx
open Go.Ab Go.L21
set_option maxRecDepth 100000
set_option maxHeartbeats 20000000
set_option linter.unusedVariables false
/-- interregnum/interregnumlaw24.ScriptEnds -/
noncomputable def C310 : Cfg S := { P := P7, inl := [], K := [(30, ctr P7 [49] [9] (fun x0 => (some (P330 x0), S330 x0))), (29, ctr P7 [9] [49, 3, 52] (fun x0 => (some (P329 x0), S329 x0))), (26, ctr P7 [49] [4] (fun x0 => (some (P326 x0), S326 x0))), (27, ctr P7 [] [4] (none, S327))], ann := [] }
abbrev W310 : CT S [4] [49] := (fun x0 => (some (P310 x0), S310 x0))
abbrev Ok310 : Prop := ConOk P7 10 (ctr P7 [49] [4] W310) ∧ ConMon (ctr P7 [49] [4] W310)
theorem q310 (x0 : List api_Step) (v : HR S [4]) : (Xf C310 6 (emp 0) 10 (argsA C310 [⟨49, x0⟩]) (emp 0) (fun r _ => isR C310.P [4] v r) (fun _ _ => False)) =
 (okSmall x0 ∧ bif !S326 x0 || decide ((↑x0.length : Int) = (0 : Int)) then true = v else okSteps x0 ∧ ((0 : Int) ≤ (0 : Int) ∧ (0 : Int) ≤ IntKind.i64.wrap
 ((↑(S330 x0).size : Int) - (1 : Int)) ∧ IntKind.i64.wrap ((↑(S330 x0).size : Int) - (1 : Int)) ≤ (↑(S330 x0).size : Int)) ∧ okLine ((S330 x0).extract (nat_lit
 0) (IntKind.i64.wrap ((↑(S330 x0).size : Int) - (1 : Int))).toNat) ∧ (decide ((S329 ((S330 x0).extract (nat_lit 0) (IntKind.i64.wrap ((↑(S330 x0).size : Int)
 - (1 : Int))).toNat)).snd.snd = (7 : Int)) && decide ((S329 ((S330 x0).extract (nat_lit 0) (IntKind.i64.wrap ((↑(S330 x0).size : Int) - (1 :
 Int))).toNat)).snd.fst = (↑x0.length : Int)) && decide ((↑(S329 ((S330 x0).extract (nat_lit 0) (IntKind.i64.wrap ((↑(S330 x0).size : Int) - (1 :
 Int))).toNat)).fst.length : Int) = (0 : Int))) = v) := by kernel_rfl
end Go.Rx
namespace Go.Rx
open Go.Ab Go.L21
set_option maxRecDepth 100000
set_option maxHeartbeats 20000000
set_option linter.unusedVariables false
/-- interregnum/interregnumlaw24.ScriptNumbers -/
noncomputable def C311 : Cfg S := { P := P7, inl := [], K := [(23, ctr P7 [42, 42] [4] (fun x0 x1 => (some (P323 x0 x1), S323 x0 x1))), (28, ctr P7 [49] [9] (fun x0 => (some (P328 x0), S328 x0))), (29, ctr P7 [9] [49, 3, 52] (fun x0 => (some (P329 x0), S329 x0))), (26, ctr P7 [49] [4] (fun x0 => (some (P326 x0), S326 x0))), (27, ctr P7 [] [4] (none, S327))], ann := [] }
abbrev W311 : CT S [4] [61] := (fun x0 => (some (P311 x0), S311 x0))
abbrev Ok311 : Prop := ConOk P7 11 (ctr P7 [61] [4] W311) ∧ ConMon (ctr P7 [61] [4] W311)
theorem q311 (x0 : api_Step) (v : HR S [4]) : (Xf C311 6 (emp 0) 11 (argsA C311 [⟨61, x0⟩]) (emp 0) (fun r _ => isR C311.P [4] v r) (fun _ _ => False)) =
 (okSmall [x0] ∧ bif !S326 [x0] then true = v else okSteps [x0, x0] ∧ okLine (S328 [x0, x0]) ∧ ((decide ((S329 (S328 [x0, x0])).snd.snd = (0 : Int)) && decide
 ((↑(S329 (S328 [x0, x0])).fst.length : Int) = (2 : Int))) = true → (0 : Int) ≤ (0 : Int) ∧ (0 : Int) < (↑(S329 (S328 [x0, x0])).fst.length : Int)) ∧ ((decide
 ((S329 (S328 [x0, x0])).snd.snd = (0 : Int)) && decide ((↑(S329 (S328 [x0, x0])).fst.length : Int) = (2 : Int)) && decide ((ix (S329 (S328 [x0, x0])).fst (0 :
 Int)).fKind = x0.fKind)) = true → (0 : Int) ≤ (0 : Int) ∧ (0 : Int) < (↑(S329 (S328 [x0, x0])).fst.length : Int)) ∧ ((decide ((S329 (S328 [x0, x0])).snd.snd =
 (0 : Int)) && decide ((↑(S329 (S328 [x0, x0])).fst.length : Int) = (2 : Int)) && decide ((ix (S329 (S328 [x0, x0])).fst (0 : Int)).fKind = x0.fKind) && decide
 ((ix (S329 (S328 [x0, x0])).fst (0 : Int)).fA = x0.fA)) = true → (0 : Int) ≤ (1 : Int) ∧ (1 : Int) < (↑(S329 (S328 [x0, x0])).fst.length : Int)) ∧ ((decide
 ((S329 (S328 [x0, x0])).snd.snd = (0 : Int)) && decide ((↑(S329 (S328 [x0, x0])).fst.length : Int) = (2 : Int)) && decide ((ix (S329 (S328 [x0, x0])).fst (0 :
 Int)).fKind = x0.fKind) && decide ((ix (S329 (S328 [x0, x0])).fst (0 : Int)).fA = x0.fA) && decide ((ix (S329 (S328 [x0, x0])).fst (1 : Int)).fB = x0.fB)) =
 true → (0 : Int) ≤ (1 : Int) ∧ (1 : Int) < (↑(S329 (S328 [x0, x0])).fst.length : Int)) ∧ ((decide ((S329 (S328 [x0, x0])).snd.snd = (0 : Int)) && decide
 ((↑(S329 (S328 [x0, x0])).fst.length : Int) = (2 : Int)) && decide ((ix (S329 (S328 [x0, x0])).fst (0 : Int)).fKind = x0.fKind) && decide ((ix (S329 (S328
 [x0, x0])).fst (0 : Int)).fA = x0.fA) && decide ((ix (S329 (S328 [x0, x0])).fst (1 : Int)).fB = x0.fB) && decide ((ix (S329 (S328 [x0, x0])).fst (1 :
 Int)).fKeep = x0.fKeep)) = true → (0 : Int) ≤ (0 : Int) ∧ (0 : Int) < (↑(S329 (S328 [x0, x0])).fst.length : Int)) ∧ ((decide ((S329 (S328 [x0, x0])).snd.snd =
 (0 : Int)) && decide ((↑(S329 (S328 [x0, x0])).fst.length : Int) = (2 : Int)) && decide ((ix (S329 (S328 [x0, x0])).fst (0 : Int)).fKind = x0.fKind) && decide
 ((ix (S329 (S328 [x0, x0])).fst (0 : Int)).fA = x0.fA) && decide ((ix (S329 (S328 [x0, x0])).fst (1 : Int)).fB = x0.fB) && decide ((ix (S329 (S328 [x0,
 x0])).fst (1 : Int)).fKeep = x0.fKeep) && (decide ((ix (S329 (S328 [x0, x0])).fst (0 : Int)).fPrefix.fAddr = x0.fPrefix.fAddr) && (decide ((ix (S329 (S328
 [x0, x0])).fst (0 : Int)).fPrefix.fLen = x0.fPrefix.fLen) && true))) = true → (0 : Int) ≤ (0 : Int) ∧ (0 : Int) < (↑(S329 (S328 [x0, x0])).fst.length : Int))
 ∧ ((decide ((S329 (S328 [x0, x0])).snd.snd = (0 : Int)) && decide ((↑(S329 (S328 [x0, x0])).fst.length : Int) = (2 : Int)) && decide ((ix (S329 (S328 [x0,
 x0])).fst (0 : Int)).fKind = x0.fKind) && decide ((ix (S329 (S328 [x0, x0])).fst (0 : Int)).fA = x0.fA) && decide ((ix (S329 (S328 [x0, x0])).fst (1 :
 Int)).fB = x0.fB) && decide ((ix (S329 (S328 [x0, x0])).fst (1 : Int)).fKeep = x0.fKeep) && (decide ((ix (S329 (S328 [x0, x0])).fst (0 : Int)).fPrefix.fAddr =
 x0.fPrefix.fAddr) && (decide ((ix (S329 (S328 [x0, x0])).fst (0 : Int)).fPrefix.fLen = x0.fPrefix.fLen) && true)) && decide ((ix (S329 (S328 [x0, x0])).fst (0
 : Int)).fNext = x0.fNext)) = true → (0 : Int) ≤ (1 : Int) ∧ (1 : Int) < (↑(S329 (S328 [x0, x0])).fst.length : Int)) ∧ ((decide ((S329 (S328 [x0, x0])).snd.snd
 = (0 : Int)) && decide ((↑(S329 (S328 [x0, x0])).fst.length : Int) = (2 : Int)) && decide ((ix (S329 (S328 [x0, x0])).fst (0 : Int)).fKind = x0.fKind) &&
 decide ((ix (S329 (S328 [x0, x0])).fst (0 : Int)).fA = x0.fA) && decide ((ix (S329 (S328 [x0, x0])).fst (1 : Int)).fB = x0.fB) && decide ((ix (S329 (S328 [x0,
 x0])).fst (1 : Int)).fKeep = x0.fKeep) && (decide ((ix (S329 (S328 [x0, x0])).fst (0 : Int)).fPrefix.fAddr = x0.fPrefix.fAddr) && (decide ((ix (S329 (S328
 [x0, x0])).fst (0 : Int)).fPrefix.fLen = x0.fPrefix.fLen) && true)) && decide ((ix (S329 (S328 [x0, x0])).fst (0 : Int)).fNext = x0.fNext) && (bsOf (List.map
 (fun (x : Int) => x) (ix (S329 (S328 [x0, x0])).fst (1 : Int)).fData)).toList == (bsOf (List.map (fun (x : Int) => x) x0.fData)).toList) = true → (0 : Int) ≤
 (0 : Int) ∧ (0 : Int) < (↑(S329 (S328 [x0, x0])).fst.length : Int)) ∧ bif decide ((S329 (S328 [x0, x0])).snd.snd = (0 : Int)) && decide ((↑(S329 (S328 [x0,
 x0])).fst.length : Int) = (2 : Int)) && decide ((ix (S329 (S328 [x0, x0])).fst (0 : Int)).fKind = x0.fKind) && decide ((ix (S329 (S328 [x0, x0])).fst (0 :
 Int)).fA = x0.fA) && decide ((ix (S329 (S328 [x0, x0])).fst (1 : Int)).fB = x0.fB) && decide ((ix (S329 (S328 [x0, x0])).fst (1 : Int)).fKeep = x0.fKeep) &&
 (decide ((ix (S329 (S328 [x0, x0])).fst (0 : Int)).fPrefix.fAddr = x0.fPrefix.fAddr) && (decide ((ix (S329 (S328 [x0, x0])).fst (0 : Int)).fPrefix.fLen =
 x0.fPrefix.fLen) && true)) && decide ((ix (S329 (S328 [x0, x0])).fst (0 : Int)).fNext = x0.fNext) && (bsOf (List.map (fun (x : Int) => x) (ix (S329 (S328 [x0,
 x0])).fst (1 : Int)).fData)).toList == (bsOf (List.map (fun (x : Int) => x) x0.fData)).toList then (OkP (ix (S329 (S328 [x0, x0])).fst (0 : Int)).fPeer ∧ OkP
 x0.fPeer) ∧ S323 (ix (S329 (S328 [x0, x0])).fst (0 : Int)).fPeer x0.fPeer = v else false = v) := by kernel_rfl
end Go.Rx
/-! Steps' text is read as them. -/
namespace Go.Rx
open Go.Ab Go.L21
set_option linter.unusedVariables false
set_option maxRecDepth 100000
theorem hexDT : ∀ c : Fin 256, hexM 0 [hexDg (c.val / 16), hexDg (c.val % 16)] = some c.val := by decide +kernel
theorem hexM_dg (c : UInt8) : hexM 0 [hexDg (c.toNat / 16), hexDg (c.toNat % 16)] = some c.toNat := hexDT ⟨c.toNat, c.toNat_lt⟩
theorem unhex_hex (l : List UInt8) : unhex (hexL l) = some l := by
  induction l with
  | nil => rfl
  | cons c r ih =>
    have e : hexL (c :: r) = hexDg (c.toNat / 16) :: hexDg (c.toNat % 16) :: hexL r := rfl
    rw [e, unhex, hexM_dg]
    simp only [ih]
    rw [show UInt8.ofNat c.toNat = c from UInt8.ofNat_toNat]
theorem s362_hex (b : ByteArray) : S362 (S359 b) = (b, true) := by
  rw [s362]
  show hexText (120 :: hexL b.data.toList) = _
  show (bif ((120 : UInt8) == 120 && decide ((hexL b.data.toList).length % 2 = 0)) then (match unhex (hexL b.data.toList) with | some l => ((bs l, true) : ByteArray × Bool) | none => (bs [], false)) else (bs [], false)) = _
  have : decide ((hexL b.data.toList).length % 2 = 0) = true := decide_eq_true (by rw [hexL_len]; omega)
  rw [this, unhex_hex]
  rfl
/-- Bytes that are a digit, a sign or an x. -/
def Wd (c : UInt8) : Prop := c ≠ 32 ∧ c ≠ 10
theorem digs_wd {l : List UInt8} (h : Digs l) : ∀ c ∈ l, Wd c := fun c hc => by
  obtain ⟨h1, h2⟩ := h c hc
  constructor
  · intro e; rw [e] at h1; exact absurd h1 (by decide)
  · intro e; rw [e] at h1; exact absurd h1 (by decide)
theorem itoa_wd (n : Int) : ∀ c ∈ Lib.itoa n, Wd c := by
  unfold Lib.itoa
  split
  · intro c hc
    rcases List.mem_cons.1 hc with rfl | hc
    · exact ⟨by decide, by decide⟩
    · exact digs_wd (digs_dec _) c hc
  · exact digs_wd (digs_dec _)
theorem hexDW : ∀ d : Fin 16, hexDg d.val ≠ 32 ∧ hexDg d.val ≠ 10 := by decide +kernel
theorem hexDg_wd {d : Nat} (h : d < 16) : Wd (hexDg d) := hexDW ⟨d, h⟩
theorem hexL_wd (l : List UInt8) : ∀ c ∈ hexL l, Wd c := by
  intro c hc
  obtain ⟨b, _, hb⟩ := List.mem_flatMap.1 hc
  have := b.toNat_lt
  rcases List.mem_cons.1 hb with rfl | hb
  · exact hexDg_wd (by omega)
  · rw [List.mem_singleton.1 hb]; exact hexDg_wd (by omega)
theorem xhex_wd (l : List UInt8) : ∀ c ∈ (120 :: hexL l : List UInt8), Wd c := by
  intro c hc
  rcases List.mem_cons.1 hc with rfl | hc
  · exact ⟨by decide, by decide⟩
  · exact hexL_wd l c hc
theorem fields_wd (s : api_Step) : ∀ f ∈ fieldsS s, ∀ c ∈ f.data.toList, Wd c := by
  intro f hf
  simp only [fieldsS, List.mem_cons, List.not_mem_nil, or_false] at hf
  rcases hf with rfl | rfl | rfl | rfl | rfl | rfl | rfl | rfl | rfl
  · exact itoa_wd _
  · exact itoa_wd _
  · exact itoa_wd _
  · exact itoa_wd _
  · exact itoa_wd _
  · exact itoa_wd _
  · exact itoa_wd _
  · exact xhex_wd _
  · exact xhex_wd _
theorem split_line (s : api_Step) : S361 (bs (joinS (fieldsS s) sp)) sp = fieldsS s := by
  have h := s361 (bs (joinS (fieldsS s) sp)) 32
  rw [show sp = (⟨#[32]⟩ : ByteArray) from rfl] at h ⊢
  rw [h]
  show (splitC 32 (Lib.join ((fieldsS s).map (·.data.toList)) [32])).map bs = fieldsS s
  rw [splitC_join (by simp [fieldsS]) (fun l hl b hb => by
    obtain ⟨f, hf, rfl⟩ := List.mem_map.1 hl
    exact (fields_wd s f hf b hb).1), List.map_map]
  exact List.map_id _
theorem join_wd {c : UInt8} (hc : c ≠ 32) : ∀ (ls : List (List UInt8)), (∀ l ∈ ls, ∀ b ∈ l, b ≠ c) → ∀ b ∈ Lib.join ls [32], b ≠ c
  | [], _, b, hb => by cases hb
  | [x], h, b, hb => by rw [Lib.join_one] at hb; exact h x List.mem_cons_self b hb
  | x :: y :: r, h, b, hb => by
    have e : Lib.join (x :: y :: r) [32] = x ++ 32 :: Lib.join (y :: r) [32] := by
      rw [Lib.join_cons, Lib.join_cons]
      simp [Lib.joinTail]
    rw [e] at hb
    rcases List.mem_append.1 hb with hb | hb
    · exact h x List.mem_cons_self b hb
    · rcases List.mem_cons.1 hb with rfl | hb
      · exact fun e => hc e.symm
      · exact join_wd hc (y :: r) (fun l hl => h l (List.mem_cons_of_mem _ hl)) b hb
def oneL (s : api_Step) : List UInt8 := joinS (fieldsS s) sp
theorem line_one (s : api_Step) : lineL s = oneL s ++ [10] := rfl
theorem one_free (s : api_Step) : ∀ b ∈ oneL s, b ≠ 10 := by
  refine join_wd (by decide) _ fun l hl b hb => ?_
  obtain ⟨f, hf, rfl⟩ := List.mem_map.1 hl
  exact (fields_wd s f hf b hb).2
theorem s357_of64 {u : Int} (h : 0 ≤ u ∧ u < 18446744073709551616) : S357 (S333 u) 10 64 = (u, false) := by
  obtain ⟨n, rfl⟩ : ∃ n : Nat, u = (n : Int) := ⟨u.toNat, by omega⟩
  have e : (S333 (n : Int)).data.toList = Lib.decDigits n := by
    show Lib.itoa (n : Int) = _
    rw [itoa_nn (by omega), Int.toNat_natCast]
  show endN (Lib.parseUintB 64 (S333 (n : Int)).data.toList) (2 ^ 64 - 1) = _
  rw [e, uint_dec 64 (Nat.le_refl _) n (by omega)]
  rfl
theorem stepOf_fields {s : api_Step} (h : okStep s) (hp : s.fPeer.fIn.length + s.fPeer.fOut.length ≤ 140) : stepOf (fieldsS s) = s ∧ stepOk (fieldsS s) = true := by
  obtain ⟨hk, ha, hb, hke, had, hle, hne, hda, hpe⟩ := h
  obtain ⟨b, hbb⟩ := of_bytes _ hda.2
  have e1 : S362 (S359 (bsOf s.fData)) = (bs b, true) := by rw [s362_hex, hbb, bsOf_toI]
  have e2 : S362 (S359 (S322 s.fPeer)) = (S322 s.fPeer, true) := s362_hex _
  have e3 := s324_peer hpe
  have u32 : ∀ {u : Int}, 0 ≤ u ∧ u ≤ 4294967295 → S357 (S356 u 10) 10 32 = (u, false) := fun h => s357_of h
  have u64 : ∀ {u : Int}, 0 ≤ u ∧ u < 18446744073709551616 → S357 (S356 u 10) 10 64 = (u, false) := fun h => s357_of64 h
  constructor
  · show (⟨valI (S333 s.fKind), valI (S333 s.fA), valI (S333 s.fB), (S362 (S359 (bsOf s.fData))).1.data.toList.map (fun c => (c.toNat : Int)), (S324 (S362 (S359 (S322 s.fPeer))).1).1, ⟨(S357 (S356 s.fPrefix.fAddr 10) 10 32).1, valI (S333 s.fPrefix.fLen)⟩, (S357 (S356 s.fNext 10) 10 32).1, (S357 (S356 s.fKeep 10) 10 64).1⟩ : api_Step) = s
    rw [valI_of hk, valI_of ha, valI_of hb, valI_of hle, e1, e2, e3, u32 had, u32 hne, u64 hke]
    show (⟨s.fKind, s.fA, s.fB, toI b, s.fPeer, ⟨s.fPrefix.fAddr, s.fPrefix.fLen⟩, s.fNext, s.fKeep⟩ : api_Step) = s
    rw [← hbb]
  · show (!(S337 (S333 s.fKind)).2 && !(S337 (S333 s.fA)).2 && !(S337 (S333 s.fB)).2 && !(S337 (S333 s.fPrefix.fLen)).2 && !(S357 (S356 s.fKeep 10) 10 64).2 && !(S357 (S356 s.fPrefix.fAddr 10) 10 32).2 && !(S357 (S356 s.fNext 10) 10 32).2 && (S362 (S359 (bsOf s.fData))).2 && (S362 (S359 (S322 s.fPeer))).2 && (S324 (S362 (S359 (S322 s.fPeer))).1).2) = true
    rw [s337_of hk, s337_of ha, s337_of hb, s337_of hle, e1, e2, e3, u32 had, u32 hne, u64 hke]
    rfl
/-- A step with few rules. -/
def small1 (s : api_Step) : Prop := okStep s ∧ s.fPeer.fIn.length + s.fPeer.fOut.length ≤ 140
theorem s348_line {s : api_Step} (h : small1 s) : S348 (bs (oneL s)) = (s, true) := by
  obtain ⟨h1, h2⟩ := stepOf_fields h.1 h.2
  have hS : S348 (bs (oneL s)) = readStep (bs (oneL s)) := lk_eq _ _
  rw [hS]
  unfold readStep
  rw [show S361 (bs (oneL s)) sp = fieldsS s from split_line s, h1, h2]
  show (s, true && lineL s == oneL s ++ [10]) = _
  rw [Bool.true_and, line_one, beq_iff_eq.2 rfl]
theorem tk_app {l r : List UInt8} (h : ∀ b ∈ l, b ≠ 10) : tk (l ++ 10 :: r) = l := by
  unfold tk
  rw [List.takeWhile_append_of_pos (fun b hb => by simpa using h b hb)]
  simp
theorem tk_free {l : List UInt8} (h : ∀ b ∈ l, b ≠ 10) : tk l = l := by
  have := List.takeWhile_append_of_pos (p := (· != (10 : UInt8))) (l₁ := l) (l₂ := []) (fun b hb => by simpa using h b hb)
  rw [List.append_nil] at this
  unfold tk
  rw [this]; simp
theorem readF_line {s : api_Step} (h : small1 s) (k : Nat) (n : Int) (r : List UInt8) (out : List api_Step) : readF (k + 1) n (lineL s ++ r) out = readF k (n + 1) r (out ++ [s]) := by
  have e : lineL s ++ r = oneL s ++ 10 :: r := by rw [line_one, List.append_assoc]; rfl
  rw [e, readF_cons _ _ _ _ (by simp), tk_app (one_free s), s348_line h]
  have : decide ((oneL s).length < (oneL s ++ 10 :: r).length) = true := by
    rw [List.length_append, List.length_cons]; exact decide_eq_true (by omega)
  rw [this]
  have e2 : (oneL s ++ 10 :: r).drop ((oneL s).length + 1) = r := by
    rw [← List.drop_drop, List.drop_left]; rfl
  rw [e2]; rfl
theorem readF_lines : ∀ (l : List api_Step), (∀ s ∈ l, small1 s) → ∀ (k : Nat) (n : Int) (r : List UInt8) (out : List api_Step), readF (k + l.length) n (linesL l ++ r) out = readF k (n + l.length) r (out ++ l)
  | [], _, k, n, r, out => by
    show readF k n r out = readF k (n + 0) r (out ++ [])
    rw [Int.add_zero, List.append_nil]
  | s :: l, h, k, n, r, out => by
    have e : linesL (s :: l) ++ r = lineL s ++ (linesL l ++ r) := by
      show (lineL s ++ linesL l) ++ r = _
      rw [List.append_assoc]
    rw [e, show k + (s :: l).length = (k + l.length) + 1 by rw [List.length_cons]; omega, readF_line (h s List.mem_cons_self), readF_lines l (fun x hx => h x (List.mem_cons_of_mem _ hx)), List.append_assoc]
    rw [show n + 1 + (l.length : Int) = n + ((s :: l).length : Int) by rw [List.length_cons]; omega]
    rfl
theorem s329_lines {l : List api_Step} (h : ∀ s ∈ l, small1 s) : S329 (bs (linesL l)) = (l, 0, 0) := by
  rw [s329]
  show readF (linesL l).length 1 (linesL l) [] = _
  have hn := lines_num l
  have := readF_lines l h ((linesL l).length - l.length) 1 [] []
  rw [show (linesL l).length - l.length + l.length = (linesL l).length by omega, List.append_nil, readF_nil] at this
  exact this
theorem rules_w (s : api_Step) (h : okPeer s.fPeer) : (textsL (peerL s.fPeer)).length ≤ 129 + 258 * (s.fPeer.fIn.length + s.fPeer.fOut.length) := by
  obtain ⟨h1, h2, h3, h4, h5, h6⟩ := h
  have a1 := text_len h1
  have a2 := text_len h2
  have a3 := text_len (n := (s.fPeer.fIn.length : Int)) ⟨by omega, by omega⟩
  have a4 := rules_texts _ h5
  have a5 := rules_texts _ h6
  unfold peerL
  rw [texts_app, texts_app, List.length_append, List.length_append]
  have : (textsL [S333 s.fPeer.fNum, S333 s.fPeer.fAS, S333 s.fPeer.fIn.length]).length ≤ 129 := by
    simp only [textsL, List.flatMap_cons, List.flatMap_nil, List.length_append, List.length_nil]
    omega
  omega
theorem line_w {s : api_Step} (h : okStep s) : (lineL s).length ≤ 420 + 11 * weight s := by
  have hr := rules_w s h.peer
  obtain ⟨hk, ha, hb, hke, had, hle, hne, hda, hpe⟩ := h
  obtain ⟨b, hbb⟩ := of_bytes _ hda.2
  have hbl : b.length = s.fData.length := by rw [hbb, toI_len]
  rw [line_eq hbb]
  have l1 := itoa_len hk
  have l2 := itoa_len ha
  have l3 := itoa_len hb
  have l4 : (Lib.itoa s.fKeep).length ≤ 20 := by rw [itoa_nn hke.1]; exact len20 _ (by omega)
  have l5 : (Lib.itoa s.fPrefix.fAddr).length ≤ 21 := itoa_len ⟨by omega, by omega⟩
  have l6 := itoa_len hle
  have l7 : (Lib.itoa s.fNext).length ≤ 21 := itoa_len ⟨by omega, by omega⟩
  have l9 := hexL_len b
  have l10 := hexL_len (textsL (peerL s.fPeer))
  simp only [List.length_append, List.length_cons, List.length_nil]
  unfold weight
  omega
theorem lines_w (l : List api_Step) (h : ∀ s ∈ l, okStep s) : (linesL l).length ≤ 420 * l.length + 11 * (l.map weight).sum := by
  induction l with
  | nil => exact Nat.zero_le _
  | cons s r ih =>
    have e : linesL (s :: r) = lineL s ++ linesL r := rfl
    have h1 := line_w (h s List.mem_cons_self)
    have h2 := ih fun x hx => h x (List.mem_cons_of_mem _ hx)
    rw [e, List.length_append, List.map_cons, List.sum_cons, List.length_cons]
    omega
theorem weight_mem {l : List api_Step} {s : api_Step} (h : s ∈ l) : weight s ≤ (l.map weight).sum := by
  induction l with
  | nil => cases h
  | cons x r ih =>
    rw [List.map_cons, List.sum_cons]
    rcases List.mem_cons.1 h with rfl | h
    · omega
    · have := ih h; omega
/-- What a small list of steps is. -/
theorem small_ok {l : List api_Step} (h : okIn l) (hs : S326 l = true) : (∀ s ∈ l, small1 s) ∧ okSteps l ∧ (linesL l).length ≤ 60000 ∧ l.length < 60 := by
  obtain ⟨hv, hsm⟩ := h
  unfold S326 weights at hs
  simp only [Bool.and_eq_true, decide_eq_true_eq] at hs
  obtain ⟨hw, h60⟩ := hs
  have h1 : ∀ s ∈ l, small1 s := fun s hs => by
    have hm := weight_mem hs
    have hw1 : weight s = s.fData.length + 50 * (s.fPeer.fIn.length + s.fPeer.fOut.length) := rfl
    have v := hv s hs
    refine ⟨{ k := v.k, a := v.a, b := v.b, keep := v.keep, addr := v.addr, len := v.len, next := v.next, data := ⟨by omega, v.data⟩, peer := ⟨v.num, v.asn, by omega, by omega, v.inn, v.out⟩ }, by omega⟩
  have h2 := lines_w l fun s hs => (h1 s hs).1
  exact ⟨h1, ⟨fun s hs => (h1 s hs).1, by omega⟩, by omega, h60⟩
def step0 : api_Step := ⟨1, -2, 0, [255], ⟨0, 0, [], []⟩, ⟨0, 0⟩, 0, 7⟩
theorem vals0 : okIn [step0] := by
  refine ⟨fun s hs => ?_, ⟨by simp, fun s hs => ?_⟩⟩
  · rw [List.mem_singleton.1 hs]
    refine { k := ⟨by decide, by decide⟩, a := ⟨by decide, by decide⟩, b := ⟨by decide, by decide⟩, keep := ⟨by decide, by decide⟩, addr := ⟨by decide, by decide⟩, len := ⟨by decide, by decide⟩, next := ⟨by decide, by decide⟩, data := fun c hc => ?_, num := ⟨by decide, by decide⟩, asn := ⟨by decide, by decide⟩, inn := fun r hr => (by cases hr), out := fun r hr => (by cases hr) }
    rw [List.mem_singleton.1 hc]; exact ⟨by decide, by decide⟩
  · rw [List.mem_singleton.1 hs]; exact ⟨by decide, by decide, by decide⟩
theorem run327 : RunC C327 6 27 [4] [] W327 [] := by
  intro _
  obtain ⟨h1, h2, h3, _⟩ := small_ok vals0 (by decide +kernel)
  refine of_eq (q327 _) ⟨h2, ⟨by show (bs (linesL [step0])).size ≤ 70000; rw [size_bs]; omega⟩, ⟨(h1 _ (List.mem_singleton.2 rfl)).1.peer⟩, (show 9 ≤ 1099511627776 by decide), (show 38 ≤ 9223372036854775807 by decide), (show 39 ≤ 9223372036854775807 by decide), fun _ => (show (0 : Int) ≤ 0 ∧ (0 : Int) < 1 by decide), rfl⟩
theorem ok327 : Ok327 := by
  refine con_ok (C := C327) ?_ mx7 (by kernel_rfl) run327
  exact kok_cons ok325 (kok_cons ok331 (kok_cons ok328 (kk1 ok329)))
theorem run307 : RunC C307 6 7 [4] [49] W307 [] := by
  intro (l : List api_Step) hx hp
  have h : okIn l := hp _ rfl
  refine of_eq (q307 l _) ⟨h.small, bif_of (fun _ => rfl) (fun hc => ?_)⟩
  have hc : S326 l = true := by simpa using hc
  obtain ⟨h1, h2, h3, _⟩ := small_ok h hc
  have e : S329 (S328 l) = (l, 0, 0) := s329_lines h1
  have hl : okLine (S328 l) := ⟨by show (bs (linesL l)).size ≤ 70000; rw [size_bs]; omega⟩
  have ee : ((S330 l).toList == (S328 l).toList) = true := beq_iff_eq.2 rfl
  refine ⟨h2, hl, h2, bif_of (fun _ => ?_) (fun hn => ?_)⟩
  · rw [e]; exact ⟨h2, ee⟩
  · rw [e, show ((S328 l).toList == (S330 l).toList) = true from ee] at hn
    simp at hn
theorem ok307 : Ok307 := by
  refine con_ok (C := C307) ?_ mx7 (by kernel_rfl) run307
  exact kok_cons ok328 (kok_cons ok330 (kok_cons ok329 (kok_cons ok326 (kk1 ok327))))
theorem tk_no : ∀ (l : List UInt8), ∀ b ∈ tk l, b ≠ 10
  | [], b, hb => by cases hb
  | a :: l, b, hb => by
    unfold tk at hb
    rw [List.takeWhile_cons] at hb
    split at hb
    · rename_i h
      rcases List.mem_cons.1 hb with rfl | hb
      · simpa using h
      · exact tk_no l b hb
    · cases hb
theorem readF_sound : ∀ (k : Nat) (n : Int) (l : List UInt8) (out : List api_Step), l.length ≤ k → l.length ≤ 70000 →
    (∃ m, readF k n l out = (out ++ m, 0, 0) ∧ linesL m = l ∧ ∀ s ∈ m, okStep s) ∨ ∃ line : Int, readF k n l out = ([], line, 7) ∧ n ≤ line ∧ line ≤ n + (l.count 10 : Nat)
  | k, n, [], out, _, _ => .inl ⟨[], by rw [readF_nil, List.append_nil], rfl, fun s hs => (by cases hs)⟩
  | 0, n, b :: r, out, h, _ => by simp at h
  | k + 1, n, b :: r, out, h, h7 => by
    generalize hl : (b :: r) = l at *
    have hne : l ≠ [] := fun e => by rw [e] at hl; cases hl
    rw [readF_cons _ _ _ _ hne]
    have htl := tk_le l
    cases hc : ((S348 (bs (tk l))).2 && decide ((tk l).length < l.length)) with
    | false => exact .inr ⟨n, rfl, Int.le_refl _, by omega⟩
    | true =>
      simp only [Bool.and_eq_true, decide_eq_true_eq] at hc
      obtain ⟨h1, h2⟩ := hc
      have hpos : 0 < l.length := List.length_pos_iff.2 hne
      have hdrop : l = tk l ++ 10 :: l.drop ((tk l).length + 1) := by
        have hidx := idx10 l
        rw [if_pos h2] at hidx
        have hg := (Lib.indexByte_some hidx).1
        conv => lhs; rw [← List.take_append_drop (tk l).length l, ← tk_take]
        rw [List.drop_eq_getElem_cons h2]
        have : l[(tk l).length] = 10 := by rw [List.getElem?_eq_getElem h2] at hg; exact Option.some.inj hg
        rw [this]
      have hcount : l.count 10 = (l.drop ((tk l).length + 1)).count 10 + 1 := by
        conv => lhs; rw [hdrop]
        rw [List.count_append, List.count_cons_self]
        have : (tk l).count 10 = 0 := by
          rw [List.count_eq_zero]
          intro hm
          exact tk_no l 10 hm rfl
        omega
      have hst : okStep (S348 (bs (tk l))).1 ∧ lineL (S348 (bs (tk l))).1 = tk l ++ [10] := by
        have hS : S348 (bs (tk l)) = readStep (bs (tk l)) := lk_eq _ _
        have hsize := s361_size (bs (tk l))
        have hz : (bs (tk l)).size = (tk l).length := size_bs _
        rw [hS] at h1 ⊢
        unfold readStep at h1 ⊢
        cases h9 : decide ((S361 (bs (tk l)) sp).length = 9) with
        | false => rw [h9] at h1; cases h1
        | true =>
          rw [h9, cond_true] at h1
          rw [cond_true]
          simp only [Bool.and_eq_true] at h1
          obtain ⟨h3, h4⟩ := h1
          refine ⟨okStep_of (N := (bs (tk l)).size) (by omega) hsize (of_decide_eq_true h9) ?_, beq_iff_eq.1 h4⟩
          unfold stepOk at h3
          simp only [Bool.and_eq_true] at h3
          exact h3.2
      rw [cond_true]
      rcases readF_sound k (n + 1) (l.drop ((tk l).length + 1)) (out ++ [(S348 (bs (tk l))).1]) (by rw [List.length_drop]; omega) (by rw [List.length_drop]; omega) with ⟨m, e1, e2, e3⟩ | ⟨line, e1, e2, e3⟩
      · refine .inl ⟨(S348 (bs (tk l))).1 :: m, by rw [e1, List.append_assoc]; rfl, ?_, fun s hs => ?_⟩
        · show lineL (S348 (bs (tk l))).1 ++ linesL m = l
          rw [hst.2, e2, List.append_assoc]; exact hdrop.symm
        · rcases List.mem_cons.1 hs with rfl | hs
          · exact hst.1
          · exact e3 s hs
      · exact .inr ⟨line, e1, by omega, by omega⟩
theorem count_take {l : List UInt8} {k : Nat} {c : UInt8} (h : l[k]? = some c) : (l.take (k + 1)).count 10 = (l.take k).count 10 + (if c = 10 then 1 else 0) := by
  rw [List.take_add_one, h, Option.toList_some, List.count_append, List.count_singleton]
  by_cases e : c = 10
  · subst e; rfl
  · rw [if_neg e, if_neg (by simpa using e)]
theorem run308 : RunC C308 6 8 [4] [9] W308 [] := by
  intro (x : ByteArray) hx hp
  obtain ⟨l, rfl⟩ : ∃ l, x = bs l := ⟨x.data.toList, rfl⟩
  have hz : (bs l).size = l.length := size_bs l
  refine of_eq (q308 (bs l) _) (bif_of (fun _ => rfl) (fun hc => ?_))
  have hc := of_decide_eq_false hc
  have hS : S329 (bs l) = readF l.length 1 l [] := s329 (bs l)
  refine ⟨⟨by omega⟩, ?_⟩
  rcases readF_sound l.length 1 l [] (Nat.le_refl _) (by omega) with ⟨m, e1, e2, e3⟩ | ⟨line, e1, e2, e3⟩
  · have e : S329 (bs l) = (m, 0, 0) := by rw [hS, e1]; rfl
    rw [e]
    refine bif_of (fun _ => bif_of (fun _ => ⟨⟨e3, by rw [e2]; omega⟩, ?_⟩) (fun h => by cases h)) (fun h => by cases h)
    show ((bs (linesL m)).toList == (bs l).toList) = true
    rw [e2]; exact beq_iff_eq.2 rfl
  · have e : S329 (bs l) = ([], line, 7) := by rw [hS, e1]
    rw [e]
    have hcl : l.count 10 ≤ l.length := List.count_le_length
    refine bif_of (fun h => by cases h) (fun _ => ?_)
    refine LOOP.of (fun y => ∃ k : Nat, y = ((((l.take k).count 10 : Nat) : Int), (k : Int)) ∧ k ≤ l.length) (fun y => l.length - y.2.toNat) ⟨0, rfl, by omega⟩ ?_
    rintro _ ⟨k, rfl, hk⟩ J hJ
    dsimp only
    rw [hz]
    refine bif_of (fun hc => ?_) (fun hc => ?_)
    · have hc := of_decide_eq_true hc
      have hkl : k < l.length := by omega
      obtain ⟨c, hy⟩ : ∃ c, l[k]? = some c := ⟨_, List.getElem?_eq_getElem hkl⟩
      have ht := count_take hy
      have hle : (l.take k).count 10 ≤ k := Nat.le_trans List.count_le_length (by rw [List.length_take]; omega)
      have hb : (0 : Int) ≤ (k : Int) ∧ (k : Int) < (l.length : Int) := ⟨by omega, hc⟩
      have hg : (bs l).data.toList.getD ((k : Nat) : Int).toNat 0 = c := by
        rw [Int.toNat_natCast]; exact getD_get hy
      rw [hg]
      refine JP.of (fun z => z = (((l.take (k + 1)).count 10 : Nat) : Int)) (fun J1 hJ1 => ⟨hb, bif_of (fun h => hJ1 _ ?_) (fun h => hJ1 _ ?_)⟩) ?_
      · have h := of_decide_eq_true h
        have : c = 10 := by
          have : c.toNat = 10 := by omega
          exact UInt8.toNat_inj.1 this
        rw [wrap64 (by omega), ht, if_pos this]; omega
      · have h := of_decide_eq_false h
        have : c ≠ 10 := fun e => h (by rw [e]; rfl)
        rw [ht, if_neg this]; omega
      · rintro z hz1
        refine hJ _ ⟨k + 1, ?_, hkl⟩ ?_
        · rw [hz1, wrap64 (by omega)]; rfl
        · show l.length - (IntKind.i64.wrap ((k : Int) + 1)).toNat < l.length - ((k : Nat) : Int).toNat
          rw [wrap64 (by omega)]; omega
    · have hc := of_decide_eq_false hc
      obtain rfl : k = l.length := by omega
      rw [List.take_length, wrap64 (by omega)]
      show (decide ((7 : Int) = 7) && decide (((([] : List api_Step).length : Nat) : Int) = 0) && decide (1 ≤ line) && decide (line ≤ _)) = true
      rw [decide_eq_true e2, decide_eq_true (show line ≤ ((l.count 10 : Nat) : Int) + 1 by omega)]
      rfl
theorem ok308 : Ok308 := by
  refine con_ok (C := C308) ?_ mx7 (by kernel_rfl) run308
  exact kok_cons ok330 (kok_cons ok329 (kk1 ok327))
theorem run310 : RunC C310 6 10 [4] [49] W310 [] := by
  intro (l : List api_Step) hx hp
  have h : okIn l := hp _ rfl
  refine of_eq (q310 l _) ⟨h.small, bif_of (fun _ => rfl) (fun hc => ?_)⟩
  rw [Bool.or_eq_false_iff] at hc
  obtain ⟨hc, hne⟩ := hc
  have hc : S326 l = true := by simpa using hc
  have hne := of_decide_eq_false hne
  obtain ⟨h1, h2, h3, _⟩ := small_ok h hc
  have hl0 : l ≠ [] := fun e => hne (by rw [e]; rfl)
  obtain ⟨init, s, rfl⟩ : ∃ init s, l = init ++ [s] := ⟨l.dropLast, l.getLast hl0, (List.dropLast_concat_getLast hl0).symm⟩
  have e1 : linesL (init ++ [s]) = linesL init ++ oneL s ++ [10] := by
    show (init ++ [s]).flatMap lineL = _
    rw [List.flatMap_append]
    show linesL init ++ (lineL s ++ []) = _
    rw [List.append_nil, line_one, List.append_assoc]
  have hz : (S330 (init ++ [s])).size = (linesL init ++ oneL s).length + 1 := by
    show (bs (linesL (init ++ [s]))).size = _
    rw [size_bs, e1, List.length_append]; rfl
  have hlen : (linesL init ++ oneL s).length + 1 ≤ 60000 := by
    rw [e1, List.length_append] at h3; exact h3
  have hw : IntKind.i64.wrap (((S330 (init ++ [s])).size : Int) - 1) = (((linesL init ++ oneL s).length : Nat) : Int) := by
    rw [wrap64 (by omega), hz]; omega
  rw [hw]
  have e2 : (S330 (init ++ [s])).extract 0 (((linesL init ++ oneL s).length : Nat) : Int).toNat = bs (linesL init ++ oneL s) := by
    rw [Int.toNat_natCast]
    show (bs (linesL (init ++ [s]))).extract 0 _ = _
    rw [ext_bs, e1, List.take_left]
  rw [e2]
  have hin : ∀ x ∈ init, small1 x := fun x hx => h1 x (List.mem_append_left _ hx)
  have hs : small1 s := h1 s (by simp)
  have e3 : S329 (bs (linesL init ++ oneL s)) = ([], ((init ++ [s]).length : Int), 7) := by
    rw [s329]
    show readF (linesL init ++ oneL s).length 1 (linesL init ++ oneL s) [] = _
    have hn := lines_num init
    have hone : oneL s ≠ [] := fun e => by
      have h9 := split_line s
      have : joinS (fieldsS s) sp = [] := e
      rw [this] at h9
      have := congrArg List.length h9
      have e5 : (S361 (bs []) sp).length = 1 := by decide +kernel
      rw [e5] at this
      exact absurd this (by show ¬ (1 = 9); decide)
    have hpos : 0 < (oneL s).length := List.length_pos_iff.2 hone
    obtain ⟨k, hk⟩ : ∃ k, (linesL init ++ oneL s).length = (k + 1) + init.length := ⟨(linesL init ++ oneL s).length - init.length - 1, by rw [List.length_append]; omega⟩
    rw [hk, readF_lines init hin, readF_cons _ _ _ _ hone, tk_free (one_free s), decide_eq_false (Nat.lt_irrefl _), Bool.and_false, cond_false]
    rw [show 1 + (init.length : Int) = ((init ++ [s]).length : Int) by rw [List.length_append]; simp only [List.length_cons, List.length_nil]; omega]
  rw [e3]
  refine ⟨h2, ⟨by omega, by omega, by rw [hz]; omega⟩, ⟨by rw [size_bs]; omega⟩, ?_⟩
  show (decide ((7 : Int) = 7) && decide (((init ++ [s]).length : Int) = ((init ++ [s]).length : Int)) && decide (((0 : Nat) : Int) = 0)) = true
  simp
theorem ok310 : Ok310 := by
  refine con_ok (C := C310) ?_ mx7 (by kernel_rfl) run310
  exact kok_cons ok330 (kok_cons ok329 (kok_cons ok326 (kk1 ok327)))
theorem run311 : RunC C311 6 11 [4] [61] W311 [] := by
  intro (s : api_Step) hx hp
  have h : okIn [s] := hp _ rfl
  refine of_eq (q311 s _) ⟨h.small, bif_of (fun _ => rfl) (fun hc => ?_)⟩
  have hc : S326 [s] = true := by simpa using hc
  obtain ⟨h1, h2, h3, _⟩ := small_ok h hc
  have hs : small1 s := h1 s (by simp)
  have hll : (linesL [s, s]).length ≤ 70000 := by
    have e : linesL [s, s] = lineL s ++ (lineL s ++ []) := rfl
    have hw := line_w hs.1
    unfold S326 weights at hc
    simp only [Bool.and_eq_true, decide_eq_true_eq, List.map_cons, List.map_nil, List.sum_cons, List.sum_nil, List.length_cons, List.length_nil] at hc
    rw [e, List.length_append, List.append_nil]; omega
  have h2s : ∀ x ∈ [s, s], small1 x := fun x hx => by
    rcases List.mem_cons.1 hx with rfl | hx
    · exact hs
    · rw [List.mem_singleton.1 hx]; exact hs
  have e : S329 (S328 [s, s]) = ([s, s], 0, 0) := s329_lines h2s
  have hl : okLine (S328 [s, s]) := ⟨by show (bs (linesL [s, s])).size ≤ 70000; rw [size_bs]; exact hll⟩
  rw [e]
  have g0 : (0 : Int) ≤ 0 ∧ (0 : Int) < ((([s, s] : List api_Step).length : Nat) : Int) := ⟨Int.le_refl _, by show (0 : Int) < 2; decide⟩
  have g1 : (0 : Int) ≤ 1 ∧ (1 : Int) < ((([s, s] : List api_Step).length : Nat) : Int) := ⟨by decide, by show (1 : Int) < 2; decide⟩
  have i0 : ix [s, s] 0 = s := rfl
  have i1 : ix [s, s] 1 = s := rfl
  have hop : okSteps [s, s] := ⟨fun x hx => (h2s x hx).1, by omega⟩
  refine ⟨hop, hl, fun _ => g0, fun _ => g0, fun _ => g1, fun _ => g1, fun _ => g0, fun _ => g0, fun _ => g1, fun _ => g0, bif_of (fun _ => ?_) (fun hn => ?_)⟩
  · show (OkP (ix [s, s] 0).fPeer ∧ OkP s.fPeer) ∧ S323 (ix [s, s] 0).fPeer s.fPeer = true
    rw [i0]
    refine ⟨⟨⟨hs.1.peer⟩, ⟨hs.1.peer⟩⟩, ?_⟩
    unfold S323
    rw [decide_eq_true rfl, Bool.true_and]
    exact beq_iff_eq.2 rfl
  · exfalso
    dsimp only at hn
    rw [i0, i1] at hn
    simp at hn
theorem ok311 : Ok311 := by
  refine con_ok (C := C311) ?_ mx7 (by kernel_rfl) run311
  exact kok_cons ok323 (kok_cons ok328 (kok_cons ok329 (kok_cons ok326 (kk1 ok327))))
end Go.Rx
