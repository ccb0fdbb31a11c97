import Derived.Test.YtadjcpiiagkdeaaGreatDoorZ5
import Derived.Shelf.Strings.Builder1
import Derived.Shelf.Strconv.Itoa3
import Derived.Shelf.Strconv.AtoiAll
import Derived.Ground.MpProg
import Derived.Shelf.Pu.ParseUintPublic10
import Derived.Shelf.Strings.Search1
import Derived.Test.YtadjcpiiagkdeaaGreatDoorProg
import Derived.Shelf.Strings.Search2
import Derived.Sort.Grow
import Derived.Shelf.Strconv.Itoa2
import Derived.Lib.AppendIntMem
import Derived.Lib.ItoaWalk
import Derived.Lib.ItoaMem
import Derived.WalkKit
import Derived.BigCall
import Derived.BigGuard
import Derived.Lib.Builder
set_option linter.unusedVariables false
set_option linter.unusedSimpArgs false
/-
  DERIVED: THE SHELF's CONTRACTS AT THIS DUMP, IN PLAIN WORDS (tools/lay-plain.mjs out of 'SlrsD.lean', which tools/lay-shelf.mjs wrote): THE SAME DECLARATIONS UNDER THE SAME NAMES: 'import', 'namespace', 'open', 'def', 'theorem' AND NOTHING ELSE: no command of the shelf's: FOR A HAND-IN. Each laying: the table of numbers ('.._ren') and one theorem, a field a fact of the dump's own or the kernel's comparison; each contract: ONE APPLICATION.
-/
namespace Go.Proofs
open Go.Shelf
def Tryz.lays169_ren : Go.Shelf.Ren := ⟨fun | 169 => 35 | n => n, fun | 70 => 80 | 9 => 9 | 0 => 0 | 72 => 82 | 37 => 35 | 127 => 106 | 3 => 3 | 5 => 5 | n => n, fun | n => n⟩
theorem Tryz.lays169 : Go.Proofs.Lays.n169 Tryz.prog Tryz.lays169_ren := {
  mixed := by kernel_rfl
  f169 := Tryz.func35.trans (congrArg some (by kernel_rfl))
  t0 := Tryz.underlying0
  a0 := Tryz.isAgg0
  z0 := Tryz.sizeOf0
  v0 := Tryz.zeroValue0
  t3 := Tryz.underlying3
  a3 := Tryz.isAgg3
  z3 := Tryz.sizeOf3
  v3 := Tryz.zeroValue3
  t9 := Tryz.underlying9
  a9 := Tryz.isAgg9
  z9 := Tryz.sizeOf9
  v9 := Tryz.zeroValue9
  t37 := Tryz.underlying35
  a37 := Tryz.isAgg35
  z37 := Tryz.sizeOf35
  v37 := Tryz.zeroValue35
  t70 := Tryz.underlying80
  a70 := Tryz.isAgg80
  z70 := Tryz.sizeOf80
  v70 := Tryz.zeroValue80
  t72 := Tryz.underlying82
  a72 := Tryz.isAgg82
  z72 := Tryz.sizeOf82
  v72 := Tryz.zeroValue82
  t127 := Tryz.underlying106
  a127 := Tryz.isAgg106
  z127 := Tryz.sizeOf106
  v127 := Tryz.zeroValue106 }
theorem Tryz.Builder_Extra_169 : Builder.Extra Tryz.prog Tryz.lays169_ren := {
  sizeBuilder := by kernel_rfl
  liesBuilder := by kernel_rfl
  t5 := Tryz.underlying5
  a5 := Tryz.isAgg5
  z5 := Tryz.sizeOf5
  v5 := Tryz.zeroValue5
  infoByte := by kernel_rfl
  cellsByte := by kernel_rfl
  sizeByte := by kernel_rfl
  neB5 := by decide }
def Tryz.lays283_ren : Go.Shelf.Ren := ⟨fun | 283 => 81 | n => n, fun | 3 => 3 | 9 => 9 | 4 => 4 | n => n, fun | n => n⟩
theorem Tryz.lays283 : Go.Proofs.Lays.n283 Tryz.prog Tryz.lays283_ren := {
  mixed := by kernel_rfl
  f283 := Tryz.func81.trans (congrArg some (by kernel_rfl))
  t3 := Tryz.underlying3
  a3 := Tryz.isAgg3
  z3 := Tryz.sizeOf3
  v3 := Tryz.zeroValue3
  t4 := Tryz.underlying4
  a4 := Tryz.isAgg4
  z4 := Tryz.sizeOf4
  v4 := Tryz.zeroValue4
  t9 := Tryz.underlying9
  a9 := Tryz.isAgg9
  z9 := Tryz.sizeOf9
  v9 := Tryz.zeroValue9 }
def Tryz.laysM284_ren : Go.Shelf.Ren := ⟨fun | 284 => 82 | 129 => 104 | 317 => 103 | 318 => 105 | n => n, fun | 53 => 85 | 3 => 3 | 212 => 152 | 0 => 0 | 4 => 4 | 46 => 100 | 5 => 5 | 9 => 9 | n => n, fun | 17 => 4 | n => n⟩
theorem Tryz.laysM284 : Go.Proofs.LaysM.n284 Tryz.prog Tryz.laysM284_ren := {
  mixed := by kernel_rfl
  f129 := Tryz.func104.trans (congrArg some (by kernel_rfl))
  f284 := Tryz.func82.trans (congrArg some (by kernel_rfl))
  f317 := Tryz.func103.trans (congrArg some (by kernel_rfl))
  f318 := Tryz.func105.trans (congrArg some (by kernel_rfl))
  t0 := Tryz.underlying0
  a0 := Tryz.isAgg0
  z0 := Tryz.sizeOf0
  v0 := Tryz.zeroValue0
  t3 := Tryz.underlying3
  a3 := Tryz.isAgg3
  z3 := Tryz.sizeOf3
  v3 := Tryz.zeroValue3
  t4 := Tryz.underlying4
  a4 := Tryz.isAgg4
  z4 := Tryz.sizeOf4
  v4 := Tryz.zeroValue4
  t5 := Tryz.underlying5
  a5 := Tryz.isAgg5
  z5 := Tryz.sizeOf5
  v5 := Tryz.zeroValue5
  t9 := Tryz.underlying9
  a9 := Tryz.isAgg9
  z9 := Tryz.sizeOf9
  v9 := Tryz.zeroValue9
  t46 := Tryz.underlying100
  a46 := Tryz.isAgg100
  z46 := Tryz.sizeOf100
  v46 := Tryz.zeroValue100
  t53 := Tryz.underlying85
  a53 := Tryz.isAgg85
  z53 := Tryz.sizeOf85
  v53 := Tryz.zeroValue85
  t212 := Tryz.underlying152
  a212 := Tryz.isAgg152
  z212 := Tryz.sizeOf152
  v212 := Tryz.zeroValue152
  g17 := by kernel_rfl
  i0 := by kernel_rfl
  i3 := by kernel_rfl
  i4 := by kernel_rfl
  i5 := by kernel_rfl
  i9 := by kernel_rfl
  i46 := by kernel_rfl
  i53 := by kernel_rfl
  i212 := by kernel_rfl
  m17 := by kernel_rfl }
def Tryz.lays285_ren : Go.Shelf.Ren := ⟨fun | 285 => 83 | n => n, fun | 37 => 35 | 53 => 85 | 3 => 3 | 4 => 4 | 51 => 22 | 9 => 9 | 5 => 5 | 0 => 0 | n => n, fun | n => n⟩
theorem Tryz.lays285 : Go.Proofs.Lays.n285 Tryz.prog Tryz.lays285_ren := {
  mixed := by kernel_rfl
  f285 := Tryz.func83.trans (congrArg some (by kernel_rfl))
  t0 := Tryz.underlying0
  a0 := Tryz.isAgg0
  z0 := Tryz.sizeOf0
  v0 := Tryz.zeroValue0
  t3 := Tryz.underlying3
  a3 := Tryz.isAgg3
  z3 := Tryz.sizeOf3
  v3 := Tryz.zeroValue3
  t4 := Tryz.underlying4
  a4 := Tryz.isAgg4
  z4 := Tryz.sizeOf4
  v4 := Tryz.zeroValue4
  t5 := Tryz.underlying5
  a5 := Tryz.isAgg5
  z5 := Tryz.sizeOf5
  v5 := Tryz.zeroValue5
  t9 := Tryz.underlying9
  a9 := Tryz.isAgg9
  z9 := Tryz.sizeOf9
  v9 := Tryz.zeroValue9
  t37 := Tryz.underlying35
  a37 := Tryz.isAgg35
  z37 := Tryz.sizeOf35
  v37 := Tryz.zeroValue35
  t51 := Tryz.underlying22
  a51 := Tryz.isAgg22
  z51 := Tryz.sizeOf22
  v51 := Tryz.zeroValue22
  t53 := Tryz.underlying85
  a53 := Tryz.isAgg85
  z53 := Tryz.sizeOf85
  v53 := Tryz.zeroValue85 }
def Tryz.laysM171_ren : Go.Shelf.Ren := ⟨fun | 171 => 31 | 243 => 54 | 246 => 78 | 283 => 81 | 284 => 82 | 285 => 83 | 286 => 84 | 129 => 104 | 317 => 103 | 318 => 105 | 319 => 106 | 320 => 107 | 337 => 123 | 338 => 124 | n => n, fun | 3 => 3 | 9 => 9 | 2 => 2 | 4 => 4 | 171 => 129 | 0 => 0 | 53 => 85 | 37 => 35 | 5 => 5 | 173 => 132 | 212 => 152 | 51 => 22 | 20 => 20 | 213 => 153 | 46 => 100 | 232 => 178 | 233 => 179 | n => n, fun | 17 => 4 | 18 => 5 | 19 => 6 | n => n⟩
theorem Tryz.laysM171 : Go.Proofs.LaysM.n171 Tryz.prog Tryz.laysM171_ren := {
  mixed := by kernel_rfl
  f129 := Tryz.func104.trans (congrArg some (by kernel_rfl))
  f171 := Tryz.func31.trans (congrArg some (by kernel_rfl))
  f243 := Tryz.func54.trans (congrArg some (by kernel_rfl))
  f246 := Tryz.func78.trans (congrArg some (by kernel_rfl))
  f283 := Tryz.func81.trans (congrArg some (by kernel_rfl))
  f284 := Tryz.func82.trans (congrArg some (by kernel_rfl))
  f285 := Tryz.func83.trans (congrArg some (by kernel_rfl))
  f286 := Tryz.func84.trans (congrArg some (by kernel_rfl))
  f317 := Tryz.func103.trans (congrArg some (by kernel_rfl))
  f318 := Tryz.func105.trans (congrArg some (by kernel_rfl))
  f319 := Tryz.func106.trans (congrArg some (by kernel_rfl))
  f320 := Tryz.func107.trans (congrArg some (by kernel_rfl))
  f337 := Tryz.func123.trans (congrArg some (by kernel_rfl))
  f338 := Tryz.func124.trans (congrArg some (by kernel_rfl))
  t0 := Tryz.underlying0
  a0 := Tryz.isAgg0
  z0 := Tryz.sizeOf0
  v0 := Tryz.zeroValue0
  t2 := Tryz.underlying2
  a2 := Tryz.isAgg2
  z2 := Tryz.sizeOf2
  v2 := Tryz.zeroValue2
  t3 := Tryz.underlying3
  a3 := Tryz.isAgg3
  z3 := Tryz.sizeOf3
  v3 := Tryz.zeroValue3
  t4 := Tryz.underlying4
  a4 := Tryz.isAgg4
  z4 := Tryz.sizeOf4
  v4 := Tryz.zeroValue4
  t5 := Tryz.underlying5
  a5 := Tryz.isAgg5
  z5 := Tryz.sizeOf5
  v5 := Tryz.zeroValue5
  t9 := Tryz.underlying9
  a9 := Tryz.isAgg9
  z9 := Tryz.sizeOf9
  v9 := Tryz.zeroValue9
  t20 := Tryz.underlying20
  a20 := Tryz.isAgg20
  z20 := Tryz.sizeOf20
  v20 := Tryz.zeroValue20
  t37 := Tryz.underlying35
  a37 := Tryz.isAgg35
  z37 := Tryz.sizeOf35
  v37 := Tryz.zeroValue35
  t46 := Tryz.underlying100
  a46 := Tryz.isAgg100
  z46 := Tryz.sizeOf100
  v46 := Tryz.zeroValue100
  t51 := Tryz.underlying22
  a51 := Tryz.isAgg22
  z51 := Tryz.sizeOf22
  v51 := Tryz.zeroValue22
  t53 := Tryz.underlying85
  a53 := Tryz.isAgg85
  z53 := Tryz.sizeOf85
  v53 := Tryz.zeroValue85
  t171 := Tryz.underlying129
  a171 := Tryz.isAgg129
  z171 := Tryz.sizeOf129
  v171 := Tryz.zeroValue129
  t173 := Tryz.underlying132
  a173 := Tryz.isAgg132
  z173 := Tryz.sizeOf132
  v173 := Tryz.zeroValue132
  t212 := Tryz.underlying152
  a212 := Tryz.isAgg152
  z212 := Tryz.sizeOf152
  v212 := Tryz.zeroValue152
  t213 := Tryz.underlying153
  a213 := Tryz.isAgg153
  z213 := Tryz.sizeOf153
  t232 := Tryz.underlying178
  a232 := Tryz.isAgg178
  z232 := Tryz.sizeOf178
  v232 := Tryz.zeroValue178
  t233 := Tryz.underlying179
  a233 := Tryz.isAgg179
  z233 := Tryz.sizeOf179
  v233 := Tryz.zeroValue179
  g17 := by kernel_rfl
  g18 := by kernel_rfl
  g19 := by kernel_rfl
  i0 := by kernel_rfl
  i2 := by kernel_rfl
  i3 := by kernel_rfl
  i4 := by kernel_rfl
  i5 := by kernel_rfl
  i9 := by kernel_rfl
  i20 := by kernel_rfl
  i37 := by kernel_rfl
  i46 := by kernel_rfl
  i51 := by kernel_rfl
  i53 := by kernel_rfl
  i171 := by kernel_rfl
  i173 := by kernel_rfl
  i212 := by kernel_rfl
  i232 := by kernel_rfl
  i233 := by kernel_rfl
  m17 := by kernel_rfl
  m18 := by kernel_rfl
  m19 := by kernel_rfl }
def Tryz.laysC172_ren : Go.Shelf.Ren := ⟨fun | 172 => 30 | 244 => 52 | 245 => 53 | 247 => 73 | 279 => 74 | 280 => 75 | 281 => 76 | 282 => 77 | 287 => 79 | 316 => 99 | 171 => 31 | 205 => 100 | 321 => 101 | 322 => 102 | 243 => 54 | 246 => 78 | 283 => 81 | 284 => 82 | 285 => 83 | 286 => 84 | 129 => 104 | 317 => 103 | 318 => 105 | 319 => 106 | 320 => 107 | 337 => 123 | 338 => 124 | n => n, fun | 9 => 9 | 3 => 3 | 75 => 76 | 76 => 77 | 4 => 4 | 5 => 5 | 167 => 120 | 37 => 35 | 0 => 0 | 85 => 121 | 2 => 2 | 168 => 123 | 53 => 85 | 175 => 104 | 46 => 100 | 210 => 147 | 127 => 106 | 145 => 171 | 143 => 169 | 21 => 21 | 171 => 129 | 173 => 132 | 212 => 152 | 51 => 22 | 20 => 20 | 213 => 153 | 232 => 178 | 233 => 179 | 80 => 65 | n => n, fun | 15 => 2 | 16 => 3 | 17 => 4 | 18 => 5 | 19 => 6 | n => n⟩
theorem Tryz.laysC172 : Go.Proofs.LaysC.n172 Tryz.prog Tryz.laysC172_ren := {
  mixed := by kernel_rfl
  f129 := Tryz.func104.trans (congrArg some (by kernel_rfl))
  f171 := Tryz.func31.trans (congrArg some (by kernel_rfl))
  f172 := Tryz.func30.trans (congrArg some (by kernel_rfl))
  f205 := Tryz.func100.trans (congrArg some (by kernel_rfl))
  f243 := Tryz.func54.trans (congrArg some (by kernel_rfl))
  f244 := Tryz.func52.trans (congrArg some (by kernel_rfl))
  f245 := Tryz.func53.trans (congrArg some (by kernel_rfl))
  f246 := Tryz.func78.trans (congrArg some (by kernel_rfl))
  f247 := Tryz.func73.trans (congrArg some (by kernel_rfl))
  f279 := Tryz.func74.trans (congrArg some (by kernel_rfl))
  f280 := Tryz.func75.trans (congrArg some (by kernel_rfl))
  f281 := Tryz.func76.trans (congrArg some (by kernel_rfl))
  f282 := Tryz.func77.trans (congrArg some (by kernel_rfl))
  f283 := Tryz.func81.trans (congrArg some (by kernel_rfl))
  f284 := Tryz.func82.trans (congrArg some (by kernel_rfl))
  f285 := Tryz.func83.trans (congrArg some (by kernel_rfl))
  f286 := Tryz.func84.trans (congrArg some (by kernel_rfl))
  f287 := Tryz.func79.trans (congrArg some (by kernel_rfl))
  f316 := Tryz.func99.trans (congrArg some (by kernel_rfl))
  f317 := Tryz.func103.trans (congrArg some (by kernel_rfl))
  f318 := Tryz.func105.trans (congrArg some (by kernel_rfl))
  f319 := Tryz.func106.trans (congrArg some (by kernel_rfl))
  f320 := Tryz.func107.trans (congrArg some (by kernel_rfl))
  f321 := Tryz.func101.trans (congrArg some (by kernel_rfl))
  f322 := Tryz.func102.trans (congrArg some (by kernel_rfl))
  f337 := Tryz.func123.trans (congrArg some (by kernel_rfl))
  f338 := Tryz.func124.trans (congrArg some (by kernel_rfl))
  t0 := Tryz.underlying0
  a0 := Tryz.isAgg0
  z0 := Tryz.sizeOf0
  v0 := Tryz.zeroValue0
  t2 := Tryz.underlying2
  a2 := Tryz.isAgg2
  z2 := Tryz.sizeOf2
  v2 := Tryz.zeroValue2
  t3 := Tryz.underlying3
  a3 := Tryz.isAgg3
  z3 := Tryz.sizeOf3
  v3 := Tryz.zeroValue3
  t4 := Tryz.underlying4
  a4 := Tryz.isAgg4
  z4 := Tryz.sizeOf4
  v4 := Tryz.zeroValue4
  t5 := Tryz.underlying5
  a5 := Tryz.isAgg5
  z5 := Tryz.sizeOf5
  v5 := Tryz.zeroValue5
  t9 := Tryz.underlying9
  a9 := Tryz.isAgg9
  z9 := Tryz.sizeOf9
  v9 := Tryz.zeroValue9
  t20 := Tryz.underlying20
  a20 := Tryz.isAgg20
  z20 := Tryz.sizeOf20
  v20 := Tryz.zeroValue20
  t21 := Tryz.underlying21
  a21 := Tryz.isAgg21
  z21 := Tryz.sizeOf21
  v21 := Tryz.zeroValue21
  t37 := Tryz.underlying35
  a37 := Tryz.isAgg35
  z37 := Tryz.sizeOf35
  v37 := Tryz.zeroValue35
  t46 := Tryz.underlying100
  a46 := Tryz.isAgg100
  z46 := Tryz.sizeOf100
  v46 := Tryz.zeroValue100
  t51 := Tryz.underlying22
  a51 := Tryz.isAgg22
  z51 := Tryz.sizeOf22
  v51 := Tryz.zeroValue22
  t53 := Tryz.underlying85
  a53 := Tryz.isAgg85
  z53 := Tryz.sizeOf85
  v53 := Tryz.zeroValue85
  t75 := Tryz.underlying76
  a75 := Tryz.isAgg76
  z75 := Tryz.sizeOf76
  v75 := Tryz.zeroValue76
  t76 := Tryz.underlying77
  a76 := Tryz.isAgg77
  z76 := Tryz.sizeOf77
  v76 := Tryz.zeroValue77
  t85 := Tryz.underlying121
  a85 := Tryz.isAgg121
  z85 := Tryz.sizeOf121
  v85 := Tryz.zeroValue121
  t127 := Tryz.underlying106
  a127 := Tryz.isAgg106
  z127 := Tryz.sizeOf106
  v127 := Tryz.zeroValue106
  t143 := Tryz.underlying169
  a143 := Tryz.isAgg169
  z143 := Tryz.sizeOf169
  v143 := Tryz.zeroValue169
  t145 := Tryz.underlying171
  a145 := Tryz.isAgg171
  z145 := Tryz.sizeOf171
  v145 := Tryz.zeroValue171
  t167 := Tryz.underlying120
  a167 := Tryz.isAgg120
  z167 := Tryz.sizeOf120
  v167 := Tryz.zeroValue120
  t168 := Tryz.underlying123
  a168 := Tryz.isAgg123
  z168 := Tryz.sizeOf123
  v168 := Tryz.zeroValue123
  t171 := Tryz.underlying129
  a171 := Tryz.isAgg129
  z171 := Tryz.sizeOf129
  v171 := Tryz.zeroValue129
  t173 := Tryz.underlying132
  a173 := Tryz.isAgg132
  z173 := Tryz.sizeOf132
  v173 := Tryz.zeroValue132
  t175 := Tryz.underlying104
  a175 := Tryz.isAgg104
  z175 := Tryz.sizeOf104
  v175 := Tryz.zeroValue104
  t210 := Tryz.underlying147
  a210 := Tryz.isAgg147
  z210 := Tryz.sizeOf147
  v210 := Tryz.zeroValue147
  t212 := Tryz.underlying152
  a212 := Tryz.isAgg152
  z212 := Tryz.sizeOf152
  v212 := Tryz.zeroValue152
  t213 := Tryz.underlying153
  a213 := Tryz.isAgg153
  z213 := Tryz.sizeOf153
  t232 := Tryz.underlying178
  a232 := Tryz.isAgg178
  z232 := Tryz.sizeOf178
  v232 := Tryz.zeroValue178
  t233 := Tryz.underlying179
  a233 := Tryz.isAgg179
  z233 := Tryz.sizeOf179
  v233 := Tryz.zeroValue179
  g15 := by kernel_rfl
  g16 := by kernel_rfl
  g17 := by kernel_rfl
  g18 := by kernel_rfl
  g19 := by kernel_rfl
  t80 := Tryz.underlying65
  a80 := Tryz.isAgg65
  z80 := Tryz.sizeOf65
  v80 := Tryz.zeroValue65
  i0 := by kernel_rfl
  i2 := by kernel_rfl
  i3 := by kernel_rfl
  i4 := by kernel_rfl
  i5 := by kernel_rfl
  i9 := by kernel_rfl
  i20 := by kernel_rfl
  i21 := by kernel_rfl
  i37 := by kernel_rfl
  i46 := by kernel_rfl
  i51 := by kernel_rfl
  i53 := by kernel_rfl
  i75 := by kernel_rfl
  i76 := by kernel_rfl
  i80 := by kernel_rfl
  i85 := by kernel_rfl
  i127 := by kernel_rfl
  i143 := by kernel_rfl
  i145 := by kernel_rfl
  i167 := by kernel_rfl
  i168 := by kernel_rfl
  i171 := by kernel_rfl
  i173 := by kernel_rfl
  i175 := by kernel_rfl
  i210 := by kernel_rfl
  i212 := by kernel_rfl
  i232 := by kernel_rfl
  i233 := by kernel_rfl
  m15 := by kernel_rfl
  m16 := by kernel_rfl
  m17 := by kernel_rfl
  m18 := by kernel_rfl
  m19 := by kernel_rfl
  c0 := by kernel_rfl
  c2 := by kernel_rfl
  c3 := by kernel_rfl
  c4 := by kernel_rfl
  c5 := by kernel_rfl
  c9 := by kernel_rfl
  c20 := by kernel_rfl
  c21 := by kernel_rfl
  c37 := by kernel_rfl
  c46 := by kernel_rfl
  c51 := by kernel_rfl
  c53 := by kernel_rfl
  c75 := by kernel_rfl
  c76 := by kernel_rfl
  c80 := by kernel_rfl
  c85 := by kernel_rfl
  c127 := by kernel_rfl
  c143 := by kernel_rfl
  c145 := by kernel_rfl
  c167 := by kernel_rfl
  c168 := by kernel_rfl
  c171 := by kernel_rfl
  c173 := by kernel_rfl
  c175 := by kernel_rfl
  c210 := by kernel_rfl
  c212 := by kernel_rfl
  c213 := by kernel_rfl
  c232 := by kernel_rfl
  c233 := by kernel_rfl }
def Tryz.laysPu14_ren : Go.Shelf.Ren := ⟨fun | 14 => 55 | 16 => 79 | 17 => 53 | 19 => 101 | 20 => 102 | 21 => 74 | 22 => 75 | 23 => 76 | 24 => 77 | 25 => 99 | 27 => 31 | 26 => 100 | 28 => 54 | 29 => 78 | 30 => 81 | 31 => 82 | 32 => 83 | 33 => 84 | 35 => 104 | 34 => 103 | 36 => 105 | 37 => 106 | 38 => 107 | 39 => 123 | 40 => 124 | n => n, fun | 9 => 9 | 3 => 3 | 22 => 85 | 24 => 76 | 25 => 104 | 4 => 4 | 34 => 120 | 5 => 5 | 36 => 100 | 37 => 35 | 0 => 0 | 39 => 123 | 21 => 21 | 44 => 147 | 47 => 106 | 50 => 171 | 48 => 169 | 2 => 2 | 52 => 129 | 55 => 132 | 59 => 152 | 60 => 22 | 20 => 20 | 61 => 153 | 65 => 178 | 66 => 179 | 67 => 65 | n => n, fun | 0 => 2 | 1 => 3 | 2 => 4 | 3 => 5 | 4 => 6 | n => n⟩
theorem Tryz.laysPu14 : Go.Proofs.LaysPu.n14 Tryz.prog Tryz.laysPu14_ren := {
  mixed := by kernel_rfl
  f14 := Tryz.func55.trans (congrArg some (by kernel_rfl))
  f16 := Tryz.func79.trans (congrArg some (by kernel_rfl))
  f17 := Tryz.func53.trans (congrArg some (by kernel_rfl))
  f19 := Tryz.func101.trans (congrArg some (by kernel_rfl))
  f20 := Tryz.func102.trans (congrArg some (by kernel_rfl))
  f21 := Tryz.func74.trans (congrArg some (by kernel_rfl))
  f22 := Tryz.func75.trans (congrArg some (by kernel_rfl))
  f23 := Tryz.func76.trans (congrArg some (by kernel_rfl))
  f24 := Tryz.func77.trans (congrArg some (by kernel_rfl))
  f25 := Tryz.func99.trans (congrArg some (by kernel_rfl))
  f26 := Tryz.func100.trans (congrArg some (by kernel_rfl))
  f27 := Tryz.func31.trans (congrArg some (by kernel_rfl))
  f28 := Tryz.func54.trans (congrArg some (by kernel_rfl))
  f29 := Tryz.func78.trans (congrArg some (by kernel_rfl))
  f30 := Tryz.func81.trans (congrArg some (by kernel_rfl))
  f31 := Tryz.func82.trans (congrArg some (by kernel_rfl))
  f32 := Tryz.func83.trans (congrArg some (by kernel_rfl))
  f33 := Tryz.func84.trans (congrArg some (by kernel_rfl))
  f34 := Tryz.func103.trans (congrArg some (by kernel_rfl))
  f35 := Tryz.func104.trans (congrArg some (by kernel_rfl))
  f36 := Tryz.func105.trans (congrArg some (by kernel_rfl))
  f37 := Tryz.func106.trans (congrArg some (by kernel_rfl))
  f38 := Tryz.func107.trans (congrArg some (by kernel_rfl))
  f39 := Tryz.func123.trans (congrArg some (by kernel_rfl))
  f40 := Tryz.func124.trans (congrArg some (by kernel_rfl))
  t0 := Tryz.underlying0
  a0 := Tryz.isAgg0
  z0 := Tryz.sizeOf0
  v0 := Tryz.zeroValue0
  i0 := by kernel_rfl
  t2 := Tryz.underlying2
  a2 := Tryz.isAgg2
  z2 := Tryz.sizeOf2
  v2 := Tryz.zeroValue2
  i2 := by kernel_rfl
  t3 := Tryz.underlying3
  a3 := Tryz.isAgg3
  z3 := Tryz.sizeOf3
  v3 := Tryz.zeroValue3
  i3 := by kernel_rfl
  t4 := Tryz.underlying4
  a4 := Tryz.isAgg4
  z4 := Tryz.sizeOf4
  v4 := Tryz.zeroValue4
  i4 := by kernel_rfl
  t5 := Tryz.underlying5
  a5 := Tryz.isAgg5
  z5 := Tryz.sizeOf5
  v5 := Tryz.zeroValue5
  i5 := by kernel_rfl
  t9 := Tryz.underlying9
  a9 := Tryz.isAgg9
  z9 := Tryz.sizeOf9
  v9 := Tryz.zeroValue9
  i9 := by kernel_rfl
  t20 := Tryz.underlying20
  a20 := Tryz.isAgg20
  z20 := Tryz.sizeOf20
  v20 := Tryz.zeroValue20
  i20 := by kernel_rfl
  t21 := Tryz.underlying21
  a21 := Tryz.isAgg21
  z21 := Tryz.sizeOf21
  v21 := Tryz.zeroValue21
  i21 := by kernel_rfl
  t22 := Tryz.underlying85
  a22 := Tryz.isAgg85
  z22 := Tryz.sizeOf85
  v22 := Tryz.zeroValue85
  i22 := by kernel_rfl
  t24 := Tryz.underlying76
  a24 := Tryz.isAgg76
  z24 := Tryz.sizeOf76
  v24 := Tryz.zeroValue76
  i24 := by kernel_rfl
  t25 := Tryz.underlying104
  a25 := Tryz.isAgg104
  z25 := Tryz.sizeOf104
  v25 := Tryz.zeroValue104
  i25 := by kernel_rfl
  t34 := Tryz.underlying120
  a34 := Tryz.isAgg120
  z34 := Tryz.sizeOf120
  v34 := Tryz.zeroValue120
  i34 := by kernel_rfl
  c34 := by kernel_rfl
  t36 := Tryz.underlying100
  a36 := Tryz.isAgg100
  z36 := Tryz.sizeOf100
  v36 := Tryz.zeroValue100
  i36 := by kernel_rfl
  t37 := Tryz.underlying35
  a37 := Tryz.isAgg35
  z37 := Tryz.sizeOf35
  v37 := Tryz.zeroValue35
  i37 := by kernel_rfl
  t39 := Tryz.underlying123
  a39 := Tryz.isAgg123
  z39 := Tryz.sizeOf123
  v39 := Tryz.zeroValue123
  i39 := by kernel_rfl
  t44 := Tryz.underlying147
  a44 := Tryz.isAgg147
  z44 := Tryz.sizeOf147
  v44 := Tryz.zeroValue147
  i44 := by kernel_rfl
  t47 := Tryz.underlying106
  a47 := Tryz.isAgg106
  z47 := Tryz.sizeOf106
  v47 := Tryz.zeroValue106
  i47 := by kernel_rfl
  t48 := Tryz.underlying169
  a48 := Tryz.isAgg169
  z48 := Tryz.sizeOf169
  v48 := Tryz.zeroValue169
  i48 := by kernel_rfl
  t50 := Tryz.underlying171
  a50 := Tryz.isAgg171
  z50 := Tryz.sizeOf171
  v50 := Tryz.zeroValue171
  i50 := by kernel_rfl
  t52 := Tryz.underlying129
  a52 := Tryz.isAgg129
  z52 := Tryz.sizeOf129
  v52 := Tryz.zeroValue129
  i52 := by kernel_rfl
  t55 := Tryz.underlying132
  a55 := Tryz.isAgg132
  z55 := Tryz.sizeOf132
  v55 := Tryz.zeroValue132
  i55 := by kernel_rfl
  t59 := Tryz.underlying152
  a59 := Tryz.isAgg152
  z59 := Tryz.sizeOf152
  v59 := Tryz.zeroValue152
  i59 := by kernel_rfl
  t60 := Tryz.underlying22
  a60 := Tryz.isAgg22
  z60 := Tryz.sizeOf22
  v60 := Tryz.zeroValue22
  i60 := by kernel_rfl
  t61 := Tryz.underlying153
  a61 := Tryz.isAgg153
  z61 := Tryz.sizeOf153
  t65 := Tryz.underlying178
  a65 := Tryz.isAgg178
  z65 := Tryz.sizeOf178
  v65 := Tryz.zeroValue178
  i65 := by kernel_rfl
  t66 := Tryz.underlying179
  a66 := Tryz.isAgg179
  z66 := Tryz.sizeOf179
  v66 := Tryz.zeroValue179
  i66 := by kernel_rfl
  t67 := Tryz.underlying65
  a67 := Tryz.isAgg65
  z67 := Tryz.sizeOf65
  v67 := Tryz.zeroValue65
  i67 := by kernel_rfl
  g0 := by kernel_rfl
  m0 := by kernel_rfl
  g1 := by kernel_rfl
  m1 := by kernel_rfl
  g2 := by kernel_rfl
  m2 := by kernel_rfl
  g3 := by kernel_rfl
  m3 := by kernel_rfl
  g4 := by kernel_rfl
  m4 := by kernel_rfl }
def Tryz.lays219_ren : Go.Shelf.Ren := ⟨fun | 219 => 72 | 217 => 95 | 225 => 96 | 224 => 97 | 267 => 98 | 266 => 121 | 314 => 122 | n => n, fun | 9 => 9 | 3 => 3 | 4 => 4 | 5 => 5 | 46 => 100 | 146 => 167 | 51 => 22 | n => n, fun | 1 => 1 | n => n⟩
theorem Tryz.lays219 : Go.Proofs.Lays.n219 Tryz.prog Tryz.lays219_ren := {
  mixed := by kernel_rfl
  f217 := Tryz.func95.trans (congrArg some (by kernel_rfl))
  f219 := Tryz.func72.trans (congrArg some (by kernel_rfl))
  f224 := Tryz.func97.trans (congrArg some (by kernel_rfl))
  f225 := Tryz.func96.trans (congrArg some (by kernel_rfl))
  f266 := Tryz.func121.trans (congrArg some (by kernel_rfl))
  f267 := Tryz.func98.trans (congrArg some (by kernel_rfl))
  f314 := Tryz.func122.trans (congrArg some (by kernel_rfl))
  t3 := Tryz.underlying3
  a3 := Tryz.isAgg3
  z3 := Tryz.sizeOf3
  v3 := Tryz.zeroValue3
  t4 := Tryz.underlying4
  a4 := Tryz.isAgg4
  z4 := Tryz.sizeOf4
  v4 := Tryz.zeroValue4
  t5 := Tryz.underlying5
  a5 := Tryz.isAgg5
  z5 := Tryz.sizeOf5
  v5 := Tryz.zeroValue5
  t9 := Tryz.underlying9
  a9 := Tryz.isAgg9
  z9 := Tryz.sizeOf9
  v9 := Tryz.zeroValue9
  t46 := Tryz.underlying100
  a46 := Tryz.isAgg100
  z46 := Tryz.sizeOf100
  v46 := Tryz.zeroValue100
  t51 := Tryz.underlying22
  a51 := Tryz.isAgg22
  z51 := Tryz.sizeOf22
  v51 := Tryz.zeroValue22
  t146 := Tryz.underlying167
  a146 := Tryz.isAgg167
  z146 := Tryz.sizeOf167
  v146 := Tryz.zeroValue167
  g1 := by kernel_rfl }
end Go.Proofs
namespace Go.Proofs
open Go.Shelf
def Tryz.lays167_ren : Go.Shelf.Ren := ⟨fun | 167 => 34 | 240 => 56 | 276 => 80 | n => n, fun | 37 => 35 | 70 => 80 | 72 => 82 | 75 => 76 | 164 => 127 | 80 => 65 | n => n, fun | n => n⟩
theorem Tryz.lays167 : Go.Proofs.Lays.n167 Tryz.prog Tryz.lays167_ren := {
  mixed := by kernel_rfl
  f167 := Tryz.func34.trans (congrArg some (by kernel_rfl))
  f240 := Tryz.func56.trans (congrArg some (by kernel_rfl))
  f276 := Tryz.func80.trans (congrArg some (by kernel_rfl))
  t0 := Tryz.underlying0
  a0 := Tryz.isAgg0
  z0 := Tryz.sizeOf0
  v0 := Tryz.zeroValue0
  t4 := Tryz.underlying4
  a4 := Tryz.isAgg4
  z4 := Tryz.sizeOf4
  v4 := Tryz.zeroValue4
  t5 := Tryz.underlying5
  a5 := Tryz.isAgg5
  z5 := Tryz.sizeOf5
  v5 := Tryz.zeroValue5
  t9 := Tryz.underlying9
  a9 := Tryz.isAgg9
  z9 := Tryz.sizeOf9
  v9 := Tryz.zeroValue9
  t20 := Tryz.underlying20
  a20 := Tryz.isAgg20
  z20 := Tryz.sizeOf20
  v20 := Tryz.zeroValue20
  t37 := Tryz.underlying35
  a37 := Tryz.isAgg35
  z37 := Tryz.sizeOf35
  v37 := Tryz.zeroValue35
  t70 := Tryz.underlying80
  a70 := Tryz.isAgg80
  z70 := Tryz.sizeOf80
  v70 := Tryz.zeroValue80
  t72 := Tryz.underlying82
  a72 := Tryz.isAgg82
  z72 := Tryz.sizeOf82
  v72 := Tryz.zeroValue82
  t75 := Tryz.underlying76
  a75 := Tryz.isAgg76
  z75 := Tryz.sizeOf76
  v75 := Tryz.zeroValue76
  t164 := Tryz.underlying127
  a164 := Tryz.isAgg127
  z164 := Tryz.sizeOf127
  v164 := Tryz.zeroValue127 }
theorem Tryz.Builder_Extra_167 : Builder.Extra Tryz.prog Tryz.lays167_ren := {
  sizeBuilder := by kernel_rfl
  liesBuilder := by kernel_rfl
  t5 := Tryz.underlying5
  a5 := Tryz.isAgg5
  z5 := Tryz.sizeOf5
  v5 := Tryz.zeroValue5
  infoByte := by kernel_rfl
  cellsByte := by kernel_rfl
  sizeByte := by kernel_rfl
  neB5 := by decide }
def Tryz.lays166_ren : Go.Shelf.Ren := ⟨fun | 166 => 33 | 240 => 56 | 276 => 80 | n => n, fun | 37 => 35 | 70 => 80 | 72 => 82 | 75 => 76 | 164 => 127 | 80 => 65 | n => n, fun | n => n⟩
theorem Tryz.lays166 : Go.Proofs.Lays.n166 Tryz.prog Tryz.lays166_ren := {
  mixed := by kernel_rfl
  f166 := Tryz.func33.trans (congrArg some (by kernel_rfl))
  f240 := Tryz.func56.trans (congrArg some (by kernel_rfl))
  f276 := Tryz.func80.trans (congrArg some (by kernel_rfl))
  t0 := Tryz.underlying0
  a0 := Tryz.isAgg0
  z0 := Tryz.sizeOf0
  v0 := Tryz.zeroValue0
  t3 := Tryz.underlying3
  a3 := Tryz.isAgg3
  z3 := Tryz.sizeOf3
  v3 := Tryz.zeroValue3
  t4 := Tryz.underlying4
  a4 := Tryz.isAgg4
  z4 := Tryz.sizeOf4
  v4 := Tryz.zeroValue4
  t9 := Tryz.underlying9
  a9 := Tryz.isAgg9
  z9 := Tryz.sizeOf9
  v9 := Tryz.zeroValue9
  t20 := Tryz.underlying20
  a20 := Tryz.isAgg20
  z20 := Tryz.sizeOf20
  v20 := Tryz.zeroValue20
  t37 := Tryz.underlying35
  a37 := Tryz.isAgg35
  z37 := Tryz.sizeOf35
  v37 := Tryz.zeroValue35
  t70 := Tryz.underlying80
  a70 := Tryz.isAgg80
  z70 := Tryz.sizeOf80
  v70 := Tryz.zeroValue80
  t72 := Tryz.underlying82
  a72 := Tryz.isAgg82
  z72 := Tryz.sizeOf82
  v72 := Tryz.zeroValue82
  t75 := Tryz.underlying76
  a75 := Tryz.isAgg76
  z75 := Tryz.sizeOf76
  v75 := Tryz.zeroValue76
  t164 := Tryz.underlying127
  a164 := Tryz.isAgg127
  z164 := Tryz.sizeOf127
  v164 := Tryz.zeroValue127 }
theorem Tryz.Builder_Extra_166 : Builder.Extra Tryz.prog Tryz.lays166_ren := {
  sizeBuilder := by kernel_rfl
  liesBuilder := by kernel_rfl
  t5 := Tryz.underlying5
  a5 := Tryz.isAgg5
  z5 := Tryz.sizeOf5
  v5 := Tryz.zeroValue5
  infoByte := by kernel_rfl
  cellsByte := by kernel_rfl
  sizeByte := by kernel_rfl
  neB5 := by decide }
end Go.Proofs
/-! Functions of the library: numbers as texts, and back. -/
namespace Go.Rx
open Go.Ab Go.L21 Go.Proofs Go.RowKit
set_option linter.unusedVariables false
set_option maxRecDepth 100000
noncomputable def C0 : Cfg S := { P := P7, inl := [], K := [], ann := [] }
theorem bel_grow (w : World) (k : Nat) (os : Array Obj) : Below w.heap.size w (Sort.grow (w.drewN k) os) :=
  ⟨rfl, rfl, rfl, by show w.heap.size ≤ (w.heap ++ os).size; simp, fun b hb => by show (w.heap ++ os)[b]? = _; rw [Array.getElem?_append_left hb]⟩
/-- A call that only computes. -/
theorem pf_done {imm : Imm} {w w' : World} {rts : List Nat} (y : HR S rts) {v : Value} (hok : ImmOk imm w) (hb : Below w.heap.size w w') (hv : Rep noT (gh imm) (denV (tupA (encL (S := S) P7 rts y))) v) :
    ∃ r v' imm', (fun q => q = tupA (encL (S := S) P7 rts y)) r ∧ (denV r).clean = true ∧ Ending.returned v = .returned v' ∧ Imm.le imm imm' ∧ ImmOk imm' w' ∧ (∀ b o u, imm' b o = some u → imm b o = some u ∨ w.heap.size ≤ b) ∧ Rep noT (gh imm') (denV r) v' ∧ Below w.heap.size w w' :=
  ⟨_, v, imm, rfl, enc_clean (S := S) (P := P7) rts y, rfl, Imm.le_refl _, fun b o u h => by
    have hc := hok b o u h
    unfold World.cell? at hc ⊢
    have hb' : b < w.heap.size := by
      split at hc
      · rename_i c _ _ hq; exact (Array.getElem?_eq_some_iff.1 hq).1
      · cases hc
    rw [hb.block b hb']; exact hc, fun b o u h => .inl h, hv, hb⟩
abbrev W333 : CT S [9] [3] := (fun x0 => (some (P333 x0), S333 x0))
abbrev Ok333 : Prop := ConOk P7 31 (ctr P7 [3] [9] W333) ∧ ConMon (ctr P7 [3] [9] W333)
theorem run333 : RunP C0 31 [9] [3] W333 [] := by
  intro (n : Int) hn hp
  obtain ⟨h0, h1⟩ : P333 n := hp _ rfl
  intro imm w vs hok hgl hargs
  obtain ⟨v1, vs1, rfl, hv1, rfl⟩ := hargs
  obtain rfl : v1 = .int .i64 n := hv1
  refine (Any.strconv_Itoa Tryz.laysM171 n h0 h1 w hgl.2.tab).mono ?_
  rintro e w' ⟨rfl, k, os, rfl⟩
  exact pf_done (rts := [9]) (S333 n) hok (bel_grow w k os) rfl
theorem ok333 : Ok333 := con_okP (C := C0) run333
abbrev W337 : CT S [3, 76] [9] := (fun x0 => (some (P337 x0), S337 x0))
abbrev Ok337 : Prop := ConOk P7 30 (ctr P7 [9] [3, 76] W337) ∧ ConMon (ctr P7 [9] [3, 76] W337)
theorem run337 : RunP C0 30 [3, 76] [9] W337 [] := by
  intro (s : ByteArray) hs hp
  have hlim : s.size ≤ 281474976710656 := hp _ rfl
  intro imm w vs hok hgl hargs
  obtain ⟨v1, vs1, rfl, hv1, rfl⟩ := hargs
  obtain rfl : v1 = .string s := hv1
  obtain ⟨ts, ps, hsy⟩ := hgl.2.syn
  obtain ⟨tr, pr, hrg⟩ := hgl.2.rng
  cases h : Lib.atoiAll s.data.toList
  · rename_i v
    have e : S337 s = (v, false) := by unfold S337; rw [h]; rfl
    refine (Any.strconv_Atoi_ok Tryz.laysC172 s (by omega) v h w).mono ?_
    rintro e' w' ⟨rfl, hw⟩
    have hb : Below w.heap.size w w' := by
      rcases hw with rfl | ⟨t, rfl⟩
      · exact Below.refl _ _
      · exact Lib.bytesWorld_below w _ t
    refine pf_done (rts := [3, 76]) (S337 s) hok hb ?_
    rw [e]
    exact ⟨_, rfl, _, _, rfl, rfl, _, _, rfl, .inl ⟨rfl, rfl⟩, rfl⟩
  · skip
    have e : S337 s = (0, true) := by unfold S337; rw [h]; rfl
    refine (Any.strconv_Atoi_syntax Tryz.laysC172 s hlim h _ w hsy (.inr ⟨ts, ps, rfl⟩)).mono ?_
    rintro e' w' ⟨N, rfl, _, _, hb⟩
    refine pf_done (rts := [3, 76]) (S337 s) hok hb ?_
    rw [e]
    exact ⟨_, rfl, _, _, rfl, rfl, _, _, rfl, .inr ⟨rfl, _, _, rfl⟩, rfl⟩
  · skip
    have e : S337 s = (Lib.atoiSat s.data.toList, true) := by unfold S337; rw [h]; rfl
    refine (Any.strconv_Atoi_range Tryz.laysC172 s hlim h _ w hrg (.inr ⟨tr, pr, rfl⟩)).mono ?_
    rintro e' w' ⟨N, rfl, _, _, hb⟩
    refine pf_done (rts := [3, 76]) (S337 s) hok hb ?_
    rw [e]
    exact ⟨_, rfl, _, _, rfl, rfl, _, _, rfl, .inr ⟨rfl, _, _, rfl⟩, rfl⟩
theorem ok337 : Ok337 := con_okP (C := C0) run337
abbrev W357 : CT S [85, 76] [9, 3, 3] := (fun x0 x1 x2 => (some (P357 x0 x1 x2), S357 x0 x1 x2))
abbrev Ok357 : Prop := ConOk P7 55 (ctr P7 [9, 3, 3] [85, 76] W357) ∧ ConMon (ctr P7 [9, 3, 3] [85, 76] W357)
theorem run357 : RunP C0 55 [85, 76] [9, 3, 3] W357 [] := by
  intro (s : ByteArray) hs (b : Int) hb (n : Int) hn hp
  obtain ⟨hlim, rfl, hn⟩ : P357 s b n := hp _ rfl
  intro imm w vs hok hgl hargs
  obtain ⟨v1, vs1, rfl, hv1, v2, vs2, rfl, hv2, v3, vs3, rfl, hv3, rfl⟩ := hargs
  obtain rfl : v1 = .string s := hv1
  obtain rfl : v2 = .int .i64 10 := hv2
  obtain rfl : v3 = .int .i64 n := hv3
  obtain ⟨ts, ps, hsy⟩ := hgl.2.syn
  obtain ⟨tr, pr, hrg⟩ := hgl.2.rng
  have okc : ∀ {v : Nat} {e' : Ending} {w' : World}, S357 s 10 n = ((v : Int), false) → (e' = .returned (.tuple #[.int .u64 v, .nilIface]) ∧ (w' = w ∨ w' = Lib.bytesWorld w 5 s)) → ∃ r v' imm', (fun q => q = tupA (encL (S := S) P7 [85, 76] (S357 s 10 n))) r ∧ (denV r).clean = true ∧ e' = .returned v' ∧ Imm.le imm imm' ∧ ImmOk imm' w' ∧ (∀ b o u, imm' b o = some u → imm b o = some u ∨ w.heap.size ≤ b) ∧ Rep noT (gh imm') (denV r) v' ∧ Below w.heap.size w w' := by
    rintro v e' w' e ⟨rfl, hw⟩
    have hb : Below w.heap.size w w' := by
      rcases hw with rfl | rfl
      · exact Below.refl _ _
      · exact Lib.bytesWorld_below w _ s
    refine pf_done (rts := [85, 76]) (S357 s 10 n) hok hb ?_
    rw [e]
    exact ⟨_, rfl, _, _, rfl, rfl, _, _, rfl, .inl ⟨rfl, rfl⟩, rfl⟩
  have erc : ∀ {v : Int} {te : TypeId} {pe : Value} {w' : World}, S357 s 10 n = (v, true) → Below w.heap.size w w' → ∃ r v' imm', (fun q => q = tupA (encL (S := S) P7 [85, 76] (S357 s 10 n))) r ∧ (denV r).clean = true ∧ Ending.returned (.tuple #[.int .u64 v, .iface te pe]) = .returned v' ∧ Imm.le imm imm' ∧ ImmOk imm' w' ∧ (∀ b o u, imm' b o = some u → imm b o = some u ∨ w.heap.size ≤ b) ∧ Rep noT (gh imm') (denV r) v' ∧ Below w.heap.size w w' := by
    intro v te pe w' e hb
    refine pf_done (rts := [85, 76]) (S357 s 10 n) hok hb ?_
    rw [e]
    exact ⟨_, rfl, _, _, rfl, rfl, _, _, rfl, .inr ⟨rfl, _, _, rfl⟩, rfl⟩
  rcases hn with rfl | rfl
  · cases h : Lib.parseUintB 32 s.data.toList
    · rename_i v
      refine (Any.strconv_ParseUint_10_at32_ok Tryz.laysPu14 s (by omega) v h w).mono fun e' w' hh => okc (v := v) ?_ hh
      show endN (Lib.parseUintB 32 s.data.toList) _ = _
      rw [h]; rfl
    · skip
      refine (Any.strconv_ParseUint_10_at32_syntax Tryz.laysPu14 s hlim h _ w hsy (.inr ⟨ts, ps, rfl⟩)).mono ?_
      rintro e' w' ⟨N, rfl, _, _, hb⟩
      refine erc ?_ hb
      show endN (Lib.parseUintB 32 s.data.toList) _ = _
      rw [h]; rfl
    · skip
      refine (Any.strconv_ParseUint_10_at32_range Tryz.laysPu14 s hlim h _ w hrg (.inr ⟨tr, pr, rfl⟩)).mono ?_
      rintro e' w' ⟨N, rfl, _, _, hb⟩
      refine erc ?_ hb
      show endN (Lib.parseUintB 32 s.data.toList) _ = _
      rw [h]; rfl
  · cases h : Lib.parseUintB 64 s.data.toList
    · rename_i v
      refine (Any.strconv_ParseUint_10_at64_ok Tryz.laysPu14 s (by omega) v h w).mono fun e' w' hh => okc (v := v) ?_ hh
      show endN (Lib.parseUintB 64 s.data.toList) _ = _
      rw [h]; rfl
    · skip
      refine (Any.strconv_ParseUint_10_at64_syntax Tryz.laysPu14 s hlim h _ w hsy (.inr ⟨ts, ps, rfl⟩)).mono ?_
      rintro e' w' ⟨N, rfl, _, _, hb⟩
      refine erc ?_ hb
      show endN (Lib.parseUintB 64 s.data.toList) _ = _
      rw [h]; rfl
    · skip
      refine (Any.strconv_ParseUint_10_at64_range Tryz.laysPu14 s hlim h _ w hrg (.inr ⟨tr, pr, rfl⟩)).mono ?_
      rintro e' w' ⟨N, rfl, _, _, hb⟩
      refine erc ?_ hb
      show endN (Lib.parseUintB 64 s.data.toList) _ = _
      rw [h]; rfl
theorem ok357 : Ok357 := by
  apply con_okP (C := C0) (f := 55) (ts := [9, 3, 3]) (rts := [85, 76]) (W := W357)
  exact run357
abbrev W365 : CT S [3] [9, 9] := (fun x0 x1 => (some (P365 x0 x1), S365 x0 x1))
abbrev Ok365 : Prop := ConOk P7 72 (ctr P7 [9, 9] [3] W365) ∧ ConMon (ctr P7 [9, 9] [3] W365)
theorem run365 : RunP C0 72 [3] [9, 9] W365 [] := by
  intro (s : ByteArray) hs (t : ByteArray) ht hp
  have ht1 : t.size = 1 := hp _ rfl
  intro imm w vs hok hgl hargs
  obtain ⟨v1, vs1, rfl, hv1, v2, vs2, rfl, hv2, rfl⟩ := hargs
  obtain rfl : v1 = .string s := hv1
  obtain rfl : v2 = .string t := hv2
  obtain ⟨c, rfl⟩ : ∃ c, t = ⟨#[c]⟩ := by
    obtain ⟨⟨l⟩⟩ := t
    match l, ht1 with
    | [c], _ => exact ⟨c, rfl⟩
  refine (Any.stringslite_Index_one Tryz.lays219 s c w).mono ?_
  rintro e w' ⟨rfl, rfl⟩
  exact pf_done (rts := [3]) (S365 s ⟨#[c]⟩) hok (Below.refl _ _) rfl
theorem ok365 : Ok365 := con_okP (C := C0) run365
end Go.Rx
/-! strconv.FormatUint at base 10. -/
namespace Go.Proofs
open Go.Shelf Go.RowKit Go.Sort Go.Lib
set_option maxHeartbeats 12800000 in
set_option maxRecDepth 100000 in
theorem Tryz.fmtU_big (u : Nat) (hu : 100 ≤ u) (hu64 : u < 18446744073709551616) (w : World)
    (htab : Lib.TabIs Tryz.prog w "internal/strconv.uint64pow10" .u64 Lib.pow10Tab) :
    Calls Tryz.prog 57 #[.int .u64 u, .int .i64 10] w fun e w' => e = .returned (.string ⟨(Lib.itoa u).toArray⟩) ∧ ∃ k os, w' = grow (w.drewN k) os := by
  have hu1 : 1 ≤ u := by omega
  have hnd20 : Lib.nDigits u ≤ 20 := by have := Lib.numDigits_eq u hu1 hu64; split at this <;> omega
  have hal : Tryz.prog.arrayLen 129 = 24 := by simp [Program.arrayLen, Tryz.underlying129]
  have hsl : ∀ W, (Instr.sliceAt 129 (.pointer (some ⟨w.heap.size, 0, none⟩)) none (some (.int .i64 (Lib.nDigits u : Int))) none).run Tryz.prog W = .ok (.slice (some ⟨w.heap.size, 0, none⟩) (Lib.nDigits u) 24) W := fun W => by
    rw [run_sliceAt_array_h W 129 ⟨w.heap.size, 0, none⟩ (by simp [Program.arrayLen, Program.elem, Tryz.underlying129]) .i64 (Lib.nDigits u : Int) (by omega) (by rw [hal]; omega)]
    go_simp
  have hH0 := Lib.holds_zero0 w 129 (Lib.nDigits u) (by omega)
  have hfmt := Any.internal_strconv_formatBase10 Tryz.lays285 w.heap.size 0 24 u (Array.replicate (Lib.nDigits u) 0) (w.alloc (.cells Lib.zeros24 129)) hH0 (by rw [Array.size_replicate]; exact Lib.lt_pow_nDigits u) hu64 (by rw [Array.size_replicate]; omega)
  rw [Array.size_replicate] at hfmt
  have HH0 := Lib.hid hH0
  have iu : (100 : Int) ≤ (u : Int) := by omega
  clear hH0 hal
  go_enter Tryz.func57, Tryz.ntmps57
  go_wp2_with (first
    | (go_at_call 82; refine (Any.internal_strconv_numDigits Tryz.laysM284 u hu1 hu64 _ (Lib.tabIs_alloc htab _)).mono ?_; rintro e w' ⟨rfl, rfl⟩))
  go_at_call 83
  refine hfmt.mono ?_
  rintro e w' ⟨rfl, k, v', dk, rfl, hF⟩
  have hcv : (convert 35 9 (.slice (some ⟨w.heap.size, 0, none⟩) (Lib.nDigits u) 24)).run Tryz.prog ((putRow (fun (b : UInt8) => Value.int .u8 (b.toNat : Int)) (w.alloc (.cells Lib.zeros24 129)) w.heap.size 0 dk).drewN k) = .ok (.string ⟨(Lib.decDigits u).toArray⟩) ((putRow (fun (b : UInt8) => Value.int .u8 (b.toNat : Int)) (w.alloc (.cells Lib.zeros24 129)) w.heap.size 0 dk).drewN k) := by
    have h := run_convert_bytes_back (P := Tryz.prog) ((putRow (fun (b : UInt8) => Value.int .u8 (b.toNat : Int)) (w.alloc (.cells Lib.zeros24 129)) w.heap.size 0 dk).drewN k) 35 9 5 ⟨w.heap.size, 0, none⟩ 24 (Lib.decDigits u) Tryz.lays285.t37 Tryz.lays285.t5 Tryz.lays285.t9 (fun j hj => by
      rw [Lib.row_is_numeral hF j hj, Lib.add_plain, World.cell?_drewN]
      exact cell?_putRow (fun (b : UInt8) => Value.int .u8 (b.toNat : Int)) _ w.heap.size 0 _ dk HH0.out (by rw [hF.size, Array.size_replicate]) j (by rw [hF.size]; rw [Lib.decDigits_length] at hj; exact hj))
    rw [Lib.decDigits_length] at h
    exact h
  go_wp2
  go_ret
  obtain ⟨os, eo⟩ := Lib.fin_at w (.cells Lib.zeros24 129) dk k 0
  refine ⟨?_, k, os, eo⟩
  rw [Lib.itoa_nonneg]
  rfl
set_option maxRecDepth 100000 in
theorem Tryz.fmtU_small (u : Nat) (hu : u < 100) (w : World) :
    Calls Tryz.prog 57 #[.int .u64 u, .int .i64 10] w fun e w' => e = .returned (.string ⟨(Lib.itoa u).toArray⟩) ∧ ∃ k os, w' = grow (w.drewN k) os := by
  have iu : (u : Int) < 100 := by omega
  go_enter Tryz.func57, Tryz.ntmps57
  go_wp2_with (go_at_call 81; refine (Any.internal_strconv_small Tryz.lays283 u hu _).mono ?_; rintro e w' ⟨rfl, rfl⟩)
  go_ret
  refine ⟨?_, 0, #[], by simp [World.drewN_zero, grow]⟩
  rw [Lib.itoa_nonneg]
  rfl
set_option maxRecDepth 100000 in
theorem Tryz.fmtU (u : Nat) (hu64 : u < 18446744073709551616) (w : World)
    (htab : Lib.TabIs Tryz.prog w "internal/strconv.uint64pow10" .u64 Lib.pow10Tab) :
    Calls Tryz.prog 36 #[.int .u64 u, .int .i64 10] w fun e w' => e = .returned (.string ⟨(Lib.itoa u).toArray⟩) ∧ ∃ k os, w' = grow (w.drewN k) os := by
  have h : Calls Tryz.prog 57 #[.int .u64 u, .int .i64 10] w fun e w' => e = .returned (.string ⟨(Lib.itoa u).toArray⟩) ∧ ∃ k os, w' = grow (w.drewN k) os := by
    by_cases hs : u < 100
    · exact Tryz.fmtU_small u hs w
    · exact Tryz.fmtU_big u (by omega) hu64 w htab
  go_enter Tryz.func36, Tryz.ntmps36
  go_wp2_with (go_at_call 57; refine h.mono ?_; rintro e w' ⟨rfl, k, os, rfl⟩)
  go_ret
  exact ⟨rfl, k, os, rfl⟩
end Go.Proofs
namespace Go.Rx
open Go.Ab Go.L21 Go.Proofs Go.RowKit
set_option maxRecDepth 100000
abbrev W356 : CT S [9] [85, 3] := (fun x0 x1 => (some (P356 x0 x1), S356 x0 x1))
abbrev Ok356 : Prop := ConOk P7 36 (ctr P7 [85, 3] [9] W356) ∧ ConMon (ctr P7 [85, 3] [9] W356)
theorem run356 : RunP C0 36 [9] [85, 3] W356 [] := by
  intro (n : Int) hn (b : Int) hb hp
  obtain ⟨rfl, h0, h1⟩ : P356 n b := hp _ rfl
  intro imm w vs hok hgl hargs
  obtain ⟨v1, vs1, rfl, hv1, v2, vs2, rfl, hv2, rfl⟩ := hargs
  obtain rfl : v1 = .int .u64 n := hv1
  obtain rfl : v2 = .int .i64 10 := hv2
  obtain ⟨u, rfl⟩ : ∃ u : Nat, n = u := ⟨n.toNat, by omega⟩
  refine (Tryz.fmtU u (by omega) w hgl.2.tab).mono ?_
  rintro e w' ⟨rfl, k, os, rfl⟩
  exact pf_done (rts := [9]) (S356 u 10) hok (bel_grow w k os) rfl
theorem ok356 : Ok356 := con_okP (C := C0) run356
end Go.Rx
/-! row.Texts, with the builder of the library. -/
namespace Go.Proofs
open Go.Shelf Go.RowKit Go.Sort Go.Lib
theorem bAt_grow {T e : TypeId} {B b : Nat} {p : Value} {bs : List Value} {w : World} (h : Lib.BuilderAt T e B b p bs w) (k : Nat) (os : Array Obj) : Lib.BuilderAt T e B b p bs (grow (w.drewN k) os) := by
  obtain ⟨hB, v, hb, ho, hn⟩ := h
  refine ⟨hB, v, ?_, Lib.ownsRow_grow ho k os, hn⟩
  show (w.heap ++ os)[b]? = _
  rw [Array.getElem?_append_left (Array.getElem?_eq_some_iff.1 hb).1]
  exact hb
theorem isB_grow {T e : TypeId} {B b : Nat} {bs : List Value} {w : World} (h : Lib.IsBuilder T e B b bs w) (k : Nat) (os : Array Obj) : Lib.IsBuilder T e B b bs (grow (w.drewN k) os) :=
  h.elim (fun h => .inl (bAt_grow h k os)) (fun h => .inr (bAt_grow h k os))
theorem Tryz.wstr (B b : Nat) (bs : List Value) (s : ByteArray) (w : World) (h : Lib.IsBuilder 82 5 B b bs w) (hlen : bs.length + s.size ≤ 140737488355328) (hBw : B ≤ w.heap.size) :
    Calls Tryz.prog 33 #[.pointer (some ⟨b, 0, none⟩), .string s] w fun e w' => e = .returned (.tuple #[.int .i64 s.size, .nilIface]) ∧ Lib.IsBuilder 82 5 B b (bs ++ Lib.strCells s) w' ∧ Below B w w' :=
  (Any.Builder_WriteString Tryz.lays166 Tryz.Builder_Extra_166 B b bs s w h hlen hBw).mono fun _ _ hh => ⟨hh.1, .inr hh.2.1, hh.2.2⟩
theorem Tryz.wbyte (B b : Nat) (bs : List Value) (c : Int) (w : World) (h : Lib.IsBuilder 82 5 B b bs w) (hlen : bs.length + 1 ≤ 140737488355328) (hBw : B ≤ w.heap.size) :
    Calls Tryz.prog 34 #[.pointer (some ⟨b, 0, none⟩), .int .u8 c] w fun e w' => e = .returned .nilIface ∧ Lib.IsBuilder 82 5 B b (bs ++ [.int .u8 c]) w' ∧ Below B w w' :=
  (Any.Builder_WriteByte Tryz.lays167 Tryz.Builder_Extra_167 B b bs c w h hlen hBw).mono fun _ _ hh => ⟨hh.1, .inr hh.2.1, hh.2.2⟩
theorem Tryz.bstr (B b : Nat) (l : List UInt8) (w : World) (h : Lib.IsBuilder 82 5 B b (Lib.byteCells l) w) (hBw : B ≤ w.heap.size) :
    Calls Tryz.prog 35 #[.pointer (some ⟨b, 0, none⟩)] w fun e w' => e = .returned (.string ⟨l.toArray⟩) ∧ Below B w w' :=
  Any.Builder_String_any Tryz.lays169 Tryz.Builder_Extra_169 B b l w h hBw
open Go.L21 Go.Rx in
theorem texts_take {xs : List ByteArray} {k : Nat} {y : ByteArray} (h : xs[k]? = some y) : textsL (xs.take (k + 1)) = textsL (xs.take k) ++ textL y := by
  rw [List.take_add_one, h]; simp [textsL]
open Go.L21 Go.Rx in
theorem texts_le (xs : List ByteArray) (k : Nat) : (textsL (xs.take k)).length ≤ (textsL xs).length := by
  conv => rhs; rw [← List.take_append_drop k xs]
  unfold textsL; rw [List.flatMap_append, List.length_append]; omega
open Go.L21 Go.Rx in
theorem texts_num (xs : List ByteArray) : xs.length ≤ (textsL xs).length := by
  induction xs with
  | nil => exact Nat.zero_le _
  | cons x r ih => simp only [textsL, List.flatMap_cons, List.length_append, List.length_cons, textL] at ih ⊢; omega
theorem hidT {p : Prop} (h : p) : Hid p := h
open Go.L21 Go.Rx in
set_option maxHeartbeats 4000000 in
set_option maxRecDepth 100000 in
theorem Tryz.texts_walk (A : Option Addr) (c : Nat) (xs : List ByteArray) (w : World) (hlen : (textsL xs).length ≤ 70368744177664) (htab : Lib.TabIs Tryz.prog w "internal/strconv.uint64pow10" .u64 Lib.pow10Tab)
    (hcells : ∀ (j : Nat) x, xs[j]? = some x → ∃ bk o, A = some ⟨bk, o, none⟩ ∧ bk < w.heap.size ∧ w.cell? ⟨bk, o + j, none⟩ = some (.string x)) :
    Calls Tryz.prog 13 #[.slice A xs.length c] w fun e w' => e = .returned (.string ⟨(textsL xs).toArray⟩) ∧ Below w.heap.size w w' := by
  have HC := hidT hcells
  have HT := hidT htab
  have HL := hidT hlen
  have hxl := texts_num xs
  have hxl2 : xs.length ≤ 70368744177664 := by omega
  clear hcells htab hlen hxl
  go_enter Tryz.func13, Tryz.ntmps13
  go_wp2
  go_loopw [8] (fun i wr => ∃ k : Nat, k ≤ xs.length ∧ i = .int .i64 k ∧ Hid (Lib.IsBuilder 82 5 w.heap.size w.heap.size (Lib.byteCells (textsL (xs.take k))) wr) ∧ Hid (Below w.heap.size w wr)) (fun i _ => xs.length - (RowKit.intOf i).toNat)
  case atStart => exact ⟨0, Nat.zero_le _, rfl, hidT (Lib.fresh_isBuilder 82 5 w), hidT ((Below.refl _ w).alloc (Nat.le_refl _) _)⟩
  case round =>
    obtain ⟨k, hk, rfl, HB, HW⟩ := hrel
    by_cases hkr : k < xs.length
    · obtain ⟨y, hy⟩ : ∃ y, xs[k]? = some y := ⟨xs[k], List.getElem?_eq_getElem hkr⟩
      obtain ⟨bk, o, rfl, hbk, hcy⟩ := HC.out k y hy
      have hcy : wr.cell? ⟨bk, o + k, none⟩ = some (.string y) := by
        rw [HW.out.cell (p := ⟨bk, o + k, none⟩) hbk]; exact hcy
      have hBw : w.heap.size ≤ wr.heap.size := HW.out.size
      have hnext : Lib.byteCells (textsL (xs.take k)) ++ Lib.strCells ⟨(Lib.itoa y.size).toArray⟩ ++ [Value.int .u8 58] ++ Lib.strCells y = Lib.byteCells (textsL (xs.take (k + 1))) := by
        rw [texts_take hy, Lib.strCells_eq, Lib.strCells_eq, Lib.byteCells_append, textL, Lib.byteCells_append]
        simp [Lib.byteCells]
      have hl := texts_le xs (k + 1)
      have hl2 := HL.out
      rw [texts_take hy, textL] at hl
      simp only [List.length_append, List.length_cons, ← Lib.size_eq] at hl
      have hl0 : (Lib.byteCells (textsL (xs.take k))).length = (textsL (xs.take k)).length := Lib.byteCells_length _
      have hi0 : (⟨(Lib.itoa y.size).toArray⟩ : ByteArray).size = (Lib.itoa y.size).length := List.size_toArray
      generalize (textsL (xs.take k)).length = J at hl0 hl
      generalize (Lib.itoa y.size).length = I at hi0 hl
      have hys : y.size ≤ 70368744177664 := by omega
      have htr := var_ge HW.out.block HT.out
      have Hn := hidT hnext
      have Hl := hidT hl
      have Hl2 := hidT hl2
      clear hnext hy hl hl2
      go_wp2_with (go_at_call 31; refine (Any.strconv_Itoa Tryz.laysM171 (y.size : Int) (by omega) (by omega) wr htr).mono ?_)
      rintro e w1 ⟨rfl, q, os, rfl⟩
      have HB1 := hidT (isB_grow HB.out q os)
      have HW1 := hidT (HW.out.trans (Rx.bel_grow wr q os |>.mono hBw))
      generalize grow (wr.drewN q) os = W1 at HB1 HW1 ⊢
      have hBw1 : w.heap.size ≤ W1.heap.size := HW1.out.size
      go_wp2_with (go_at_call 33; refine (Tryz.wstr w.heap.size w.heap.size _ _ W1 HB1.out (by rw [hl0, hi0]; have := Hl.out; have := Hl2.out; omega) hBw1).mono ?_)
      rintro e W2 ⟨rfl, HB2, hb2⟩
      have HB2 := hidT HB2
      have HW2 := hidT (HW1.out.trans hb2)
      have hBw2 : w.heap.size ≤ W2.heap.size := HW2.out.size
      clear hb2
      go_wp2_with (go_at_call 34; refine (Tryz.wbyte w.heap.size w.heap.size _ 58 W2 HB2.out (by rw [List.length_append, hl0, Lib.strCells_length, hi0]; have := Hl.out; have := Hl2.out; omega) hBw2).mono ?_)
      rintro e W3 ⟨rfl, HB3, hb3⟩
      have HB3 := hidT HB3
      have HW3 := hidT (HW2.out.trans hb3)
      have hBw3 : w.heap.size ≤ W3.heap.size := HW3.out.size
      clear hb3
      go_wp2_with (go_at_call 33; refine (Tryz.wstr w.heap.size w.heap.size _ y W3 HB3.out (by rw [List.length_append, List.length_append, hl0, Lib.strCells_length, hi0]; have := Hl.out; have := Hl2.out; simp; omega) hBw3).mono ?_)
      rintro e W4 ⟨rfl, HB4, hb4⟩
      rw [Hn.out] at HB4
      have HB4 := hidT HB4
      have HW4 := hidT (HW3.out.trans hb4)
      clear hb4
      go_wp2
      exact ⟨⟨k + 1, by omega, by go_num, HB4, HW4⟩, by simp [RowKit.intOf]; omega⟩
    · have hke : k = xs.length := by omega
      subst hke
      have hB' := HB.out
      rw [List.take_length] at hB'
      have hBw : w.heap.size ≤ wr.heap.size := HW.out.size
      go_wp2_with (go_at_call 35; refine (Tryz.bstr w.heap.size w.heap.size _ wr hB' hBw).mono ?_)
      rintro e w5 ⟨rfl, hb5⟩
      have Hb5 := hidT (HW.out.trans hb5)
      clear hb5 hB'
      go_wp2
      go_ret
      exact ⟨rfl, Hb5.out⟩
end Go.Proofs
namespace Go.Rx
open Go.Ab Go.L21 Go.Proofs Go.RowKit
set_option maxRecDepth 100000
theorem cell_strs {imm : Imm} {w : World} {x : List ByteArray} {v : Value} (hok : ImmOk imm w) (h : sliceH (S.E 9) x imm v) : ∃ A c, v = .slice A x.length c ∧ ∀ (j : Nat) y, x[j]? = some y → ∃ bk o, A = some ⟨bk, o, none⟩ ∧ bk < w.heap.size ∧ w.cell? ⟨bk, o + j, none⟩ = some (.string y) := by
  obtain ⟨A, c, h1, h2, h3, h4, h5⟩ := h
  refine ⟨A, c, h1, fun j y hy => ?_⟩
  obtain ⟨b, o, e, h6⟩ := h5 (fun e => by rw [e] at hy; cases hy)
  obtain ⟨vs, h7, h8⟩ := h6 j y hy
  obtain ⟨v, vs', rfl, h9, _, h10⟩ := h7
  have h9 : v = .string y := h9
  have := hok _ _ _ (h8 0 v rfl)
  have e2 : o + j * (S.E 9).sz + 0 = o + j := by show o + j * 1 + 0 = o + j; omega
  rw [e2] at this
  refine ⟨b, o, e, ?_, by rw [this, h9]⟩
  unfold World.cell? at this
  split at this
  · rename_i c _ _ hq; exact (Array.getElem?_eq_some_iff.1 hq).1
  · cases this
abbrev W314 : CT S [9] [45] := (fun x0 => (some (P314 x0), S314 x0))
abbrev Ok314 : Prop := ConOk P7 13 (ctr P7 [45] [9] W314) ∧ ConMon (ctr P7 [45] [9] W314)
theorem run314 : RunP C0 13 [9] [45] W314 [] := by
  intro (x : List ByteArray) hx hp
  have h0 : (textsL x).length ≤ 70368744177664 := hp _ rfl
  intro imm w vs hok hgl hargs
  obtain ⟨v1, vs1, rfl, hv1, rfl⟩ := hargs
  obtain ⟨A, c, rfl, hcell⟩ := cell_strs hok (show sliceH (S.E 9) x imm v1 from hv1)
  refine (Tryz.texts_walk A c x w h0 hgl.2.tab hcell).mono ?_
  rintro e w' ⟨rfl, hb⟩
  exact pf_done (rts := [9]) (S314 x) hok hb rfl
theorem ok314 : Ok314 := con_okP (C := C0) run314
end Go.Rx
namespace Go.Rx
open Go.Ab Go.L7 Go.L21
set_option maxRecDepth 100000
set_option maxHeartbeats 20000000
set_option linter.unusedVariables false
/-- interregnum/row.Split -/
noncomputable def C315 : Cfg S := { P := P7, inl := [], K := [(31, ctr P7 [3] [9] (fun x0 => (some (P333 x0), S333 x0))), (30, ctr P7 [9] [3, 76] (fun x0 => (some (P337 x0), S337 x0))), (72, ctr P7 [9, 9] [3] (fun x0 x1 => (some (P365 x0 x1), S365 x0 x1)))], ann := [(10, [(3, .loop [(.sl 4, .own 9), (.sl 5, .str)])])] }
abbrev W315 : CT S [45, 4] [9] := (fun x0 => (some (P315 x0), S315 x0))
abbrev Ok315 : Prop := ConOk P7 10 (ctr P7 [9] [45, 4] W315) ∧ ConMon (ctr P7 [9] [45, 4] W315)
theorem q315 (x0 : ByteArray) (v : HR S [45, 4]) : (Xf C315 6 (emp 0) 10 (argsA C315 [⟨9, x0⟩]) (emp 0) (fun r _ => isR C315.P [45, 4] v r) (fun _ _ => False))
 = (LOOP (fun (h : List ByteArray × ByteArray) (J : List ByteArray × ByteArray → Prop) => bif !h.snd.toList == (ByteArray.mk #[]).toList then nat_lit 1 =
 nat_lit 1 ∧ bif decide ((0 : Int) ≤ S365 h.snd (ByteArray.mk #[(58 : UInt8)])) then ((0 : Int) ≤ (0 : Int) ∧ (0 : Int) ≤ S365 h.snd (ByteArray.mk #[(58 :
 UInt8)]) ∧ S365 h.snd (ByteArray.mk #[(58 : UInt8)]) ≤ (↑h.snd.size : Int)) ∧ ((0 : Int) ≤ IntKind.i64.wrap (S365 h.snd (ByteArray.mk #[(58 : UInt8)]) +
 (↑(nat_lit 1) : Int)) ∧ IntKind.i64.wrap (S365 h.snd (ByteArray.mk #[(58 : UInt8)]) + (↑(nat_lit 1) : Int)) ≤ (↑h.snd.size : Int) ∧ (↑h.snd.size : Int) ≤
 (↑h.snd.size : Int)) ∧ (h.snd.extract (nat_lit 0) (S365 h.snd (ByteArray.mk #[(58 : UInt8)])).toNat).size.le (nat_lit 281474976710656) ∧ bif (S337
 (h.snd.extract (nat_lit 0) (S365 h.snd (ByteArray.mk #[(58 : UInt8)])).toNat)).snd || decide ((S337 (h.snd.extract (nat_lit 0) (S365 h.snd (ByteArray.mk #[(58
 : UInt8)])).toNat)).fst < (0 : Int)) || decide ((↑(h.snd.extract (IntKind.i64.wrap (S365 h.snd (ByteArray.mk #[(58 : UInt8)]) + (↑(nat_lit 1) : Int))).toNat
 (↑h.snd.size : Int).toNat).size : Int) < (S337 (h.snd.extract (nat_lit 0) (S365 h.snd (ByteArray.mk #[(58 : UInt8)])).toNat)).fst) then ([], false) = v else
 ((-9223372036854775808 : Int) ≤ (S337 (h.snd.extract (nat_lit 0) (S365 h.snd (ByteArray.mk #[(58 : UInt8)])).toNat)).fst ∧ (S337 (h.snd.extract (nat_lit 0)
 (S365 h.snd (ByteArray.mk #[(58 : UInt8)])).toNat)).fst ≤ (9223372036854775807 : Int)) ∧ bif !(S333 (S337 (h.snd.extract (nat_lit 0) (S365 h.snd (ByteArray.mk
 #[(58 : UInt8)])).toNat)).fst).toList == (h.snd.extract (nat_lit 0) (S365 h.snd (ByteArray.mk #[(58 : UInt8)])).toNat).toList then ([], false) = v else ((0 :
 Int) ≤ (0 : Int) ∧ (0 : Int) ≤ (S337 (h.snd.extract (nat_lit 0) (S365 h.snd (ByteArray.mk #[(58 : UInt8)])).toNat)).fst ∧ (S337 (h.snd.extract (nat_lit 0)
 (S365 h.snd (ByteArray.mk #[(58 : UInt8)])).toNat)).fst ≤ (↑(h.snd.extract (IntKind.i64.wrap (S365 h.snd (ByteArray.mk #[(58 : UInt8)]) + (↑(nat_lit 1) :
 Int))).toNat (↑h.snd.size : Int).toNat).size : Int)) ∧ (h.fst.length = h.fst.length ∧ (h.fst.length + [(h.snd.extract (IntKind.i64.wrap (S365 h.snd
 (ByteArray.mk #[(58 : UInt8)]) + (↑(nat_lit 1) : Int))).toNat (↑h.snd.size : Int).toNat).extract (nat_lit 0) (S337 (h.snd.extract (nat_lit 0) (S365 h.snd
 (ByteArray.mk #[(58 : UInt8)])).toNat)).fst.toNat].length) * nat_lit 16 ≤ nat_lit 140737488355328) ∧ ∀ (y : List (ByteArray)), y = h.fst ++ [(h.snd.extract
 (IntKind.i64.wrap (S365 h.snd (ByteArray.mk #[(58 : UInt8)]) + (↑(nat_lit 1) : Int))).toNat (↑h.snd.size : Int).toNat).extract (nat_lit 0) (S337
 (h.snd.extract (nat_lit 0) (S365 h.snd (ByteArray.mk #[(58 : UInt8)])).toNat)).fst.toNat] → ((0 : Int) ≤ (S337 (h.snd.extract (nat_lit 0) (S365 h.snd
 (ByteArray.mk #[(58 : UInt8)])).toNat)).fst ∧ (S337 (h.snd.extract (nat_lit 0) (S365 h.snd (ByteArray.mk #[(58 : UInt8)])).toNat)).fst ≤ (↑(h.snd.extract
 (IntKind.i64.wrap (S365 h.snd (ByteArray.mk #[(58 : UInt8)]) + (↑(nat_lit 1) : Int))).toNat (↑h.snd.size : Int).toNat).size : Int) ∧ (↑(h.snd.extract
 (IntKind.i64.wrap (S365 h.snd (ByteArray.mk #[(58 : UInt8)]) + (↑(nat_lit 1) : Int))).toNat (↑h.snd.size : Int).toNat).size : Int) ≤ (↑(h.snd.extract
 (IntKind.i64.wrap (S365 h.snd (ByteArray.mk #[(58 : UInt8)]) + (↑(nat_lit 1) : Int))).toNat (↑h.snd.size : Int).toNat).size : Int)) ∧ y.length = y.length ∧ J
 (y, (h.snd.extract (IntKind.i64.wrap (S365 h.snd (ByteArray.mk #[(58 : UInt8)]) + (↑(nat_lit 1) : Int))).toNat (↑h.snd.size : Int).toNat).extract (S337
 (h.snd.extract (nat_lit 0) (S365 h.snd (ByteArray.mk #[(58 : UInt8)])).toNat)).fst.toNat (↑(h.snd.extract (IntKind.i64.wrap (S365 h.snd (ByteArray.mk #[(58 :
 UInt8)]) + (↑(nat_lit 1) : Int))).toNat (↑h.snd.size : Int).toNat).size : Int).toNat) else h.snd.size.le (nat_lit 281474976710656) ∧ ([], false) = v else
 (h.fst, true) = v) ([], x0)) := by kernel_rfl
end Go.Rx
/-! row.Split. -/
namespace Go.Rx
open Go.Ab Go.L21
set_option linter.unusedVariables false
set_option maxRecDepth 100000
/-- What is handed back, with out's parts ahead. -/
def finS (out : List ByteArray) : Option (List (List UInt8)) → List ByteArray × Bool
  | none => ([], false)
  | some t => (out ++ t.map bs, true)
theorem finS_nil (l : List UInt8) (x : ByteArray) (h : l = x.data.toList) : finS [] (splitL l) = S315 x := by
  subst h; unfold S315
  cases splitL x.data.toList <;> rfl
theorem finS_some {l x r : List UInt8} {out : List ByteArray} (h : split1 l = some (x, r)) : finS out (splitL l) = finS (out ++ [bs x]) (splitL r) := by
  rw [splitL_some h]
  cases splitL r with
  | none => rfl
  | some t => show (out ++ (x :: t).map bs, true) = _; simp [finS]
/-- The text up to the colon. -/
abbrev tw (l : List UInt8) : List UInt8 := l.takeWhile (· != 58)
theorem tw_le (l : List UInt8) : (tw l).length ≤ l.length := by
  induction l with
  | nil => exact Nat.le_refl _
  | cons c r ih => unfold tw at *; rw [List.takeWhile_cons]; split <;> simp; omega
theorem tw_take (l : List UInt8) : tw l = l.take (tw l).length := by
  induction l with
  | nil => rfl
  | cons c r ih =>
    unfold tw at *; rw [List.takeWhile_cons]; split
    · rw [List.length_cons, List.take_succ_cons, ← ih]
    · rfl
theorem idx58 (l : List UInt8) : Lib.indexByte l 58 = if (tw l).length < l.length then ((tw l).length : Int) else -1 := by
  induction l with
  | nil => rfl
  | cons c r ih =>
    unfold tw at *
    rw [Lib.indexByte, List.takeWhile_cons]
    by_cases hc : c = 58
    · subst hc; rfl
    · have h1 : (c == 58) = false := by simpa using hc
      have h2 : (c != 58) = true := by simpa using hc
      rw [h1, h2]
      simp only [if_true, Bool.false_eq_true, if_false, List.length_cons]
      rw [ih]
      by_cases hl : (r.takeWhile (· != 58)).length < r.length
      · rw [if_pos hl, if_pos (Nat.succ_lt_succ hl), if_neg (by simp only [beq_iff_eq]; omega)]
        omega
      · rw [if_neg hl, if_neg (fun h => hl (Nat.lt_of_succ_lt_succ h))]; rfl
theorem split1_is (l : List UInt8) : split1 l = if (tw l).length < l.length ∧ tw l = Lib.decDigits (valL (tw l)) ∧ valL (tw l) ≤ (l.drop ((tw l).length + 1)).length then some ((l.drop ((tw l).length + 1)).take (valL (tw l)), (l.drop ((tw l).length + 1)).drop (valL (tw l))) else none := by
  unfold split1
  simp only []
  split
  · rename_i h
    obtain ⟨h1, h2, h3⟩ := h
    have e2 : (tw l == Lib.decDigits (valL (tw l))) = true := beq_iff_eq.2 h2
    rw [show decide ((l.takeWhile (· != 58)).length < l.length) = true from decide_eq_true h1, show (l.takeWhile (· != 58) == Lib.decDigits (valL (l.takeWhile (· != 58)))) = true from e2, show decide (valL (l.takeWhile (· != 58)) ≤ (l.drop ((l.takeWhile (· != 58)).length + 1)).length) = true from decide_eq_true h3]
    rfl
  · rename_i h
    cases hb : (decide ((l.takeWhile (· != 58)).length < l.length) && (l.takeWhile (· != 58) == Lib.decDigits (valL (l.takeWhile (· != 58)))) && decide (valL (l.takeWhile (· != 58)) ≤ (l.drop ((l.takeWhile (· != 58)).length + 1)).length)) with
    | false => rfl
    | true =>
      rw [Bool.and_eq_true, Bool.and_eq_true, decide_eq_true_eq, decide_eq_true_eq, beq_iff_eq] at hb
      exact absurd ⟨hb.1.1, hb.1.2, hb.2⟩ h
theorem ext0 (s : ByteArray) (k : Nat) : (s.extract 0 k).data.toList = s.data.toList.take k := by
  rw [Lib.extract_data]; rfl
theorem extE (s : ByteArray) (k : Nat) : (s.extract k s.size).data.toList = s.data.toList.drop k := by
  rw [Lib.extract_data, List.take_of_length_le]
  rw [List.length_drop, ← Lib.size_eq]; omega
theorem s337_dec {s : ByteArray} {v : Nat} (h : s.data.toList = Lib.decDigits v) (hv : v < 9223372036854775808) : S337 s = ((v : Int), false) := by
  unfold S337
  rw [h, atoi_dec v hv]; rfl
/-- The four ways of a round. -/
theorem round15 {l : List UInt8} {k : Nat} {sz bh : ByteArray} (hl : l.length ≤ 1099511627776) (hk : (tw l).length = k) (hkl : k < l.length) (hs : sz.data.toList = tw l) (hb : bh.data.toList = l.drop (k + 1)) :
    (((S337 sz).2 || decide ((S337 sz).1 < 0) || decide ((bh.size : Int) < (S337 sz).1)) = true → split1 l = none) ∧
    (((S337 sz).2 || decide ((S337 sz).1 < 0) || decide ((bh.size : Int) < (S337 sz).1)) = false → (0 ≤ (S337 sz).1 ∧ (S337 sz).1 ≤ bh.size) ∧
      ((!((S333 (S337 sz).1).toList == sz.toList)) = true → split1 l = none) ∧
      ((!((S333 (S337 sz).1).toList == sz.toList)) = false → split1 l = some ((bh.extract 0 (S337 sz).1.toNat).data.toList, (bh.extract (S337 sz).1.toNat bh.size).data.toList))) := by
  have hbl : bh.size = (l.drop (k + 1)).length := by rw [Lib.size_eq, hb]
  have hbl2 : (l.drop (k + 1)).length ≤ l.length := by rw [List.length_drop]; omega
  have yes : ∀ {p}, split1 l = some p → ∃ v : Nat, tw l = Lib.decDigits v ∧ v ≤ bh.size ∧ S337 sz = ((v : Int), false) := by
    intro p hp
    rw [split1_is] at hp
    split at hp
    · rename_i h
      obtain ⟨_, h2, h3⟩ := h
      rw [hk] at h3
      refine ⟨_, h2, by rw [hbl]; exact h3, s337_dec (by rw [hs]; exact h2) (by omega)⟩
    · cases hp
  refine ⟨fun hc => ?_, fun hc => ?_⟩
  · cases hp : split1 l with
    | none => rfl
    | some p =>
      obtain ⟨v, h1, h2, h3⟩ := yes hp
      rw [h3] at hc
      simp at hc
      omega
  · have hc' : (S337 sz).2 = false ∧ 0 ≤ (S337 sz).1 ∧ (S337 sz).1 ≤ bh.size := by
      revert hc
      cases (S337 sz).2 <;> simp
    obtain ⟨_, h0, h1⟩ := hc'
    refine ⟨⟨h0, h1⟩, fun hd => ?_, fun hd => ?_⟩
    · cases hp : split1 l with
      | none => rfl
      | some p =>
        obtain ⟨v, e1, _, e3⟩ := yes hp
        rw [e3] at hd
        have : (S333 (v : Int)).toList = sz.toList := by
          rw [Lib.toList_data, Lib.toList_data, hs, e1, S333, data_bs, Lib.itoa_nonneg]
        rw [this] at hd
        simp at hd
    · generalize (S337 sz).1 = n at *
      obtain ⟨u, rfl⟩ : ∃ u : Nat, n = (u : Int) := ⟨n.toNat, by omega⟩
      have hd : (S333 (u : Int)).toList = sz.toList := by simpa using hd
      rw [Lib.toList_data, Lib.toList_data, hs, S333, data_bs, Lib.itoa_nonneg] at hd
      have hv : valL (tw l) = u := by rw [← hd]; exact val_dec u
      rw [split1_is, if_pos ⟨by omega, by rw [hv]; exact hd.symm, by rw [hv, hk]; omega⟩, hv, hk, Int.toNat_natCast, ext0, extE, hb]
theorem run315 : RunC C315 6 10 [45, 4] [9] W315 [] := by
  intro (x : ByteArray) hx hp
  have hp : x.size ≤ 1099511627776 := hp _ rfl
  refine of_eq (q315 x _) ?_
  refine LOOP.of (fun y => finS y.1 (splitL y.2.data.toList) = S315 x ∧ y.1.length + y.2.size ≤ x.size) (fun y => y.2.size) ⟨finS_nil _ x rfl, by simp⟩ ?_
  rintro ⟨out, rest⟩ ⟨h1, h2⟩ J hJ
  have h1 : finS out (splitL rest.data.toList) = S315 x := h1
  have h2 : out.length + rest.size ≤ x.size := h2
  have hrl : rest.data.toList.length = rest.size := (Lib.size_eq rest).symm
  dsimp only
  refine bif_of (fun hne => ⟨rfl, ?_⟩) (fun he => ?_)
  · have hne : rest.data.toList ≠ [] := by
      intro e
      rw [Lib.toList_data, Lib.toList_data, e] at hne
      exact absurd hne (by decide)
    have hi : S365 rest (ByteArray.mk #[58]) = if (tw rest.data.toList).length < rest.data.toList.length then ((tw rest.data.toList).length : Int) else -1 := idx58 _
    have nn : split1 rest.data.toList = none → (([], false) : List ByteArray × Bool) = S315 x := fun h => by
      rw [← h1, splitL_none hne h]; rfl
    by_cases hk : (tw rest.data.toList).length < rest.data.toList.length
    · rw [if_pos hk] at hi
      generalize hkk : (tw rest.data.toList).length = k at hi hk
      have hw : IntKind.i64.wrap ((k : Int) + ((nat_lit 1 : Nat) : Int)) = ((k + 1 : Nat) : Int) := by
        rw [show ((nat_lit 1 : Nat) : Int) = 1 from rfl, wrap64 (by omega)]; omega
      simp only [hi, hw, Int.toNat_natCast]
      obtain ⟨r1, r2⟩ := round15 (l := rest.data.toList) (k := k) (sz := rest.extract 0 k) (bh := rest.extract (k + 1) rest.size) (by omega) hkk hk (by rw [ext0, ← hkk]; exact (tw_take _).symm) (extE _ _)
      have hbs : (rest.extract (k + 1) rest.size).size + (k + 1) = rest.size := by
        rw [Lib.size_eq, extE, List.length_drop]; omega
      refine bif_of (fun _ => ⟨⟨Int.le_refl _, by omega, by omega⟩, ⟨by omega, by omega, Int.le_refl _⟩, ?_, bif_of (fun hc => nn (r1 hc)) (fun hc => ?_)⟩) (fun hn => absurd (decide_eq_false_iff_not.1 hn) (by omega))
      · show (rest.extract 0 k).size ≤ 281474976710656
        rw [Lib.size_eq, ext0, List.length_take]; omega
      · obtain ⟨⟨b0, b1⟩, c1, c2⟩ := r2 hc
        refine ⟨⟨by omega, by omega⟩, bif_of (fun hd => nn (c1 hd)) (fun hd => ?_)⟩
        have hs := c2 hd
        refine ⟨⟨Int.le_refl _, b0, b1⟩, ⟨trivial, ?_⟩, ?_⟩
        · show (out.length + 1) * 16 ≤ 140737488355328
          omega
        · intro y hy
          have hy : y = out ++ [(rest.extract (k + 1) rest.size).extract 0 (S337 (rest.extract 0 k)).1.toNat] := hy
          have hf := finS_some (out := out) hs
          rw [bs_data, h1, ← hy] at hf
          refine ⟨⟨b0, b1, Int.le_refl _⟩, trivial, hJ _ ⟨hf.symm, ?_⟩ ?_⟩
          · show y.length + (ByteArray.extract _ _ _).size ≤ x.size
            have e1 : y.length = out.length + 1 := by rw [hy]; simp
            have e2 : ((rest.extract (k + 1) rest.size).extract (S337 (rest.extract 0 k)).1.toNat (rest.extract (k + 1) rest.size).size).size ≤ (rest.extract (k + 1) rest.size).size := by
              rw [Lib.size_eq, extE, List.length_drop, ← Lib.size_eq]; omega
            exact Nat.le_trans (Nat.add_le_add (Nat.le_of_eq e1) e2) (by omega)
          · show (ByteArray.extract _ _ _).size < rest.size
            have e2 : ((rest.extract (k + 1) rest.size).extract (S337 (rest.extract 0 k)).1.toNat (rest.extract (k + 1) rest.size).size).size ≤ (rest.extract (k + 1) rest.size).size := by
              rw [Lib.size_eq, extE, List.length_drop, ← Lib.size_eq]; omega
            exact Nat.lt_of_le_of_lt e2 (by omega)
    · rw [if_neg hk] at hi
      simp only [hi]
      refine bif_of (fun hn => absurd (of_decide_eq_true hn) (by omega)) (fun _ => ⟨by show rest.size ≤ 281474976710656; omega, nn ?_⟩)
      rw [split1_is, if_neg (fun h => hk h.1)]
  · have he : rest.data.toList = [] := by
      rw [Lib.toList_data, Lib.toList_data] at he
      simpa using he
    rw [he, splitL_nil] at h1
    show (out, true) = _
    rw [← h1]; simp [finS]
theorem ok315 : Ok315 := con_ok (C := C315) (kok_cons ok333 (kok_cons ok337 (kok_cons ok365 kok_nil))) mx7 (by kernel_rfl) run315
end Go.Rx
namespace Go.Rx
open Go.Ab Go.L7 Go.L21
set_option maxRecDepth 100000
set_option maxHeartbeats 20000000
set_option linter.unusedVariables false
noncomputable def C355 (k : Nat) : Cfg S := { P := P7, inl := [], K := [(45, ctr P7 [85] [9] (fun x0 => (some (DB k x0), S355 x0)))], ann := [] }
abbrev WD (k : Nat) : CT S [9] [85] := (fun x0 => (some (DB k x0), S355 x0))
abbrev OkD (k : Nat) : Prop := ConOk P7 45 (ctr P7 [85] [9] (WD k)) ∧ ConMon (ctr P7 [85] [9] (WD k))
theorem q355 (k : Nat) (x0 : Int) (v : HR S [9]) : (Xf (C355 k) 6 (emp 0) 45 (argsA (C355 k) [⟨85, x0⟩]) (emp 0) (fun r _ => isR (C355 k).P [9] v r) (fun _ _
 => False)) = (bif decide (x0 < (10 : Int)) then bsOf (List.map (fun (x : Int) => x) [IntKind.u8.wrap ((48 : Int) + IntKind.u8.wrap x0)]) = v else DB k
 (IntKind.u64.wrap (x0.tdiv (10 : Int))) ∧ (S355 (IntKind.u64.wrap (x0.tdiv (10 : Int)))).size + (bsOf (List.map (fun (x : Int) => x) [IntKind.u8.wrap ((48 :
 Int) + IntKind.u8.wrap (x0.tmod (10 : Int)))])).size ≤ nat_lit 9223372036854775807 ∧ S355 (IntKind.u64.wrap (x0.tdiv (10 : Int))) ++ bsOf (List.map (fun (x :
 Int) => x) [IntKind.u8.wrap ((48 : Int) + IntKind.u8.wrap (x0.tmod (10 : Int)))]) = v) := by kernel_rfl
end Go.Rx
namespace Go.Rx
open Go.Ab Go.L7 Go.L21
set_option maxRecDepth 100000
set_option maxHeartbeats 20000000
set_option linter.unusedVariables false
/-- interregnum/interregnumref11.Dec -/
noncomputable def C338 : Cfg S := { P := P7, inl := [], K := [(45, ctr P7 [85] [9] (fun x0 => (some (P355 x0), S355 x0)))], ann := [] }
abbrev W338 : CT S [9] [3] := (fun x0 => (some (P338 x0), S338 x0))
abbrev Ok338 : Prop := ConOk P7 24 (ctr P7 [3] [9] W338) ∧ ConMon (ctr P7 [3] [9] W338)
theorem q338 (x0 : Int) (v : HR S [9]) : (Xf C338 6 (emp 0) 24 (argsA C338 [⟨3, x0⟩]) (emp 0) (fun r _ => isR C338.P [9] v r) (fun _ _ => False)) = (bif decide
 (x0 < (0 : Int)) then DB (nat_lit 20) (IntKind.u64.wrap (IntKind.u64.wrap (IntKind.i64.wrap ((0 : Int) - IntKind.i64.wrap (x0 + (1 : Int)))) + (1 : Int))) ∧
 nat_lit 1 + (S355 (IntKind.u64.wrap (IntKind.u64.wrap (IntKind.i64.wrap ((0 : Int) - IntKind.i64.wrap (x0 + (1 : Int)))) + (1 : Int)))).size ≤ nat_lit
 9223372036854775807 ∧ ByteArray.mk #[(45 : UInt8)] ++ S355 (IntKind.u64.wrap (IntKind.u64.wrap (IntKind.i64.wrap ((0 : Int) - IntKind.i64.wrap (x0 + (1 :
 Int)))) + (1 : Int))) = v else DB (nat_lit 20) (IntKind.u64.wrap x0) ∧ S355 (IntKind.u64.wrap x0) = v) := by kernel_rfl
end Go.Rx
namespace Go.Rx
open Go.Ab Go.L7 Go.L21
set_option maxRecDepth 100000
set_option maxHeartbeats 20000000
set_option linter.unusedVariables false
/-- interregnum/interregnumref11.Texts -/
noncomputable def C317 : Cfg S := { P := P7, inl := [], K := [(24, ctr P7 [3] [9] (fun x0 => (some (P338 x0), S338 x0)))], ann := [(23, [(3, .loop [(.sl 3, .str), (.sl 4, .int .i64)])])] }
abbrev W317 : CT S [9] [45] := (fun x0 => (some (P317 x0), S317 x0))
abbrev Ok317 : Prop := ConOk P7 23 (ctr P7 [45] [9] W317) ∧ ConMon (ctr P7 [45] [9] W317)
theorem q317 (x0 : List ByteArray) (v : HR S [9]) : (Xf C317 6 (emp 0) 23 (argsA C317 [⟨45, x0⟩]) (emp 0) (fun r _ => isR C317.P [9] v r) (fun _ _ => False)) =
 (LOOP (fun (h : ByteArray × Int) (J : ByteArray × Int → Prop) => bif decide (h.snd < (↑x0.length : Int)) then ((0 : Int) ≤ h.snd ∧ h.snd < (↑x0.length : Int))
 ∧ ((0 : Int) ≤ h.snd ∧ h.snd < (↑x0.length : Int)) ∧ ((-9223372036854775808 : Int) ≤ (↑(ix x0 h.snd).size : Int) ∧ (↑(ix x0 h.snd).size : Int) ≤
 (9223372036854775807 : Int)) ∧ h.fst.size + (S338 (↑(ix x0 h.snd).size : Int)).size ≤ nat_lit 9223372036854775807 ∧ (h.fst ++ S338 (↑(ix x0 h.snd).size :
 Int)).size + nat_lit 1 ≤ nat_lit 9223372036854775807 ∧ (h.fst ++ S338 (↑(ix x0 h.snd).size : Int) ++ ByteArray.mk #[(58 : UInt8)]).size + (ix x0 h.snd).size ≤
 nat_lit 9223372036854775807 ∧ J (h.fst ++ S338 (↑(ix x0 h.snd).size : Int) ++ ByteArray.mk #[(58 : UInt8)] ++ ix x0 h.snd, IntKind.i64.wrap (h.snd + (1 :
 Int))) else h.fst = v) (ByteArray.mk #[], (0 : Int))) := by kernel_rfl
end Go.Rx
namespace Go.Rx
open Go.Ab Go.L7 Go.L21
set_option maxRecDepth 100000
set_option maxHeartbeats 20000000
set_option linter.unusedVariables false
/-- interregnum/row.addr -/
noncomputable def C339 : Cfg S := { P := P7, inl := [], K := [(36, ctr P7 [85, 3] [9] (fun x0 x1 => (some (P356 x0 x1), S356 x0 x1)))], ann := [] }
abbrev W339 : CT S [9] [22] := (fun x0 => (some (P339 x0), S339 x0))
abbrev Ok339 : Prop := ConOk P7 14 (ctr P7 [22] [9] W339) ∧ ConMon (ctr P7 [22] [9] W339)
theorem q339 (x0 : Int) (v : HR S [9]) : (Xf C339 6 (emp 0) 14 (argsA C339 [⟨22, x0⟩]) (emp 0) (fun r _ => isR C339.P [9] v r) (fun _ _ => False)) = (((10 :
 Int) = (10 : Int) ∧ (0 : Int) ≤ IntKind.u64.wrap x0 ∧ IntKind.u64.wrap x0 < (18446744073709551616 : Int)) ∧ S356 (IntKind.u64.wrap x0) (10 : Int) = v) := by
 kernel_rfl
end Go.Rx
namespace Go.Rx
open Go.Ab Go.L7 Go.L21
set_option maxRecDepth 100000
set_option maxHeartbeats 20000000
set_option linter.unusedVariables false
/-- interregnum/row.num -/
noncomputable def C340 : Cfg S := { P := P7, inl := [], K := [(31, ctr P7 [3] [9] (fun x0 => (some (P333 x0), S333 x0)))], ann := [] }
abbrev W340 : CT S [9] [3] := (fun x0 => (some (P340 x0), S340 x0))
abbrev Ok340 : Prop := ConOk P7 15 (ctr P7 [3] [9] W340) ∧ ConMon (ctr P7 [3] [9] W340)
theorem q340 (x0 : Int) (v : HR S [9]) : (Xf C340 6 (emp 0) 15 (argsA C340 [⟨3, x0⟩]) (emp 0) (fun r _ => isR C340.P [9] v r) (fun _ _ => False)) =
 (((-9223372036854775808 : Int) ≤ x0 ∧ x0 ≤ (9223372036854775807 : Int)) ∧ S333 x0 = v) := by kernel_rfl
end Go.Rx
namespace Go.Rx
open Go.Ab Go.L7 Go.L21
set_option maxRecDepth 100000
set_option maxHeartbeats 20000000
set_option linter.unusedVariables false
/-- interregnum/row.Hop -/
noncomputable def C319 : Cfg S := { P := P7, inl := [], K := [(13, ctr P7 [45] [9] (fun x0 => (some (P314 x0), S314 x0))), (14, ctr P7 [22] [9] (fun x0 => (some (P339 x0), S339 x0))), (15, ctr P7 [3] [9] (fun x0 => (some (P340 x0), S340 x0)))], ann := [] }
abbrev W319 : CT S [9] [49] := (fun x0 => (some (P319 x0), S319 x0))
abbrev Ok319 : Prop := ConOk P7 12 (ctr P7 [49] [9] W319) ∧ ConMon (ctr P7 [49] [9] W319)
theorem q319 (x0 : api_Hop) (v : HR S [9]) : (Xf C319 6 (emp 0) 12 (argsA C319 [⟨49, x0⟩]) (emp 0) (fun r _ => isR C319.P [9] v r) (fun _ _ => False)) = (((0 :
 Int) ≤ x0.fPrefix.fAddr ∧ x0.fPrefix.fAddr ≤ (4294967295 : Int)) ∧ ((-9223372036854775808 : Int) ≤ x0.fPrefix.fLen ∧ x0.fPrefix.fLen ≤ (9223372036854775807 :
 Int)) ∧ ((0 : Int) ≤ x0.fNext ∧ x0.fNext ≤ (4294967295 : Int)) ∧ ((-9223372036854775808 : Int) ≤ x0.fPeer ∧ x0.fPeer ≤ (9223372036854775807 : Int)) ∧
 ((-9223372036854775808 : Int) ≤ x0.fStale ∧ x0.fStale ≤ (9223372036854775807 : Int)) ∧ (textsL [S339 x0.fPrefix.fAddr, S340 x0.fPrefix.fLen, S339 x0.fNext,
 S340 x0.fPeer, S340 x0.fStale]).length.le (nat_lit 70368744177664) ∧ S314 [S339 x0.fPrefix.fAddr, S340 x0.fPrefix.fLen, S339 x0.fNext, S340 x0.fPeer, S340
 x0.fStale] = v) := by kernel_rfl
end Go.Rx
/-! Numbers of the reference; small functions. -/
namespace Go.Rx
open Go.Ab Go.L21
set_option linter.unusedVariables false
set_option maxRecDepth 100000
theorem wrap8 (n : Int) : IntKind.u8.wrap n = n % 256 := rfl
theorem wrapU {n : Int} (h : 0 ≤ n ∧ n < 18446744073709551616) : IntKind.u64.wrap n = n := by
  rw [IntKind.wrap_u64]; omega
theorem bsOf_one {d : Nat} (h : d < 10) : bsOf (List.map (fun (x : Int) => x) [IntKind.u8.wrap ((48 : Int) + IntKind.u8.wrap (d : Int))]) = bs [UInt8.ofNat (48 + d)] := by
  have e : IntKind.u8.wrap ((48 : Int) + IntKind.u8.wrap (d : Int)) = ((48 + d : Nat) : Int) := by
    rw [wrap8, wrap8]; omega
  rw [e]
  rfl
theorem dec_len {u : Nat} (h : ¬ u < 10) : (Lib.decDigits u).length = (Lib.decDigits (u / 10)).length + 1 := by
  rw [Lib.decDigits, dif_neg h]; simp
theorem bs_app (a b : List UInt8) : bs a ++ bs b = bs (a ++ b) := by
  apply ByteArray.ext
  simp [bs]
theorem okD (k : Nat) : OkD k := by
  induction k with
  | zero => exact con_okP (C := C0) (fun x hx hp => by
      obtain ⟨_, _, h⟩ : DB 0 x := hp _ rfl
      exact absurd (List.length_eq_zero_iff.1 (Nat.le_zero.1 h)) (dec_ne _))
  | succ k ih =>
    refine con_ok (C := C355 k) (n := 6) (kk1 ih) mx7 (by kernel_rfl) ?_
    intro (x : Int) hx hp
    obtain ⟨h0, h1, h2⟩ : DB (k + 1) x := hp _ rfl
    refine of_eq (q355 k x _) ?_
    obtain ⟨u, rfl⟩ : ∃ u : Nat, x = (u : Int) := ⟨x.toNat, by omega⟩
    rw [Int.toNat_natCast] at h2
    have hS : S355 (u : Int) = bs (Lib.decDigits u) := by unfold S355; rw [Int.toNat_natCast]
    refine bif_of (fun hc => ?_) (fun hc => ?_)
    · have hc : u < 10 := by have := of_decide_eq_true hc; omega
      rw [bsOf_one hc]
      show _ = S355 (u : Int)
      rw [hS, Lib.decDigits, dif_pos hc]
    · have hc : ¬ u < 10 := by have := of_decide_eq_false hc; omega
      have e1 : IntKind.u64.wrap ((u : Int).tdiv 10) = ((u / 10 : Nat) : Int) := by
        rw [show ((u : Int).tdiv 10) = ((u / 10 : Nat) : Int) from rfl, wrapU (by omega)]
      have e2 : ((u : Int).tmod 10) = ((u % 10 : Nat) : Int) := rfl
      have e3 : S355 ((u / 10 : Nat) : Int) = bs (Lib.decDigits (u / 10)) := by unfold S355; rw [Int.toNat_natCast]
      have hl := dec_len hc
      rw [e1, e2, bsOf_one (show u % 10 < 10 by omega), e3]
      refine ⟨⟨by omega, by omega, by rw [Int.toNat_natCast]; omega⟩, ?_, ?_⟩
      · rw [size_bs, size_bs]
        have : (Lib.decDigits u).length ≤ 20 := by
          have h := Lib.numDigits_eq u (by omega) (by omega)
          rw [Lib.decDigits_length]; split at h <;> omega
        show _ + 1 ≤ 9223372036854775807
        omega
      · rw [bs_app]
        show _ = S355 (u : Int)
        rw [hS]
        conv => rhs; rw [Lib.decDigits, dif_neg hc]
abbrev W355 : CT S [9] [85] := WD 20
abbrev Ok355 : Prop := OkD 20
theorem ok355 : Ok355 := okD 20
theorem db20 (u : Nat) (h : u < 18446744073709551616) : DB 20 (u : Int) := by
  refine ⟨by omega, by omega, ?_⟩
  rw [Int.toNat_natCast]
  rcases Nat.eq_zero_or_pos u with rfl | h1
  · rw [Lib.decDigits]; decide
  · have h := Lib.numDigits_eq u h1 h
    rw [Lib.decDigits_length]; split at h <;> omega
theorem len20 (u : Nat) (h : u < 18446744073709551616) : (Lib.decDigits u).length ≤ 20 := by
  obtain ⟨_, _, h⟩ := db20 u h
  rwa [Int.toNat_natCast] at h
theorem s355 (u : Nat) : S355 (u : Int) = bs (Lib.decDigits u) := by unfold S355; rw [Int.toNat_natCast]
theorem run338 : RunC C338 6 24 [9] [3] W338 [] := by
  intro (n : Int) hn hp
  obtain ⟨h0, h1⟩ : P333 n := hp _ rfl
  refine of_eq (q338 n _) (bif_of (fun hc => ?_) (fun hc => ?_))
  · have hc := of_decide_eq_true hc
    obtain ⟨u, rfl⟩ : ∃ u : Nat, n = -(u : Int) := ⟨n.natAbs, by omega⟩
    have e : IntKind.u64.wrap (IntKind.u64.wrap (IntKind.i64.wrap ((0 : Int) - IntKind.i64.wrap (-(u : Int) + 1))) + 1) = (u : Int) := by
      rw [wrap64 (n := -(u : Int) + 1) (by omega), wrap64 (by omega), wrapU (n := 0 - (-(u : Int) + 1)) (by omega), wrapU (by omega)]; omega
    rw [e, s355]
    refine ⟨db20 u (by omega), ?_, ?_⟩
    · have := len20 u (by omega)
      rw [size_bs]
      show 1 + _ ≤ 9223372036854775807
      omega
    · show bs [45] ++ _ = bs (Lib.itoa _)
      rw [bs_app, Lib.itoa_neg u (by omega)]; rfl
  · have hc := of_decide_eq_false hc
    obtain ⟨u, rfl⟩ : ∃ u : Nat, n = (u : Int) := ⟨n.toNat, by omega⟩
    rw [wrapU (by omega), s355]
    refine ⟨db20 u (by omega), ?_⟩
    show _ = bs (Lib.itoa _)
    rw [Lib.itoa_nonneg]
theorem ok338 : Ok338 := con_ok (C := C338) (kk1 ok355) mx7 (by kernel_rfl) run338
theorem ix_get {l : List ByteArray} {k : Nat} {y : ByteArray} (h : l[k]? = some y) : ix l (k : Int) = y := by
  unfold ix
  rw [Int.toNat_natCast, List.getD_eq_getElem?_getD, h]; rfl
theorem run317 : RunC C317 6 23 [9] [45] W317 [] := by
  intro (x : List ByteArray) hx hp
  have hp : (textsL x).length ≤ 70368744177664 := hp _ rfl
  have hn := Proofs.texts_num x
  refine of_eq (q317 x _) ?_
  refine LOOP.of (fun y => ∃ k : Nat, y = (bs (textsL (x.take k)), (k : Int)) ∧ k ≤ x.length) (fun y => x.length - y.2.toNat) ⟨0, rfl, by omega⟩ ?_
  rintro _ ⟨k, rfl, hk⟩ J hJ
  dsimp only
  refine bif_of (fun hc => ?_) (fun hc => ?_)
  · have hc := of_decide_eq_true hc
    have hkl : k < x.length := by omega
    have hy : x[k]? = some x[k] := List.getElem?_eq_getElem hkl
    generalize x[k] = y at hy
    have hl := Proofs.texts_le x (k + 1)
    rw [Proofs.texts_take hy, textL] at hl
    simp only [List.length_append, List.length_cons, ← Lib.size_eq] at hl
    rw [ix_get hy]
    have hS : S338 (y.size : Int) = bs (Lib.itoa y.size) := rfl
    have h1 : bs (textsL (x.take k)) ++ bs (Lib.itoa y.size) = bs (textsL (x.take k) ++ Lib.itoa y.size) := bs_app _ _
    have h2 : bs (textsL (x.take k) ++ Lib.itoa y.size) ++ ByteArray.mk #[58] = bs (textsL (x.take k) ++ Lib.itoa y.size ++ [58]) := bs_app _ [58]
    rw [hS, h1, h2]
    simp only [size_bs]
    refine ⟨⟨by omega, hc⟩, ⟨by omega, hc⟩, ⟨by omega, by omega⟩, ?_, ?_, ?_, hJ _ ⟨k + 1, Prod.ext ?_ ?_, by omega⟩ ?_⟩
    · show _ ≤ 9223372036854775807; omega
    · show _ + 1 ≤ 9223372036854775807; rw [List.length_append]; omega
    · show _ ≤ 9223372036854775807; simp only [List.length_append, List.length_singleton]; omega
    · show bs _ ++ bs y.data.toList = bs _
      rw [bs_app, Proofs.texts_take hy, textL]; simp
    · exact (wrap64 (by omega)).trans (by show (k : Int) + 1 = ((k + 1 : Nat) : Int); omega)
    · show x.length - (IntKind.i64.wrap ((k : Int) + 1)).toNat < x.length - ((k : Nat) : Int).toNat
      rw [wrap64 (by omega)]; omega
  · have hc := of_decide_eq_false hc
    have : k = x.length := by omega
    rw [this, List.take_length]
    rfl
theorem ok317 : Ok317 := con_ok (C := C317) (kk1 ok338) mx7 (by kernel_rfl) run317
theorem run339 : RunC C339 6 14 [9] [22] W339 [] := by
  intro (n : Int) hn hp
  obtain ⟨h0, h1⟩ : P339 n := hp _ rfl
  refine of_eq (q339 n _) ?_
  rw [wrapU (by omega)]
  exact ⟨⟨rfl, h0, by omega⟩, rfl⟩
theorem ok339 : Ok339 := con_ok (C := C339) (kk1 ok356) mx7 (by kernel_rfl) run339
theorem run340 : RunC C340 6 15 [9] [3] W340 [] := by
  intro (n : Int) hn hp
  have hp : P333 n := hp _ rfl
  exact of_eq (q340 n _) ⟨hp, rfl⟩
theorem ok340 : Ok340 := con_ok (C := C340) (kk1 ok333) mx7 (by kernel_rfl) run340
theorem itoa_len {n : Int} (h : P333 n) : (Lib.itoa n).length ≤ 21 := by
  by_cases hn : n < 0
  · obtain ⟨u, rfl⟩ : ∃ u : Nat, n = -(u : Int) := ⟨n.natAbs, by omega⟩
    have := h.1
    have := len20 u (by omega)
    rw [Lib.itoa_neg u (by omega), List.length_cons]; omega
  · obtain ⟨u, rfl⟩ : ∃ u : Nat, n = (u : Int) := ⟨n.toNat, by omega⟩
    have := h.2
    have := len20 u (by omega)
    rw [Lib.itoa_nonneg]; omega
theorem p333 {n : Int} (h : 0 ≤ n ∧ n ≤ 4294967295) : P333 n := ⟨by omega, by omega⟩
theorem text_len {n : Int} (h : P333 n) : (textL (S333 n)).length ≤ 43 := by
  have h1 := itoa_len h
  rw [textL, List.length_append, List.length_cons, S333, data_bs, size_bs]
  have := itoa_len (n := ((Lib.itoa n).length : Int)) ⟨by omega, by omega⟩
  omega
theorem hop_len {h : api_Hop} (hh : okHop h) : (textsL (hopL h)).length ≤ 215 := by
  obtain ⟨h1, h2, h3, h4, h5⟩ := hh
  have h1 := text_len (p333 h1)
  have h2 := text_len h2
  have h3 := text_len (p333 h3)
  have h4 := text_len h4
  have h5 := text_len h5
  simp only [textsL, hopL, List.flatMap_cons, List.flatMap_nil, List.length_append, List.length_nil]
  omega
theorem run319 : RunC C319 6 12 [9] [49] W319 [] := by
  intro (h : api_Hop) hx hp
  have hp : okHop h := hp _ rfl
  have hl := hop_len hp
  obtain ⟨h1, h2, h3, h4, h5⟩ := hp
  refine of_eq (q319 h _) ⟨h1, h2, h3, h4, h5, ?_, rfl⟩
  show (textsL (hopL h)).length ≤ 70368744177664
  omega
theorem ok319 : Ok319 := by
  refine con_ok (C := C319) ?_ mx7 (by kernel_rfl) run319
  exact kok_cons ok314 (kok_cons ok339 (kok_cons ok340 kok_nil))
end Go.Rx
/-! Numbers' texts read again. -/
namespace Go.Rx
open Go.Ab Go.L21
set_option linter.unusedVariables false
set_option maxRecDepth 100000
theorem s357_of {u : Int} (h : 0 ≤ u ∧ u ≤ 4294967295) : S357 (S333 u) 10 32 = (u, false) := by
  obtain ⟨n, rfl⟩ : ∃ n : Nat, u = (n : Int) := ⟨u.toNat, by omega⟩
  unfold S357
  rw [S333, data_bs, Lib.itoa_nonneg, show (32 : Int).toNat = 32 from rfl, uint_dec 32 (by omega) n (by omega)]
  rfl
theorem s337_of {n : Int} (h : P333 n) : S337 (S333 n) = (n, false) := by
  unfold S337
  rw [S333, data_bs, atoi_itoa n h]
  rfl
theorem wrap32 {n : Int} (h : 0 ≤ n ∧ n ≤ 4294967295) : IntKind.u32.wrap n = n := by
  have : IntKind.u32.wrap n = n % 4294967296 := rfl
  rw [this]; omega
theorem size333 {n : Int} (h : P333 n) : (S333 n).size ≤ 281474976710656 := by
  have := itoa_len h
  rw [S333, size_bs]; omega
theorem splitN_len (n : Nat) (l : List UInt8) {t : List (List UInt8)} (h : splitN n l = some t) : t.length ≤ n := by
  induction n generalizing l t with
  | zero => cases h; exact Nat.le_refl _
  | succ n ih =>
    rw [splitN] at h
    split at h
    · cases h; exact Nat.zero_le _
    · split at h
      · cases h
      · rename_i x r _
        cases hr : splitN n r with
        | none => rw [hr] at h; cases h
        | some u =>
          rw [hr] at h
          cases h
          have := ih r hr
          simp only [List.length_cons]; omega
theorem s315_len (x : ByteArray) : (S315 x).1.length ≤ x.size := by
  unfold S315
  cases h : splitL x.data.toList with
  | none => exact Nat.zero_le _
  | some t =>
    have := splitN_len _ _ h
    rw [← Lib.size_eq] at this
    simpa using this
end Go.Rx
namespace Go.Rx
open Go.Ab Go.L7 Go.L21
set_option maxRecDepth 100000
set_option maxHeartbeats 20000000
set_option linter.unusedVariables false
/-- interregnum/interregnumref01.Same -/
noncomputable def C15 : Cfg S := { P := P7, inl := [], K := [], ann := [(50, [(4, .loop [(.sl 5, .int .i64)])])] }
abbrev W15 : CT S [4] [35, 35] := (fun x0 x1 => (none, S15 x0 x1))
abbrev Ok15 : Prop := ConOk P7 50 (ctr P7 [35, 35] [4] W15) ∧ ConMon (ctr P7 [35, 35] [4] W15)
theorem q15 (x0 : List Int) (x1 : List Int) (v : HR S [4]) : (Xf C15 6 (emp 0) 50 (argsA C15 [⟨35, x0⟩, ⟨35, x1⟩]) (emp 0) (fun r _ => isR C15.P [4] v r) (fun
 _ _ => False)) = (bif !decide ((↑x0.length : Int) = (↑x1.length : Int)) then false = v else LOOP (fun (h : Int) (J : Int → Prop) => bif decide (h <
 (↑x0.length : Int)) then ((0 : Int) ≤ h ∧ h < (↑x0.length : Int)) ∧ ((0 : Int) ≤ h ∧ h < (↑x1.length : Int)) ∧ bif !decide (ix x0 h = ix x1 h) then false = v
 else J (IntKind.i64.wrap (h + (1 : Int))) else true = v) (0 : Int)) := by kernel_rfl
end Go.Rx
namespace Go.Rx
open Go.Ab Go.L7 Go.L21
set_option maxRecDepth 100000
set_option maxHeartbeats 20000000
set_option linter.unusedVariables false
/-- interregnum/interregnumref05.SamePath -/
noncomputable def C36 : Cfg S := { P := P7, inl := [], K := [], ann := [(49, [(9, .loop [(.sl 6, .int .i64)]), (4, .loop [(.sl 5, .int .i64)])])] }
abbrev W36 : CT S [4] [25, 25] := (fun x0 x1 => (none, S36 x0 x1))
abbrev Ok36 : Prop := ConOk P7 49 (ctr P7 [25, 25] [4] W36) ∧ ConMon (ctr P7 [25, 25] [4] W36)
theorem q36 (x0 : List api_Segment) (x1 : List api_Segment) (v : HR S [4]) : (Xf C36 6 (emp 0) 49 (argsA C36 [⟨25, x0⟩, ⟨25, x1⟩]) (emp 0) (fun r _ => isR
 C36.P [4] v r) (fun _ _ => False)) = (bif !decide ((↑x0.length : Int) = (↑x1.length : Int)) then false = v else LOOP (fun (h : Int) (J : Int → Prop) => bif
 decide (h < (↑x0.length : Int)) then ((0 : Int) ≤ h ∧ h < (↑x0.length : Int)) ∧ ((0 : Int) ≤ h ∧ h < (↑x1.length : Int)) ∧ ((!decide ((ix x0 h).fSet = (ix x1
 h).fSet)) = false → (0 : Int) ≤ h ∧ h < (↑x0.length : Int)) ∧ ((!decide ((ix x0 h).fSet = (ix x1 h).fSet)) = false → (0 : Int) ≤ h ∧ h < (↑x1.length : Int)) ∧
 bif !decide ((ix x0 h).fSet = (ix x1 h).fSet) || !decide ((↑(ix x0 h).fAS.length : Int) = (↑(ix x1 h).fAS.length : Int)) then false = v else LOOP (fun (h_1 :
 Int) (J_1 : Int → Prop) => ((0 : Int) ≤ h ∧ h < (↑x0.length : Int)) ∧ bif decide (h_1 < (↑(ix x0 h).fAS.length : Int)) then ((0 : Int) ≤ h ∧ h < (↑x0.length :
 Int)) ∧ ((0 : Int) ≤ h_1 ∧ h_1 < (↑(ix x0 h).fAS.length : Int)) ∧ ((0 : Int) ≤ h ∧ h < (↑x1.length : Int)) ∧ ((0 : Int) ≤ h_1 ∧ h_1 < (↑(ix x1 h).fAS.length :
 Int)) ∧ bif !decide (ix (ix x0 h).fAS h_1 = ix (ix x1 h).fAS h_1) then false = v else J_1 (IntKind.i64.wrap (h_1 + (1 : Int))) else J (IntKind.i64.wrap (h +
 (1 : Int)))) (0 : Int) else true = v) (0 : Int)) := by kernel_rfl
end Go.Rx
/-! Rows compared. -/
namespace Go.Rx
open Go.Ab Go.L7
set_option linter.unusedVariables false
set_option maxRecDepth 100000
theorem ix_eq {α : Type} [Inhabited α] {x y : List α} (hl : x.length = y.length) (h : ∀ i : Int, 0 ≤ i → i < (x.length : Int) → ix x i = ix y i) : x = y := by
  apply List.ext_getElem?
  intro i
  by_cases hi : i < x.length
  · have := h i (by omega) (by omega)
    unfold ix at this
    rw [List.getD_eq_getElem?_getD, List.getD_eq_getElem?_getD] at this
    simp only [Int.toNat_natCast] at this
    rw [List.getElem?_eq_getElem hi, List.getElem?_eq_getElem (by omega)] at this ⊢
    simpa using this
  · rw [List.getElem?_eq_none (by omega), List.getElem?_eq_none (by omega)]
/-- Two rows, thing by thing, from equal lengths on. -/
theorem cmpLoop' {α : Type} [Inhabited α] {x y : List α} (hx : x.length ≤ 9223372036854775807) (hl : x.length = y.length) {stp : Int → (Int → Prop) → Prop} {N Y : Prop}
    (hY : x = y → Y) (hN : x ≠ y → N) (hT : ∀ (i : Int) (J : Int → Prop), 0 ≤ i → (i < (x.length : Int) → ix x i = ix y i → J (IntKind.i64.wrap (i + 1))) → (i < (x.length : Int) → ix x i ≠ ix y i → N) → (¬ i < (x.length : Int) → Y) → stp i J) :
    LOOP stp 0 := by
  refine LOOP.of (fun i => 0 ≤ i ∧ i ≤ (x.length : Int) ∧ ∀ j : Int, 0 ≤ j → j < i → ix x j = ix y j) (fun i => (x.length - i).toNat) ⟨Int.le_refl _, by omega, fun j h1 h2 => by omega⟩ ?_
  rintro i ⟨h1, h2, h3⟩ J hJ
  refine hT i J h1 (fun hi e => ?_) (fun hi e => hN fun h => e (by rw [h])) fun hi => hY (ix_eq hl (fun j j1 j2 => h3 j j1 (by omega)))
  rw [wrap64 (by omega)]
  refine hJ _ ⟨by omega, by omega, fun j j1 j2 => ?_⟩ (by omega)
  by_cases hj : j < i
  · exact h3 j j1 hj
  · rw [show j = i by omega]; exact e
theorem cmpLoop {α : Type} [Inhabited α] {x y : List α} (hx : x.length ≤ 9223372036854775807) (hl : x.length = y.length) {T : Int → (Int → Prop) → Prop} {N Y : Prop}
    (hY : x = y → Y) (hN : x ≠ y → N) (hT : ∀ (i : Int) (J : Int → Prop), 0 ≤ i → i < (x.length : Int) → i < (y.length : Int) → (ix x i = ix y i → J (IntKind.i64.wrap (i + 1))) → (ix x i ≠ ix y i → N) → T i J) :
    LOOP (fun (h : Int) (J : Int → Prop) => bif decide (h < (x.length : Int)) then T h J else Y) 0 :=
  cmpLoop' hx hl hY hN fun i J h1 hJ hn hy => bif_of (fun hi => hT i J h1 (of_decide_eq_true hi) (by have := of_decide_eq_true hi; omega) (hJ (of_decide_eq_true hi)) (hn (of_decide_eq_true hi))) (fun hi => hy (of_decide_eq_false hi))
theorem cmpLen {α : Type} {x y : List α} {N : Prop} {L : Prop} (hN : x ≠ y → N) (hL : x.length = y.length → L) : bif !decide ((x.length : Int) = (y.length : Int)) then N else L := by
  refine bif_of (fun h => hN fun e => ?_) (fun h => hL ?_)
  · subst e; simp at h
  · have : (x.length : Int) = y.length := by simpa using h
    omega
theorem run15 : RunC C15 6 50 [4] [35, 35] W15 [] := by
  intro (x : List Int) hx (y : List Int) hy _
  have hx : x.length ≤ 9223372036854775807 := hx.1.1
  refine of_eq (q15 x y _) ?_
  have hN : x ≠ y → false = S15 x y := fun h => (decide_eq_false h).symm
  refine cmpLen hN fun hl => cmpLoop hx hl (fun h => (decide_eq_true h).symm) hN fun i J h1 h2 h3 hJ hn => ⟨⟨h1, h2⟩, ⟨h1, h3⟩, bif_of (fun e => hn (by simpa using e)) (fun e => hJ (by simpa using e))⟩
theorem ok15 : Ok15 := con_ok (C := C15) kok_nil mx7 (by kernel_rfl) run15
theorem seg_eq {a b : api_Segment} (h1 : a.fSet = b.fSet) (h2 : a.fAS = b.fAS) : a = b := by cases a; cases b; simp_all
theorem ix_mem {α : Type} [Inhabited α] {x : List α} {i : Int} (h1 : 0 ≤ i) (h2 : i < (x.length : Int)) : ix x i ∈ x := by
  unfold ix
  rw [List.getD_eq_getElem?_getD, List.getElem?_eq_getElem (by omega)]
  exact List.getElem_mem _
theorem run36 : RunC C36 6 49 [4] [25, 25] W36 [] := by
  intro (x : List api_Segment) hx (y : List api_Segment) hy _
  have hm : ∀ s ∈ x, s.fAS.length ≤ 9223372036854775807 := fun s hs => (hx.1.2 s hs).1.1
  have hx : x.length ≤ 9223372036854775807 := hx.1.1
  refine of_eq (q36 x y _) ?_
  have hN : x ≠ y → false = S36 x y := fun h => (decide_eq_false h).symm
  refine cmpLen hN fun hl => cmpLoop hx hl (fun h => (decide_eq_true h).symm) hN fun i J h1 h2 h3 hJ hn => ⟨⟨h1, h2⟩, ⟨h1, h3⟩, fun _ => ⟨h1, h2⟩, fun _ => ⟨h1, h3⟩, bif_of (fun e => hn fun h => by rw [h] at e; simp at e) (fun e => ?_)⟩
  simp only [Bool.or_eq_false_iff, Bool.not_eq_false', decide_eq_true_eq] at e
  have hN' : (ix x i).fAS ≠ (ix y i).fAS → false = S36 x y := fun h => hn fun h' => h (by rw [h'])
  refine cmpLoop' (hm _ (ix_mem h1 h2)) (by omega) (fun h => hJ (seg_eq e.1 h)) hN' fun j J h1' hJ hn hy => ⟨⟨h1, h2⟩, bif_of (fun hi => ?_) (fun hi => hy (of_decide_eq_false hi))⟩
  have hi := of_decide_eq_true hi
  exact ⟨⟨h1, h2⟩, ⟨h1', hi⟩, ⟨h1, h3⟩, ⟨h1', by omega⟩, bif_of (fun e => hn hi (by simpa using e)) (fun e => hJ hi (by simpa using e))⟩
theorem ok36 : Ok36 := con_ok (C := C36) kok_nil mx7 (by kernel_rfl) run36
end Go.Rx
namespace Go.Rx
open Go.Ab Go.L7 Go.L21
set_option maxRecDepth 100000
set_option maxHeartbeats 20000000
set_option linter.unusedVariables false
/-- interregnum/interregnumref05.SameAttrs -/
noncomputable def C18 : Cfg S := { P := P7, inl := [], K := [(50, ctr P7 [35, 35] [4] (fun x0 x1 => (none, S15 x0 x1))), (49, ctr P7 [25, 25] [4] (fun x0 x1 => (none, S36 x0 x1)))], ann := [(28, [(9, .loop [(.sl 6, .int .i64)]), (4, .loop [(.sl 5, .int .i64)])])] }
abbrev W18 : CT S [4] [29, 29] := (fun x0 x1 => (none, S18 x0 x1))
abbrev Ok18 : Prop := ConOk P7 28 (ctr P7 [29, 29] [4] W18) ∧ ConMon (ctr P7 [29, 29] [4] W18)
theorem q18 (x0 : api_Attrs) (x1 : api_Attrs) (v : HR S [4]) : (Xf C18 6 (emp 0) 28 (argsA C18 [⟨29, x0⟩, ⟨29, x1⟩]) (emp 0) (fun r _ => isR C18.P [4] v r)
 (fun _ _ => False)) = (bif !decide (x0.fOrigin = x1.fOrigin) then false = v else bif !S36 x0.fPath x1.fPath || !decide (x0.fNext = x1.fNext) || !decide
 (x0.fMed = x1.fMed) || !decide (x0.fPref = x1.fPref) || !decide ((↑x0.fComms.length : Int) = (↑x1.fComms.length : Int)) || !decide ((↑x0.fRaws.length : Int) =
 (↑x1.fRaws.length : Int)) then false = v else LOOP (fun (h : Int) (J : Int → Prop) => bif decide (h < (↑x0.fComms.length : Int)) then ((0 : Int) ≤ h ∧ h <
 (↑x0.fComms.length : Int)) ∧ ((0 : Int) ≤ h ∧ h < (↑x1.fComms.length : Int)) ∧ bif !decide (ix x0.fComms h = ix x1.fComms h) then false = v else J
 (IntKind.i64.wrap (h + (1 : Int))) else LOOP (fun (h : Int) (J : Int → Prop) => bif decide (h < (↑x0.fRaws.length : Int)) then ((0 : Int) ≤ h ∧ h <
 (↑x0.fRaws.length : Int)) ∧ ((0 : Int) ≤ h ∧ h < (↑x1.fRaws.length : Int)) ∧ ((!decide ((ix x0.fRaws h).fFlags = (ix x1.fRaws h).fFlags)) = false → (0 : Int)
 ≤ h ∧ h < (↑x0.fRaws.length : Int)) ∧ ((!decide ((ix x0.fRaws h).fFlags = (ix x1.fRaws h).fFlags)) = false → (0 : Int) ≤ h ∧ h < (↑x1.fRaws.length : Int)) ∧
 ((!decide ((ix x0.fRaws h).fFlags = (ix x1.fRaws h).fFlags) || !decide ((ix x0.fRaws h).fType = (ix x1.fRaws h).fType)) = false → (0 : Int) ≤ h ∧ h <
 (↑x0.fRaws.length : Int)) ∧ ((!decide ((ix x0.fRaws h).fFlags = (ix x1.fRaws h).fFlags) || !decide ((ix x0.fRaws h).fType = (ix x1.fRaws h).fType)) = false →
 (0 : Int) ≤ h ∧ h < (↑x1.fRaws.length : Int)) ∧ bif !decide ((ix x0.fRaws h).fFlags = (ix x1.fRaws h).fFlags) || !decide ((ix x0.fRaws h).fType = (ix x1.fRaws
 h).fType) then false = v else bif !S15 (ix x0.fRaws h).fData (ix x1.fRaws h).fData then false = v else J (IntKind.i64.wrap (h + (1 : Int))) else true = v) (0
 : Int)) (0 : Int)) := by kernel_rfl
end Go.Rx
namespace Go.Rx
open Go.Ab Go.L7 Go.L21
set_option maxRecDepth 100000
set_option maxHeartbeats 20000000
set_option linter.unusedVariables false
/-- interregnum/attr.Hop -/
noncomputable def C27 : Cfg S := { P := P7, inl := [], K := [], ann := [] }
abbrev W27 : CT S [4] [22] := (fun x0 => (none, S27 x0))
abbrev Ok27 : Prop := ConOk P7 59 (ctr P7 [22] [4] W27) ∧ ConMon (ctr P7 [22] [4] W27)
theorem q27 (x0 : Int) (v : HR S [4]) : (Xf C27 6 (emp 0) 59 (argsA C27 [⟨22, x0⟩]) (emp 0) (fun r _ => isR C27.P [4] v r) (fun _ _ => False)) = ((!decide (x0
 = (0 : Int)) && !decide (x0.fdiv ((2 : Int) ^ nat_lit 24) = (127 : Int)) && decide (x0.fdiv ((2 : Int) ^ nat_lit 24) < (224 : Int))) = v) := by kernel_rfl
end Go.Rx
namespace Go.Rx
open Go.Ab Go.L7 Go.L21
set_option maxRecDepth 100000
set_option maxHeartbeats 20000000
set_option linter.unusedVariables false
/-- bytes.Clone -/
noncomputable def C62 : Cfg S := { P := P7, inl := [], K := [], ann := [] }
abbrev W62 : CT S [35] [35] := (fun x0 => (some (P62 x0), S62 x0))
abbrev Ok62 : Prop := ConOk P7 70 (ctr P7 [35] [35] W62) ∧ ConMon (ctr P7 [35] [35] W62)
theorem q62 (x0 : List Int) (v : HR S [35]) : (Xf C62 6 (emp 0) 70 (argsA C62 [⟨35, x0⟩]) (emp 0) (fun r _ => isR C62.P [35] v r) (fun _ _ => False)) = (∀ (v_1
 : Bool), (x0 ≠ [] → v_1 = false) → bif v_1 then [] = v else (nat_lit 0 = nat_lit 0 ∧ (nat_lit 0 + x0.length) * nat_lit 1 ≤ nat_lit 140737488355328) ∧ ∀ (y :
 List (Int)), y = [] ++ x0 → y = v) := by kernel_rfl
end Go.Rx
namespace Go.Rx
open Go.Ab Go.L7 Go.L21
set_option maxRecDepth 100000
set_option maxHeartbeats 20000000
set_option linter.unusedVariables false
/-- interregnum/attr.raw -/
noncomputable def C28 : Cfg S := { P := P7, inl := [], K := [], ann := [] }
abbrev W28 : CT S [4] [37] := (fun x0 => (none, S28 x0))
abbrev Ok28 : Prop := ConOk P7 60 (ctr P7 [37] [4] W28) ∧ ConMon (ctr P7 [37] [4] W28)
theorem q28 (x0 : api_Raw) (v : HR S [4]) : (Xf C28 6 (emp 0) 60 (argsA C28 [⟨37, x0⟩]) (emp 0) (fun r _ => isR C28.P [4] v r) (fun _ _ => False)) = (bif
 decide (x0.fType = (6 : Int)) then (decide (x0.fFlags = (64 : Int)) && decide ((↑x0.fData.length : Int) = (0 : Int))) = v else bif decide (x0.fType = (7 :
 Int)) then (decide (x0.fFlags = (192 : Int)) && decide ((↑x0.fData.length : Int) = (8 : Int))) = v else (decide ((8 : Int) < x0.fType) && decide (x0.fType ≤
 (255 : Int)) && decide (x0.fFlags = (224 : Int)) && decide ((↑x0.fData.length : Int) ≤ (255 : Int))) = v) := by kernel_rfl
end Go.Rx
namespace Go.Rx
open Go.Ab Go.L7 Go.L21
set_option maxRecDepth 100000
set_option maxHeartbeats 20000000
set_option linter.unusedVariables false
/-- interregnum/attr.number -/
noncomputable def C25 : Cfg S := { P := P7, inl := [], K := [], ann := [] }
abbrev W25 : CT S [35] [3] := (fun x0 => (none, S25 x0))
abbrev Ok25 : Prop := ConOk P7 41 (ctr P7 [3] [35] W25) ∧ ConMon (ctr P7 [3] [35] W25)
theorem q25 (x0 : Int) (v : HR S [35]) : (Xf C25 6 (emp 0) 41 (argsA C25 [⟨3, x0⟩]) (emp 0) (fun r _ => isR C25.P [35] v r) (fun _ _ => False)) =
 ([IntKind.u8.wrap ((IntKind.u32.wrap x0).fdiv ((2 : Int) ^ nat_lit 24)), IntKind.u8.wrap ((IntKind.u32.wrap x0).fdiv ((2 : Int) ^ nat_lit 16)),
 IntKind.u8.wrap ((IntKind.u32.wrap x0).fdiv ((2 : Int) ^ nat_lit 8)), IntKind.u8.wrap (IntKind.u32.wrap x0)].length * nat_lit 1 ≤ nat_lit 140737488355328 ∧ ∀
 (y : List (Int)), y = [IntKind.u8.wrap ((IntKind.u32.wrap x0).fdiv ((2 : Int) ^ nat_lit 24)), IntKind.u8.wrap ((IntKind.u32.wrap x0).fdiv ((2 : Int) ^ nat_lit
 16)), IntKind.u8.wrap ((IntKind.u32.wrap x0).fdiv ((2 : Int) ^ nat_lit 8)), IntKind.u8.wrap (IntKind.u32.wrap x0)] → y = v) := by kernel_rfl
end Go.Rx
namespace Go.Rx
open Go.Ab Go.L7 Go.L21
set_option maxRecDepth 100000
set_option maxHeartbeats 20000000
set_option linter.unusedVariables false
/-- interregnum/path.Good -/
noncomputable def C26 : Cfg S := { P := P7, inl := [], K := [], ann := [(58, [(3, .loop [(.sl 3, .int .i64), (.sl 9, .int .i64)])]), (108, [(2, .loop [(.sl 8, .int .i64)])])] }
abbrev W26 : CT S [4] [25] := (fun x0 => (none, S26 x0))
abbrev Ok26 : Prop := ConOk P7 58 (ctr P7 [25] [4] W26) ∧ ConMon (ctr P7 [25] [4] W26)
theorem q26 (x0 : List api_Segment) (v : HR S [4]) : (Xf C26 6 (emp 0) 58 (argsA C26 [⟨25, x0⟩]) (emp 0) (fun r _ => isR C26.P [4] v r) (fun _ _ => False)) =
 (LOOP (fun (h : Int × Int) (J : Int × Int → Prop) => bif decide (h.snd < (↑x0.length : Int)) then ((0 : Int) ≤ h.snd ∧ h.snd < (↑x0.length : Int)) ∧ bif
 decide ((↑(ix x0 h.snd).fAS.length : Int) < (1 : Int)) || decide ((255 : Int) < (↑(ix x0 h.snd).fAS.length : Int)) then false = v else LOOP (fun (h_1 : Int)
 (J_1 : Int → Prop) => bif decide (h_1 < (↑(ix x0 h.snd).fAS.length : Int)) then ((0 : Int) ≤ h_1 ∧ h_1 < (↑(ix x0 h.snd).fAS.length : Int)) ∧ bif !(decide ((1
 : Int) ≤ ix (ix x0 h.snd).fAS h_1) && decide (ix (ix x0 h.snd).fAS h_1 ≤ (4294967295 : Int))) then bif decide ((0 : Int) ≤ h_1) then false = v else J
 (IntKind.i64.wrap (h.fst + (↑(ix x0 h.snd).fAS.length : Int)), IntKind.i64.wrap (h.snd + (1 : Int))) else J_1 (IntKind.i64.wrap (h_1 + (1 : Int))) else J
 (IntKind.i64.wrap (h.fst + (↑(ix x0 h.snd).fAS.length : Int)), IntKind.i64.wrap (h.snd + (1 : Int)))) (0 : Int) else decide (h.fst ≤ (64 : Int)) = v) ((0 :
 Int), (0 : Int))) := by kernel_rfl
end Go.Rx
namespace Go.Rx
open Go.Ab Go.L7 Go.L21
set_option maxRecDepth 100000
set_option maxHeartbeats 20000000
set_option linter.unusedVariables false
/-- interregnum/attr.Good -/
noncomputable def C13 : Cfg S := { P := P7, inl := [], K := [(59, ctr P7 [22] [4] (fun x0 => (none, S27 x0))), (58, ctr P7 [25] [4] (fun x0 => (none, S26 x0))), (60, ctr P7 [37] [4] (fun x0 => (none, S28 x0)))], ann := [(37, [(4, .loop [(.sl 34, .int .i64)])])] }
abbrev W13 : CT S [4] [29] := (fun x0 => (none, S13 x0))
abbrev Ok13 : Prop := ConOk P7 37 (ctr P7 [29] [4] W13) ∧ ConMon (ctr P7 [29] [4] W13)
theorem q13 (x0 : api_Attrs) (v : HR S [4]) : (Xf C13 6 (emp 0) 37 (argsA C13 [⟨29, x0⟩]) (emp 0) (fun r _ => isR C13.P [4] v r) (fun _ _ => False)) = (bif
 decide (x0.fOrigin < (0 : Int)) || decide ((2 : Int) < x0.fOrigin) then false = v else bif !S26 x0.fPath then false = v else bif !S27 x0.fNext || decide ((32
 : Int) < (↑x0.fComms.length : Int)) then false = v else LOOP (fun (h : Int) (J : Int → Prop) => bif decide (h < (↑x0.fRaws.length : Int)) then ((0 : Int) ≤ h
 ∧ h < (↑x0.fRaws.length : Int)) ∧ ((!S28 (ix x0.fRaws h)) = false → decide ((0 : Int) < h) = true → (0 : Int) ≤ IntKind.i64.wrap (h - (1 : Int)) ∧
 IntKind.i64.wrap (h - (1 : Int)) < (↑x0.fRaws.length : Int)) ∧ bif !S28 (ix x0.fRaws h) || decide ((0 : Int) < h) && decide ((ix x0.fRaws h).fType ≤ (ix
 x0.fRaws (IntKind.i64.wrap (h - (1 : Int)))).fType) then false = v else J (IntKind.i64.wrap (h + (1 : Int))) else (decide ((-1 : Int) ≤ x0.fMed) && decide
 (x0.fMed ≤ (4294967295 : Int)) && decide ((-1 : Int) ≤ x0.fPref) && decide (x0.fPref ≤ (4294967295 : Int))) = v) (0 : Int)) := by kernel_rfl
end Go.Rx
namespace Go.Rx
open Go.Ab Go.L7 Go.L21
set_option maxRecDepth 100000
set_option maxHeartbeats 20000000
set_option linter.unusedVariables false
/-- interregnum/region.Get -/
noncomputable def C66 : Cfg S := { P := P7, inl := [], K := [], ann := [(110, [(3, .loop [(.sl 3, .int .u32), (.sl 12, .int .i64)])])] }
abbrev W66 : CT S [22] [35] := (fun x0 => (none, S66 x0))
abbrev Ok66 : Prop := ConOk P7 110 (ctr P7 [35] [22] W66) ∧ ConMon (ctr P7 [35] [22] W66)
theorem q66 (x0 : List Int) (v : HR S [22]) : (Xf C66 6 (emp 0) 110 (argsA C66 [⟨35, x0⟩]) (emp 0) (fun r _ => isR C66.P [22] v r) (fun _ _ => False)) = (((0 :
 Int) ≤ (0 : Int) ∧ ((0 : Int) ≤ bif decide ((4 : Int) < (↑x0.length : Int)) then (4 : Int) else (↑x0.length : Int)) ∧ (bif decide ((4 : Int) < (↑x0.length :
 Int)) then (4 : Int) else (↑x0.length : Int)) ≤ (↑x0.length : Int)) ∧ LOOP (fun (h : Int × Int) (J : Int × Int → Prop) => bif decide (h.snd < (↑(sub x0 (0 :
 Int) (bif decide ((4 : Int) < (↑x0.length : Int)) then (4 : Int) else (↑x0.length : Int))).length : Int)) then ((0 : Int) ≤ h.snd ∧ h.snd < (↑(sub x0 (0 :
 Int) (bif decide ((4 : Int) < (↑x0.length : Int)) then (4 : Int) else (↑x0.length : Int))).length : Int)) ∧ J (ior IntKind.u32 (IntKind.u32.wrap (h.fst * (2 :
 Int) ^ nat_lit 8)) (IntKind.u32.wrap (ix (sub x0 (0 : Int) (bif decide ((4 : Int) < (↑x0.length : Int)) then (4 : Int) else (↑x0.length : Int))) h.snd)),
 IntKind.i64.wrap (h.snd + (1 : Int))) else h.fst = v) ((0 : Int), (0 : Int))) := by kernel_rfl
end Go.Rx
/-! Small functions. -/
namespace Go.Rx
open Go.Ab Go.L7
set_option linter.unusedVariables false
set_option maxRecDepth 100000
/-- A loop over a row by its index. -/
theorem listLoop {α σ ι : Type} [Inhabited α] {l : List α} (hl : l.length ≤ 9223372036854775807) (mk : σ → Int → ι) (idx : ι → Int) (hidx : ∀ s i, idx (mk s i) = i) (Inv : Int → List α → σ → Prop) {s0 : σ} {stp : ι → (ι → Prop) → Prop} (h0 : Inv 0 l s0)
    (hstep : ∀ (s : σ) (i : Int) (x : α) (r : List α) (J : ι → Prop), 0 ≤ i → i < (l.length : Int) → ix l i = x → x ∈ l → l.drop i.toNat = x :: r → Inv i (x :: r) s → (∀ s', Inv (i + 1) r s' → J (mk s' (IntKind.i64.wrap (i + 1)))) → stp (mk s i) J)
    (hend : ∀ (s : σ) (i : Int) (J : ι → Prop), i = (l.length : Int) → Inv i [] s → stp (mk s i) J) : LOOP stp (mk s0 0) := by
  refine LOOP.of (fun y => ∃ s i, y = mk s i ∧ 0 ≤ i ∧ i ≤ (l.length : Int) ∧ Inv i (l.drop i.toNat) s) (fun y => (l.length - idx y).toNat) ⟨s0, 0, rfl, Int.le_refl _, by omega, h0⟩ ?_
  rintro _ ⟨s, i, rfl, h1, h2, h3⟩ J hJ
  by_cases hi : i < (l.length : Int)
  · have hlt : i.toNat < l.length := by omega
    have hd : l.drop i.toNat = l[i.toNat] :: l.drop (i.toNat + 1) := List.drop_eq_getElem_cons hlt
    have hx : ix l i = l[i.toNat] := by
      unfold ix
      rw [List.getD_eq_getElem?_getD, List.getElem?_eq_getElem hlt]; rfl
    refine hstep s i _ _ J h1 hi hx (List.getElem_mem _) hd (hd ▸ h3) fun s' hs' => hJ _ ⟨s', i + 1, by rw [wrap64 (by omega)], by omega, by omega, ?_⟩ ?_
    · rw [show (i + 1).toNat = i.toNat + 1 by omega]; exact hs'
    · rw [hidx, hidx, wrap64 (by omega)]; omega
  · have : l.drop i.toNat = [] := List.drop_eq_nil_of_le (by omega)
    rw [this] at h3
    exact hend s i J (by omega) h3
theorem run18 : RunC C18 6 28 [4] [29, 29] W18 [] := by
  intro (x : api_Attrs) hx (y : api_Attrs) hy _
  have hc : x.fComms.length ≤ 9223372036854775807 := hx.2.1.1
  have hr : x.fRaws.length ≤ 9223372036854775807 := hx.2.2.1.1
  refine of_eq (q18 x y _) ?_
  have hN : x ≠ y → false = S18 x y := fun h => (decide_eq_false h).symm
  have hne : ∀ {P : Prop}, (x = y → P) → ¬ P → x ≠ y := fun h hp e => hp (h e)
  refine bif_of (fun h => hN fun e => ?_) (fun h1 => bif_of (fun h => hN fun e => ?_) fun h2 => ?_)
  · subst e; simp at h
  · subst e; simp [S36] at h
  · simp only [Bool.or_eq_false_iff, Bool.not_eq_false', decide_eq_true_eq, S36] at h1 h2
    obtain ⟨⟨⟨⟨⟨e1, e2⟩, e3⟩, e4⟩, e5⟩, e6⟩ := h2
    have hN1 : x.fComms ≠ y.fComms → false = S18 x y := fun h => hN fun e => h (by rw [e])
    have hN2 : x.fRaws ≠ y.fRaws → false = S18 x y := fun h => hN fun e => h (by rw [e])
    refine cmpLoop hc (by omega) (fun h => ?_) hN1 fun i J h1 h2 h3 hJ hn => ⟨⟨h1, h2⟩, ⟨h1, h3⟩, bif_of (fun e => hn (by simpa using e)) (fun e => hJ (by simpa using e))⟩
    refine cmpLoop hr (by omega) (fun h' => ?_) hN2 fun i J k1 k2 k3 hJ hn => ⟨⟨k1, k2⟩, ⟨k1, k3⟩, fun _ => ⟨k1, k2⟩, fun _ => ⟨k1, k3⟩, fun _ => ⟨k1, k2⟩, fun _ => ⟨k1, k3⟩, bif_of (fun e => hn fun h => by rw [h] at e; simp at e) (fun e => bif_of (fun e2 => hn fun h => by rw [h] at e2; simp [S15] at e2) (fun e2 => hJ ?_))⟩
    · refine (decide_eq_true ?_).symm
      cases x; cases y; simp_all
    · simp only [Bool.or_eq_false_iff, Bool.not_eq_false', decide_eq_true_eq, S15] at e e2
      revert e e2
      generalize ix x.fRaws i = r
      generalize ix y.fRaws i = s
      intro e e2
      cases r; cases s; simp_all
theorem ok18 : Ok18 := con_ok (C := C18) (kok_cons ok15 (kk1 ok36)) mx7 (by kernel_rfl) run18
theorem rawsEq_len : ∀ {x y : List api_Raw}, rawsEq x y = true → x.length = y.length
  | [], [], _ => rfl
  | _ :: x, _ :: y, h => by simp only [rawsEq, Bool.and_eq_true] at h; simp [rawsEq_len h.2]
  | [], _ :: _, h => by cases h
  | _ :: _, [], h => by cases h
theorem run27 : RunC C27 6 59 [4] [22] W27 [] := by
  intro (x : Int) hx _
  exact of_eq (q27 x _) rfl
theorem ok27 : Ok27 := con_ok (C := C27) kok_nil mx7 (by kernel_rfl) run27
theorem run62 : RunC C62 6 70 [35] [35] W62 [] := by
  intro (x : List Int) hx hp
  have hp : x.length ≤ 140737488355328 := hp _ rfl
  refine of_eq (q62 x _) ?_
  intro v hv
  refine bif_of (fun h => ?_) (fun h => ⟨⟨rfl, by show (0 + x.length) * 1 ≤ 140737488355328; omega⟩, fun y hy => hy⟩)
  by_cases hx : x = []
  · rw [hx]; rfl
  · rw [hv hx] at h; cases h
theorem ok62 : Ok62 := con_ok (C := C62) kok_nil mx7 (by kernel_rfl) run62
theorem run28 : RunC C28 6 60 [4] [37] W28 [] := by
  intro (x : api_Raw) hx _
  refine of_eq (q28 x _) ?_
  refine bif_of (fun h => ?_) (fun h => bif_of (fun h2 => ?_) (fun h2 => ?_))
  · have h := of_decide_eq_true h; simp [S28, h]
  · have h := of_decide_eq_false h; have h2 := of_decide_eq_true h2; simp [S28, h2]
  · have h := of_decide_eq_false h; have h2 := of_decide_eq_false h2; simp [S28, h, h2]
theorem ok28 : Ok28 := con_ok (C := C28) kok_nil mx7 (by kernel_rfl) run28
theorem run25 : RunC C25 6 41 [35] [3] W25 [] := by
  intro (x : Int) hx _
  refine of_eq (q25 x _) ⟨by simp, fun y hy => hy⟩
theorem ok25 : Ok25 := con_ok (C := C25) kok_nil mx7 (by kernel_rfl) run25
theorem smallP_big (l : List api_Segment) {n : Int} (h : ¬ n < 3000) : smallP l n = n := by cases l <;> simp [smallP, h]
theorem smallR_big (l : List api_Raw) {n : Int} (h : ¬ n < 3000) : smallR l n = n := by cases l <;> simp [smallR, h]
theorem run26 : RunC C26 6 58 [4] [25] W26 [] := by
  intro (x : List api_Segment) hx _
  have hp : x.length ≤ 9223372036854775807 := hx.1.1
  refine of_eq (q26 x (S26 x)) ?_
  generalize hv : S26 x = v
  unfold S26 at hv
  refine listLoop (l := x) hp (fun (n : Int) i => (n, i)) (fun y => y.2) (fun _ _ => rfl) (fun i r n => goodP r n = v) hv ?_ ?_
  · rintro n i s r J k1 k2 k3 k4 k5 k6 hJ
    refine bif_of (fun _ => ⟨⟨k1, k2⟩, ?_⟩) (fun h => absurd k2 (of_decide_eq_false h))
    simp only [k3]
    simp only [goodP] at k6
    refine bif_of (fun h => ?_) (fun h => ?_)
    · rw [if_pos (by simp only [Bool.or_eq_true, decide_eq_true_eq] at h; omega)] at k6
      exact k6
    · rw [if_neg (by simp only [Bool.or_eq_false_iff, decide_eq_false_iff_not] at h; omega)] at k6
      have hs : s.fAS.length ≤ 9223372036854775807 := by simp only [Bool.or_eq_false_iff, decide_eq_false_iff_not] at h; omega
      refine listLoop (l := s.fAS) hs (fun (_ : Unit) i => i) id (fun _ _ => rfl) (fun i r' _ => (s.fAS.all asOk = r'.all asOk)) (s0 := ()) rfl ?_ ?_
      · rintro _ j a r' J' j1 j2 j3 j4 j5 j6 hJ'
        refine bif_of (fun _ => ⟨⟨j1, j2⟩, ?_⟩) (fun h => absurd j2 (of_decide_eq_false h))
        simp only [j3]
        refine bif_of (fun h => bif_of (fun _ => ?_) (fun h => absurd j1 (of_decide_eq_false h))) (fun h => hJ' () ?_)
        · have : asOk a = false := by unfold asOk; simp at h ⊢; omega
          rw [j6] at k6
          simp only [List.all_cons, this, Bool.false_and] at k6
          rw [if_neg (by simp)] at k6
          exact k6
        · have : asOk a = true := by unfold asOk; simp at h ⊢; omega
          rw [j6]
          simp [this]
      · rintro _ j J' rfl j6
        refine bif_of (fun h => absurd (of_decide_eq_true h) (by simp)) (fun _ => hJ _ ?_)
        rw [j6] at k6
        simp only [List.all_nil, if_true] at k6
        exact k6
  · rintro n i J rfl h
    exact bif_of (fun h => absurd (of_decide_eq_true h) (by simp)) (fun _ => h)
theorem ok26 : Ok26 := con_ok (C := C26) kok_nil mx7 (by kernel_rfl) run26
theorem run13 : RunC C13 6 37 [4] [29] W13 [] := by
  intro (x : api_Attrs) hx _
  have hr : x.fRaws.length ≤ 9223372036854775807 := hx.2.2.1.1
  refine of_eq (q13 x (S13 x)) ?_
  refine bif_of (fun h => ?_) (fun h1 => bif_of (fun h => ?_) fun h2 => bif_of (fun h => ?_) fun h3 => ?_)
  · simp [S13, h]
  · simp only [Bool.not_eq_true'] at h; simp [S13, h]
  · simp only [Bool.or_eq_true, Bool.not_eq_true'] at h; rcases h with h | h <;> simp [S13, h]
  · simp only [Bool.or_eq_false_iff, Bool.not_eq_false'] at h2 h3
    have hv : S13 x = (rawsUp none x.fRaws && (decide (-1 ≤ x.fMed) && decide (x.fMed ≤ 4294967295) && decide (-1 ≤ x.fPref) && decide (x.fPref ≤ 4294967295))) := by simp [S13, h1, h2, h3]
    rw [hv]
    generalize (decide (-1 ≤ x.fMed) && decide (x.fMed ≤ 4294967295) && decide (-1 ≤ x.fPref) && decide (x.fPref ≤ 4294967295)) = e
    refine listLoop (l := x.fRaws) hr (fun (_ : Unit) i => i) id (fun _ _ => rfl) (fun i r _ => rawsUp none x.fRaws = rawsUp (if i = 0 then none else some (ix x.fRaws (i - 1)).fType) r) (s0 := ()) rfl ?_ ?_
    · rintro _ i s r J k1 k2 k3 k4 k5 k6 hJ
      refine bif_of (fun _ => ⟨⟨k1, k2⟩, fun _ h => ?_, ?_⟩) (fun h => absurd k2 (of_decide_eq_false h))
      · have h := of_decide_eq_true h
        rw [wrap64 (by omega)]
        exact ⟨by omega, by omega⟩
      · rw [wrap64 (by omega)]
        simp only [k3]
        refine bif_of (fun h => ?_) (fun h => hJ () ?_)
        · have : rawsUp none x.fRaws = false := by
            rw [k6]
            simp only [Bool.or_eq_true, Bool.not_eq_true', Bool.and_eq_true, decide_eq_true_eq] at h
            rcases h with h | ⟨h, h'⟩
            · simp [rawsUp, h]
            · rw [if_neg (by omega)]
              have : ¬ (ix x.fRaws (i - 1)).fType < s.fType := by omega
              simp [rawsUp, this]
          rw [this]; rfl
        · have e1 : (if i + 1 = 0 then none else some (ix x.fRaws (i + 1 - 1)).fType) = some s.fType := by rw [if_neg (by omega), show i + 1 - 1 = i by omega, k3]
          rw [k6, e1]
          simp only [Bool.or_eq_false_iff, Bool.not_eq_false', Bool.and_eq_false_iff, decide_eq_false_iff_not] at h
          by_cases hi : i = 0
          · rw [if_pos hi]; simp [rawsUp, h.1]
          · rw [if_neg hi]
            have : (ix x.fRaws (i - 1)).fType < s.fType := by omega
            simp [rawsUp, h.1, this]
    · rintro _ i J rfl h
      refine bif_of (fun h => absurd (of_decide_eq_true h) (by simp)) (fun _ => ?_)
      rw [h]; simp [rawsUp]
theorem ok13 : Ok13 := con_ok (C := C13) (kok_cons ok27 (kok_cons ok26 (kk1 ok28))) mx7 (by kernel_rfl) run13
end Go.Rx
namespace Go.Rx
open Go.Ab Go.L7 Go.L21
set_option maxRecDepth 100000
set_option maxHeartbeats 20000000
set_option linter.unusedVariables false
/-- slices.Clone[[]int,int] -/
noncomputable def C593 : Cfg S := { P := P7, inl := [], K := [], ann := [] }
abbrev W593 : CT S [32] [32] := (fun x0 => (some (P593 x0), S593 x0))
abbrev Ok593 : Prop := ConOk P7 93 (ctr P7 [32] [32] W593) ∧ ConMon (ctr P7 [32] [32] W593)
theorem q593 (x0 : List Int) (v : HR S [32]) : (Xf C593 6 (emp 0) 93 (argsA C593 [⟨32, x0⟩]) (emp 0) (fun r _ => isR C593.P [32] v r) (fun _ _ => False)) = (∀
 (v_1 : Bool), (x0 ≠ [] → v_1 = false) → bif v_1 then [] = v else (nat_lit 0 = nat_lit 0 ∧ (nat_lit 0 + x0.length) * nat_lit 8 ≤ nat_lit 140737488355328) ∧ ∀
 (y : List (Int)), y = [] ++ x0 → y = v) := by kernel_rfl
end Go.Rx
namespace Go.Rx
open Go.Ab Go.L7 Go.L21
set_option maxRecDepth 100000
set_option maxHeartbeats 20000000
set_option linter.unusedVariables false
/-- slices.Clip[[]int,int] -/
noncomputable def C592 : Cfg S := { P := P7, inl := [], K := [], ann := [] }
abbrev W592 : CT S [32] [32] := (fun x0 => (none, S592 x0))
abbrev Ok592 : Prop := ConOk P7 92 (ctr P7 [32] [32] W592) ∧ ConMon (ctr P7 [32] [32] W592)
theorem q592 (x0 : List Int) (v : HR S [32]) : (Xf C592 6 (emp 0) 92 (argsA C592 [⟨32, x0⟩]) (emp 0) (fun r _ => isR C592.P [32] v r) (fun _ _ => False)) =
 (((↑x0.length : Int) = (↑x0.length : Int) ∧ (0 : Int) ≤ (0 : Int) ∧ (0 : Int) ≤ (↑x0.length : Int) ∧ (↑x0.length : Int) ≤ (↑x0.length : Int)) ∧ sub x0 (0 :
 Int) (↑x0.length : Int) = v) := by kernel_rfl
end Go.Rx
namespace Go.Rx
open Go.Ab Go.L7 Go.L21
set_option maxRecDepth 100000
set_option maxHeartbeats 20000000
set_option linter.unusedVariables false
/-- slices.Clone[[]uint32,uint32] -/
noncomputable def C569 : Cfg S := { P := P7, inl := [], K := [], ann := [] }
abbrev W569 : CT S [26] [26] := (fun x0 => (some (P569 x0), S569 x0))
abbrev Ok569 : Prop := ConOk P7 69 (ctr P7 [26] [26] W569) ∧ ConMon (ctr P7 [26] [26] W569)
theorem q569 (x0 : List Int) (v : HR S [26]) : (Xf C569 6 (emp 0) 69 (argsA C569 [⟨26, x0⟩]) (emp 0) (fun r _ => isR C569.P [26] v r) (fun _ _ => False)) = (∀
 (v_1 : Bool), (x0 ≠ [] → v_1 = false) → bif v_1 then [] = v else (nat_lit 0 = nat_lit 0 ∧ (nat_lit 0 + x0.length) * nat_lit 4 ≤ nat_lit 140737488355328) ∧ ∀
 (y : List (Int)), y = [] ++ x0 → y = v) := by kernel_rfl
end Go.Rx
namespace Go.Rx
open Go.Ab Go.L7 Go.L21
set_option maxRecDepth 100000
set_option maxHeartbeats 20000000
set_option linter.unusedVariables false
/-- slices.Clip[[]uint32,uint32] -/
noncomputable def C568 : Cfg S := { P := P7, inl := [], K := [], ann := [] }
abbrev W568 : CT S [26] [26] := (fun x0 => (none, S568 x0))
abbrev Ok568 : Prop := ConOk P7 68 (ctr P7 [26] [26] W568) ∧ ConMon (ctr P7 [26] [26] W568)
theorem q568 (x0 : List Int) (v : HR S [26]) : (Xf C568 6 (emp 0) 68 (argsA C568 [⟨26, x0⟩]) (emp 0) (fun r _ => isR C568.P [26] v r) (fun _ _ => False)) =
 (((↑x0.length : Int) = (↑x0.length : Int) ∧ (0 : Int) ≤ (0 : Int) ∧ (0 : Int) ≤ (↑x0.length : Int) ∧ (↑x0.length : Int) ≤ (↑x0.length : Int)) ∧ sub x0 (0 :
 Int) (↑x0.length : Int) = v) := by kernel_rfl
end Go.Rx
namespace Go.Rx
open Go.Ab Go.L7 Go.L21
set_option maxRecDepth 100000
set_option maxHeartbeats 20000000
set_option linter.unusedVariables false
/-- slices.Clip[[]interregnum/api.Segment,interregnum/api.Segment] -/
noncomputable def C594 : Cfg S := { P := P7, inl := [], K := [], ann := [] }
abbrev W594 : CT S [25] [25] := (fun x0 => (none, S594 x0))
abbrev Ok594 : Prop := ConOk P7 94 (ctr P7 [25] [25] W594) ∧ ConMon (ctr P7 [25] [25] W594)
theorem q594 (x0 : List api_Segment) (v : HR S [25]) : (Xf C594 6 (emp 0) 94 (argsA C594 [⟨25, x0⟩]) (emp 0) (fun r _ => isR C594.P [25] v r) (fun _ _ =>
 False)) = (((↑x0.length : Int) = (↑x0.length : Int) ∧ (0 : Int) ≤ (0 : Int) ∧ (0 : Int) ≤ (↑x0.length : Int) ∧ (↑x0.length : Int) ≤ (↑x0.length : Int)) ∧ sub
 x0 (0 : Int) (↑x0.length : Int) = v) := by kernel_rfl
end Go.Rx
namespace Go.Rx
open Go.Ab Go.L7 Go.L21
set_option maxRecDepth 100000
set_option maxHeartbeats 20000000
set_option linter.unusedVariables false
/-- slices.Clip[[]interregnum/api.Raw,interregnum/api.Raw] -/
noncomputable def C571 : Cfg S := { P := P7, inl := [], K := [], ann := [] }
abbrev W571 : CT S [27] [27] := (fun x0 => (none, S571 x0))
abbrev Ok571 : Prop := ConOk P7 71 (ctr P7 [27] [27] W571) ∧ ConMon (ctr P7 [27] [27] W571)
theorem q571 (x0 : List api_Raw) (v : HR S [27]) : (Xf C571 6 (emp 0) 71 (argsA C571 [⟨27, x0⟩]) (emp 0) (fun r _ => isR C571.P [27] v r) (fun _ _ => False)) =
 (((↑x0.length : Int) = (↑x0.length : Int) ∧ (0 : Int) ≤ (0 : Int) ∧ (0 : Int) ≤ (↑x0.length : Int) ∧ (↑x0.length : Int) ≤ (↑x0.length : Int)) ∧ sub x0 (0 :
 Int) (↑x0.length : Int) = v) := by kernel_rfl
end Go.Rx
namespace Go.Rx
open Go.Ab Go.L7 Go.L21
set_option maxRecDepth 100000
set_option maxHeartbeats 20000000
set_option linter.unusedVariables false
/-- interregnum/path.Own -/
noncomputable def C567 : Cfg S := { P := P7, inl := [], K := [(93, ctr P7 [32] [32] (fun x0 => (some (P593 x0), S593 x0))), (92, ctr P7 [32] [32] (fun x0 => (none, S592 x0))), (94, ctr P7 [25] [25] (fun x0 => (none, S594 x0)))], ann := [(67, [(3, .loop [(.sl 3, .own 34), (.sl 8, .int .i64)])])] }
abbrev W567 : CT S [25] [25] := (fun x0 => (some (P567 x0), S567 x0))
abbrev Ok567 : Prop := ConOk P7 67 (ctr P7 [25] [25] W567) ∧ ConMon (ctr P7 [25] [25] W567)
theorem q567 (x0 : List api_Segment) (v : HR S [25]) : (Xf C567 6 (emp 0) 67 (argsA C567 [⟨25, x0⟩]) (emp 0) (fun r _ => isR C567.P [25] v r) (fun _ _ =>
 False)) = (LOOP (fun (h : List api_Segment × Int) (J : List api_Segment × Int → Prop) => bif decide (h.snd < (↑x0.length : Int)) then ((0 : Int) ≤ h.snd ∧
 h.snd < (↑x0.length : Int)) ∧ (ix x0 h.snd).fAS.length.le (nat_lit 1099511627776) ∧ (h.fst.length = h.fst.length ∧ (h.fst.length + [api_Segment.mk (ix x0
 h.snd).fSet (S592 (S593 (ix x0 h.snd).fAS))].length) * nat_lit 32 ≤ nat_lit 140737488355328) ∧ ∀ (y : List (api_Segment)), y = h.fst ++ [api_Segment.mk (ix x0
 h.snd).fSet (S592 (S593 (ix x0 h.snd).fAS))] → y.length = y.length ∧ J (y, IntKind.i64.wrap (h.snd + (1 : Int))) else S594 h.fst = v) ([], (0 : Int))) := by
 kernel_rfl
end Go.Rx
namespace Go.Rx
open Go.Ab Go.L7 Go.L21
set_option maxRecDepth 100000
set_option maxHeartbeats 20000000
set_option linter.unusedVariables false
/-- interregnum/attr.Own -/
noncomputable def C544 : Cfg S := { P := P7, inl := [], K := [(70, ctr P7 [35] [35] (fun x0 => (some (P62 x0), S62 x0))), (69, ctr P7 [26] [26] (fun x0 => (some (P569 x0), S569 x0))), (68, ctr P7 [26] [26] (fun x0 => (none, S568 x0))), (71, ctr P7 [27] [27] (fun x0 => (none, S571 x0))), (67, ctr P7 [25] [25] (fun x0 => (some (P567 x0), S567 x0)))], ann := [(44, [(4, .loop [(.sl 3, .own 37), (.sl 18, .int .i64)])])] }
abbrev W544 : CT S [29] [29] := (fun x0 => (some (P544 x0), S544 x0))
abbrev Ok544 : Prop := ConOk P7 44 (ctr P7 [29] [29] W544) ∧ ConMon (ctr P7 [29] [29] W544)
theorem q544 (x0 : api_Attrs) (v : HR S [29]) : (Xf C544 6 (emp 0) 44 (argsA C544 [⟨29, x0⟩]) (emp 0) (fun r _ => isR C544.P [29] v r) (fun _ _ => False)) =
 ((x0.fPath.length ≤ nat_lit 1099511627776 ∧ ∀ (s : api_Segment), List.Mem s x0.fPath → s.fAS.length ≤ nat_lit 1099511627776) ∧ x0.fComms.length.le (nat_lit
 1099511627776) ∧ LOOP (fun (h : List api_Raw × Int) (J : List api_Raw × Int → Prop) => bif decide (h.snd < (↑x0.fRaws.length : Int)) then ((0 : Int) ≤ h.snd ∧
 h.snd < (↑x0.fRaws.length : Int)) ∧ (ix x0.fRaws h.snd).fData.length.le (nat_lit 140737488355328) ∧ (h.fst.length = h.fst.length ∧ (h.fst.length + [api_Raw.mk
 (ix x0.fRaws h.snd).fFlags (ix x0.fRaws h.snd).fType (S62 (ix x0.fRaws h.snd).fData)].length) * nat_lit 40 ≤ nat_lit 140737488355328) ∧ ∀ (y : List
 (api_Raw)), y = h.fst ++ [api_Raw.mk (ix x0.fRaws h.snd).fFlags (ix x0.fRaws h.snd).fType (S62 (ix x0.fRaws h.snd).fData)] → y.length = y.length ∧ J (y,
 IntKind.i64.wrap (h.snd + (1 : Int))) else api_Attrs.mk x0.fOrigin (S567 x0.fPath) x0.fNext x0.fMed x0.fPref (S568 (S569 x0.fComms)) (S571 h.fst) = v) ([], (0
 : Int))) := by kernel_rfl
end Go.Rx
namespace Go.Rx
open Go.Ab Go.L7 Go.L21
set_option maxRecDepth 100000
set_option maxHeartbeats 20000000
set_option linter.unusedVariables false
/-- interregnum/route.Own -/
noncomputable def C522 : Cfg S := { P := P7, inl := [], K := [(44, ctr P7 [29] [29] (fun x0 => (some (P544 x0), S544 x0)))], ann := [] }
abbrev W522 : CT S [31] [31] := (fun x0 => (some (P522 x0), S522 x0))
abbrev Ok522 : Prop := ConOk P7 22 (ctr P7 [31] [31] W522) ∧ ConMon (ctr P7 [31] [31] W522)
theorem q522 (x0 : api_Route) (v : HR S [31]) : (Xf C522 6 (emp 0) 22 (argsA C522 [⟨31, x0⟩]) (emp 0) (fun r _ => isR C522.P [31] v r) (fun _ _ => False)) =
 (FitA x0.fAttrs ∧ x0 = v) := by kernel_rfl
end Go.Rx
/-! Memory of one's own: the same values. -/
namespace Go.Rx
open Go.Ab Go.L7 Go.L21
set_option linter.unusedVariables false
set_option maxRecDepth 100000
theorem sub_all {α : Type} (l : List α) : sub l 0 (l.length : Int) = l := by
  unfold sub; rw [Int.toNat_natCast, List.take_of_length_le (Nat.le_refl _)]; rfl
theorem run593 : RunC C593 6 93 [32] [32] W593 [] := by
  intro (x : List Int) hx hp
  have hp : x.length ≤ 1099511627776 := hp _ rfl
  refine of_eq (q593 x _) ?_
  intro v hv
  refine bif_of (fun h => ?_) (fun h => ⟨⟨rfl, by show (0 + x.length) * 8 ≤ 140737488355328; omega⟩, fun y hy => hy⟩)
  by_cases hx : x = []
  · rw [hx]; rfl
  · rw [hv hx] at h; cases h
theorem ok593 : Ok593 := con_ok (C := C593) kok_nil mx7 (by kernel_rfl) run593
theorem run569 : RunC C569 6 69 [26] [26] W569 [] := by
  intro (x : List Int) hx hp
  have hp : x.length ≤ 1099511627776 := hp _ rfl
  refine of_eq (q569 x _) ?_
  intro v hv
  refine bif_of (fun h => ?_) (fun h => ⟨⟨rfl, ?_⟩, fun y hy => hy⟩)
  · by_cases hx : x = []
    · rw [hx]; rfl
    · rw [hv hx] at h; cases h
  · show (0 + x.length) * 4 ≤ 140737488355328
    omega
theorem ok569 : Ok569 := con_ok (C := C569) kok_nil mx7 (by kernel_rfl) run569
theorem run592 : RunC C592 6 92 [32] [32] W592 [] := by
  intro (x : List Int) hx hp
  exact of_eq (q592 x _) ⟨⟨rfl, Int.le_refl _, by omega, Int.le_refl _⟩, sub_all x⟩
theorem ok592 : Ok592 := con_ok (C := C592) kok_nil mx7 (by kernel_rfl) run592
theorem run568 : RunC C568 6 68 [26] [26] W568 [] := by
  intro (x : List Int) hx hp
  exact of_eq (q568 x _) ⟨⟨rfl, Int.le_refl _, by omega, Int.le_refl _⟩, sub_all x⟩
theorem ok568 : Ok568 := con_ok (C := C568) kok_nil mx7 (by kernel_rfl) run568
theorem run594 : RunC C594 6 94 [25] [25] W594 [] := by
  intro (x : List api_Segment) hx hp
  exact of_eq (q594 x _) ⟨⟨rfl, Int.le_refl _, by omega, Int.le_refl _⟩, sub_all x⟩
theorem ok594 : Ok594 := con_ok (C := C594) kok_nil mx7 (by kernel_rfl) run594
theorem run571 : RunC C571 6 71 [27] [27] W571 [] := by
  intro (x : List api_Raw) hx hp
  exact of_eq (q571 x _) ⟨⟨rfl, Int.le_refl _, by omega, Int.le_refl _⟩, sub_all x⟩
theorem ok571 : Ok571 := con_ok (C := C571) kok_nil mx7 (by kernel_rfl) run571
theorem run567 : RunC C567 6 67 [25] [25] W567 [] := by
  intro (x : List api_Segment) hx hp
  obtain ⟨h1, h2⟩ : P567 x := hp _ rfl
  refine of_eq (q567 x _) ?_
  refine listLoop (l := x) (by omega) (fun (s : List api_Segment) i => (s, i)) (fun y => y.2) (fun _ _ => rfl) (fun i r s => s ++ r = x) rfl ?_ ?_
  · rintro s i y r J k1 k2 k3 k4 k5 k6 hJ
    have k6 : s ++ y :: r = x := k6
    have hlen : s.length + (r.length + 1) = x.length := by rw [← k6, List.length_append, List.length_cons]
    refine bif_of (fun h => ⟨⟨k1, k2⟩, ?_⟩) (fun h => ?_)
    · simp only [k3]
      refine ⟨h2 y k4, ⟨trivial, ?_⟩, fun z hz => ⟨trivial, ?_⟩⟩
      · show (s.length + 1) * 32 ≤ 140737488355328
        omega
      · subst hz
        exact hJ _ (by rw [List.append_assoc]; exact k6)
    · simp only [decide_eq_false_iff_not] at h; omega
  · rintro s i J rfl h
    have h : s ++ [] = x := h
    rw [List.append_nil] at h
    refine bif_of (fun h => ?_) (fun _ => h)
    simp only [decide_eq_true_eq] at h; omega
theorem ok567 : Ok567 := by
  refine con_ok (C := C567) (kok_cons ok593 (kok_cons ok592 (kk1 ok594))) mx7 (by kernel_rfl) run567
theorem run544 : RunC C544 6 44 [29] [29] W544 [] := by
  intro (x : api_Attrs) hx hp
  obtain ⟨h1, h2, h3, h4, h5⟩ : FitA x := hp _ rfl
  refine of_eq (q544 x _) ⟨⟨by show _ ≤ 1099511627776; omega, fun s hs => by have := h4 s hs; show _ ≤ 1099511627776; omega⟩, by show _ ≤ 1099511627776; omega, ?_⟩
  refine listLoop (l := x.fRaws) (by omega) (fun (s : List api_Raw) i => (s, i)) (fun y => y.2) (fun _ _ => rfl) (fun i r s => s ++ r = x.fRaws) rfl ?_ ?_
  · rintro s i y r J k1 k2 k3 k4 k5 k6 hJ
    have k6 : s ++ y :: r = x.fRaws := k6
    have hlen : s.length + (r.length + 1) = x.fRaws.length := by rw [← k6, List.length_append, List.length_cons]
    refine bif_of (fun h => ⟨⟨k1, k2⟩, ?_⟩) (fun h => ?_)
    · simp only [k3]
      refine ⟨?_, ⟨trivial, ?_⟩, fun z hz => ⟨trivial, ?_⟩⟩
      · have := h5 y k4; show _ ≤ 140737488355328; omega
      · show (s.length + 1) * 40 ≤ 140737488355328
        omega
      · subst hz
        exact hJ _ (by rw [List.append_assoc]; exact k6)
    · simp only [decide_eq_false_iff_not] at h; omega
  · rintro s i J rfl h
    have h : s ++ [] = x.fRaws := h
    rw [List.append_nil] at h
    refine bif_of (fun h => ?_) (fun _ => by subst h; rfl)
    simp only [decide_eq_true_eq] at h; omega
theorem ok544 : Ok544 := by
  refine con_ok (C := C544) (kok_cons ok62 (kok_cons ok569 (kok_cons ok568 (kok_cons ok571 (kk1 ok567))))) mx7 (by kernel_rfl) run544
theorem run522 : RunC C522 6 22 [31] [31] W522 [] := by
  intro (x : api_Route) hx hp
  exact of_eq (q522 x _) ⟨hp _ rfl, rfl⟩
theorem ok522 : Ok522 := by
  refine con_ok (C := C522) (kk1 ok544) mx7 (by kernel_rfl) run522
end Go.Rx
namespace Go.Rx
open Go.Ab Go.L7 Go.L21
set_option maxRecDepth 100000
set_option maxHeartbeats 20000000
set_option linter.unusedVariables false
/-- (*interregnum/row.reader).text -/
noncomputable def C358 : Cfg S := { P := P7, inl := [], K := [], ann := [] }
noncomputable abbrev W358 : S.A 67 → CTB S 67 [9] [] := (fun z => (none, (S358 z).1, (S358 z).2))
abbrev Ok358 : Prop := ConOk P7 21 (ctb (S := S) P7 67 [] [9] W358) ∧ ConMon (ctb (S := S) P7 67 [] [9] W358)
theorem q358 (z : row_reader) (v : HR S [9]) (y : row_reader) : (Xf C358 6 (emp 1) 21 (.loc 0 0 :: argsA C358 []) (boxS 67 z) (fun r m => isR C358.P [9] v r ∧
 isB 67 y m) (fun _ _ => False)) = (bif decide ((↑z.flist.length : Int) = (0 : Int)) then ByteArray.mk #[] = v ∧ row_reader.mk z.flist true = y else ((0 : Int)
 ≤ (0 : Int) ∧ (0 : Int) < (↑z.flist.length : Int)) ∧ ((0 : Int) ≤ (1 : Int) ∧ (1 : Int) ≤ (↑z.flist.length : Int) ∧ (↑z.flist.length : Int) ≤ (↑z.flist.length
 : Int)) ∧ ix z.flist (0 : Int) = v ∧ row_reader.mk (sub z.flist (1 : Int) (↑z.flist.length : Int)) z.fbad = y) := by kernel_rfl
end Go.Rx
namespace Go.Rx
open Go.Ab Go.L7 Go.L21
set_option maxRecDepth 100000
set_option maxHeartbeats 20000000
set_option linter.unusedVariables false
/-- (*interregnum/row.reader).num -/
noncomputable def C344 : Cfg S := { P := P7, inl := [], K := [(30, ctr P7 [9] [3, 76] (fun x0 => (some (P337 x0), S337 x0))), (21, ctb (S := S) P7 67 [] [9] (fun z => (none, (S358 z).1, (S358 z).2)))], ann := [] }
noncomputable abbrev W344 : S.A 67 → CTB S 67 [3] [] := (fun z => (some (P344 z), (S344 z).1, (S344 z).2))
abbrev Ok344 : Prop := ConOk P7 19 (ctb (S := S) P7 67 [] [3] W344) ∧ ConMon (ctb (S := S) P7 67 [] [3] W344)
theorem q344 (z : row_reader) (v : HR S [3]) (y : row_reader) : (Xf C344 6 (emp 1) 19 (.loc 0 0 :: argsA C344 []) (boxS 67 z) (fun r m => isR C344.P [3] v r ∧
 isB 67 y m) (fun _ _ => False)) = (∀ (u : row_reader), u = (S358 z).snd → (S358 z).fst.size.le (nat_lit 281474976710656) ∧ (S337 (S358 z).fst).fst = v ∧
 row_reader.mk u.flist (u.fbad || (S337 (S358 z).fst).snd) = y) := by kernel_rfl
end Go.Rx
namespace Go.Rx
open Go.Ab Go.L7 Go.L21
set_option maxRecDepth 100000
set_option maxHeartbeats 20000000
set_option linter.unusedVariables false
/-- (*interregnum/row.reader).addr -/
noncomputable def C343 : Cfg S := { P := P7, inl := [], K := [(55, ctr P7 [9, 3, 3] [85, 76] (fun x0 x1 x2 => (some (P357 x0 x1 x2), S357 x0 x1 x2))), (21, ctb (S := S) P7 67 [] [9] (fun z => (none, (S358 z).1, (S358 z).2)))], ann := [] }
noncomputable abbrev W343 : S.A 67 → CTB S 67 [22] [] := (fun z => (some (P343 z), (S343 z).1, (S343 z).2))
abbrev Ok343 : Prop := ConOk P7 32 (ctb (S := S) P7 67 [] [22] W343) ∧ ConMon (ctb (S := S) P7 67 [] [22] W343)
theorem q343 (z : row_reader) (v : HR S [22]) (y : row_reader) : (Xf C343 6 (emp 1) 32 (.loc 0 0 :: argsA C343 []) (boxS 67 z) (fun r m => isR C343.P [22] v r
 ∧ isB 67 y m) (fun _ _ => False)) = (∀ (u : row_reader), u = (S358 z).snd → ((S358 z).fst.size ≤ nat_lit 281474976710656 ∧ (10 : Int) = (10 : Int) ∧ ((32 :
 Int) = (32 : Int) ∨ (32 : Int) = (64 : Int))) ∧ IntKind.u32.wrap (S357 (S358 z).fst (10 : Int) (32 : Int)).fst = v ∧ row_reader.mk u.flist (u.fbad || (S357
 (S358 z).fst (10 : Int) (32 : Int)).snd) = y) := by kernel_rfl
end Go.Rx
namespace Go.Rx
open Go.Ab Go.L7 Go.L21
set_option maxRecDepth 100000
set_option maxHeartbeats 20000000
set_option linter.unusedVariables false
/-- (*interregnum/row.reader).prefix -/
noncomputable def C342 : Cfg S := { P := P7, inl := [], K := [(19, ctb (S := S) P7 67 [] [3] (fun z => (some (P344 z), (S344 z).1, (S344 z).2))), (32, ctb (S := S) P7 67 [] [22] (fun z => (some (P343 z), (S343 z).1, (S343 z).2)))], ann := [] }
noncomputable abbrev W342 : S.A 67 → CTB S 67 [24] [] := (fun z => (some (P342 z), (S342 z).1, (S342 z).2))
abbrev Ok342 : Prop := ConOk P7 18 (ctb (S := S) P7 67 [] [24] W342) ∧ ConMon (ctb (S := S) P7 67 [] [24] W342)
theorem q342 (z : row_reader) (v : HR S [24]) (y : row_reader) : (Xf C342 6 (emp 1) 18 (.loc 0 0 :: argsA C342 []) (boxS 67 z) (fun r m => isR C342.P [24] v r
 ∧ isB 67 y m) (fun _ _ => False)) = (PR z ∧ ∀ (u : row_reader), u = (S343 z).snd → PR u ∧ ∀ (u_1 : row_reader), u_1 = (S344 u).snd → api_Prefix.mk (S343
 z).fst (S344 u).fst = v ∧ u_1 = y) := by kernel_rfl
end Go.Rx
/-! The reader of texts. -/
namespace Go.Rx
open Go.Ab Go.L21
set_option linter.unusedVariables false
set_option maxRecDepth 100000
theorem valI_ok (s : ByteArray) : P333 (valI s) := by
  unfold valI S337 P333
  generalize s.data.toList = l
  have hs : -9223372036854775808 ≤ Lib.atoiSat l ∧ Lib.atoiSat l ≤ 9223372036854775807 := by
    unfold Lib.atoiSat
    split <;> omega
  cases h : Lib.atoiAll l
  rotate_left
  · exact ⟨by show (-9223372036854775808 : Int) ≤ 0; omega, by show (0 : Int) ≤ _; omega⟩
  · exact hs
  · rename_i v
    show -9223372036854775808 ≤ v ∧ v ≤ 9223372036854775807
    unfold Lib.atoiAll at h
    split at h
    · cases h
    · split at h
      · cases h
      · cases h
      · rename_i u hu
        have := Lib.parseMag_lt hu
        simp only at h
        split at h
        · cases h
        · split at h
          · cases h
          · rename_i c r _ h1 h2
            simp only [Lib.NumEnd.ok.injEq] at h
            subst h
            by_cases hn : c.toNat = 45
            · rw [if_pos hn]
              have : ¬ (9223372036854775808 < u) := fun h => h2 ⟨hn, h⟩
              omega
            · rw [if_neg hn]
              have : ¬ (9223372036854775808 ≤ u) := fun h => h1 ⟨hn, h⟩
              omega
theorem parseM_le (M : Nat) : ∀ (l : List UInt8) (acc u : Nat), acc ≤ M → Lib.parseUintM M acc l = .ok u → u ≤ M
  | [], acc, u, ha, h => by cases h; exact ha
  | c :: r, acc, u, ha, h => by
    unfold Lib.parseUintM at h
    split at h
    · split at h
      · cases h
      · split at h
        · cases h
        · rename_i h3
          exact parseM_le M r _ u (by omega) h
    · cases h
theorem s357_range (s : ByteArray) : 0 ≤ valU s ∧ valU s ≤ 4294967295 := by
  unfold valU S357
  show 0 ≤ (endN (Lib.parseUintB 32 s.data.toList) (2 ^ 32 - 1)).1 ∧ (endN (Lib.parseUintB 32 s.data.toList) (2 ^ 32 - 1)).1 ≤ 4294967295
  cases h : Lib.parseUintB 32 s.data.toList
  rotate_left
  · exact ⟨by show (0 : Int) ≤ 0; omega, by show (0 : Int) ≤ _; omega⟩
  · exact ⟨by show (0 : Int) ≤ (2 ^ 32 - 1); omega, by show (2 ^ 32 - 1 : Int) ≤ _; omega⟩
  · rename_i v
    have : v ≤ 2 ^ 32 - 1 := by
      unfold Lib.parseUintB at h
      split at h
      · cases h
      · exact parseM_le _ _ 0 v (Nat.zero_le _) h
    exact ⟨by show (0 : Int) ≤ (v : Int); omega, by show (v : Int) ≤ _; omega⟩
theorem rText_cons (s : ByteArray) (l : List ByteArray) (b : Bool) : rText ⟨s :: l, b⟩ = (s, ⟨l, b⟩) := rfl
theorem rText_eq (r : row_reader) : (∀ x : Unit, r.flist = [] → rText r = (bs [], ⟨[], true⟩)) ∧ ∀ s l, r.flist = s :: l → rText r = (s, ⟨l, r.fbad⟩) := by
  obtain ⟨l, b⟩ := r
  exact ⟨fun _ h => by cases h; rfl, fun s l h => by cases h; rfl⟩
theorem run358 (z : row_reader) : RunB C358 6 21 67 [9] z [] (W358 z) [] := by
  intro _
  refine of_eq (q358 z _ _) ?_
  obtain ⟨l, b⟩ := z
  cases l with
  | nil => exact bif_of (fun _ => ⟨rfl, rfl⟩) (fun h => by simp at h)
  | cons s l =>
    refine bif_of (fun h => ?_) (fun h => ⟨⟨by omega, ?_⟩, ⟨by omega, ?_, by omega⟩, rfl, ?_⟩)
    · have h := of_decide_eq_true h
      simp only [List.length_cons] at h
      omega
    · simp only [List.length_cons]; omega
    · simp only [List.length_cons]; omega
    · rw [sub_drop _ (n := 1) rfl]
      rfl
theorem ok358 : Ok358 := bx_ok (C := C358) kok_nil mx7 (by kernel_rfl) fun x _ => run358 x
theorem pr_text {z : row_reader} (h : PR z) : (S358 z).1.size ≤ 1099511627776 ∧ PR (S358 z).2 := by
  obtain ⟨h⟩ := h
  obtain ⟨l, b⟩ := z
  cases l with
  | nil => exact ⟨by show (bs []).size ≤ _; rw [size_bs]; exact Nat.zero_le _, ⟨fun s hs => by cases hs⟩⟩
  | cons s l => exact ⟨h s List.mem_cons_self, ⟨fun t ht => h t (List.mem_cons_of_mem _ ht)⟩⟩
theorem s344 (z : row_reader) : S344 z = (valI (rText z).1, ⟨(rText z).2.flist, (rText z).2.fbad || (S337 (rText z).1).2⟩) := by
  unfold S344; rw [lk_eq]; rfl
theorem s343 (z : row_reader) : S343 z = (valU (rText z).1, ⟨(rText z).2.flist, (rText z).2.fbad || (S357 (rText z).1 10 32).2⟩) := by
  unfold S343; rw [lk_eq]; rfl
theorem s342 (z : row_reader) : S342 z = rPre z := by unfold S342; rw [lk_eq]
theorem pr_num {z : row_reader} (h : PR z) : PR (S344 z).2 := by
  rw [s344]; exact ⟨(pr_text h).2.1⟩
theorem pr_addr {z : row_reader} (h : PR z) : PR (S343 z).2 := by
  rw [s343]; exact ⟨(pr_text h).2.1⟩
theorem run344 (z : row_reader) : RunB C344 6 19 67 [3] z [] (W344 z) [] := by
  intro hp
  have h : PR z := hp _ rfl
  refine of_eq (q344 z _ _) fun u hu => ?_
  subst hu
  refine ⟨?_, ?_, ?_⟩
  · exact Nat.le_trans (pr_text h).1 (by decide)
  · show _ = (S344 z).1; rw [s344]; rfl
  · show _ = (S344 z).2; rw [s344]; rfl
theorem ok344 : Ok344 := bx_ok (C := C344) (kok_cons ok337 (kok_cons ok358 kok_nil)) mx7 (by kernel_rfl) fun x _ => run344 x
theorem run343 (z : row_reader) : RunB C343 6 32 67 [22] z [] (W343 z) [] := by
  intro hp
  have h : PR z := hp _ rfl
  refine of_eq (q343 z _ _) fun u hu => ?_
  subst hu
  refine ⟨⟨?_, rfl, .inl rfl⟩, ?_, ?_⟩
  · exact Nat.le_trans (pr_text h).1 (by decide)
  · show _ = (S343 z).1; rw [s343]; exact wrap32 (s357_range _)
  · show _ = (S343 z).2; rw [s343]; rfl
theorem ok343 : Ok343 := bx_ok (C := C343) (kok_cons ok357 (kok_cons ok358 kok_nil)) mx7 (by kernel_rfl) fun x _ => run343 x
theorem n344 (z : row_reader) : rNum z = S344 z := by rw [s344]; rfl
theorem n343 (z : row_reader) : rAddr z = S343 z := by rw [s343]; rfl
theorem n358 (z : row_reader) : rText z = S358 z := rfl
theorem r342 (z : row_reader) : S342 z = (⟨(S343 z).1, (S344 (S343 z).2).1⟩, (S344 (S343 z).2).2) := by
  rw [s342]
  show (((⟨(rAddr z).1, (rNum (rAddr z).2).1⟩ : api_Prefix), (rNum (rAddr z).2).2) : api_Prefix × row_reader) = _
  rw [n343, n344]
theorem run342 (z : row_reader) : RunB C342 6 18 67 [24] z [] (W342 z) [] := by
  intro hp
  have h : PR z := hp _ rfl
  refine of_eq (q342 z _ _) ⟨h, fun u hu => ⟨hu ▸ pr_addr h, fun w hw => ?_⟩⟩
  subst hu hw
  show _ = (S342 z).1 ∧ _ = (S342 z).2
  rw [r342]
  exact ⟨rfl, rfl⟩
theorem ok342 : Ok342 := bx_ok (C := C342) (kok_cons ok344 (kok_cons ok343 kok_nil)) mx7 (by kernel_rfl) fun x _ => run342 x
theorem pr_pre {z : row_reader} (h : PR z) : PR (S342 z).2 := by
  rw [s342]
  show PR (rNum (rAddr z).2).2
  rw [n343, n344]
  exact pr_num (pr_addr h)
end Go.Rx
namespace Go.Rx
open Go.Ab Go.L7 Go.L21
set_option maxRecDepth 100000
set_option maxHeartbeats 20000000
set_option linter.unusedVariables false
/-- interregnum/row.ReadHop -/
noncomputable def C320 : Cfg S := { P := P7, inl := [], K := [(10, ctr P7 [9] [45, 4] (fun x0 => (some (P315 x0), S315 x0))), (12, ctr P7 [49] [9] (fun x0 => (some (P319 x0), S319 x0))), (19, ctb (S := S) P7 67 [] [3] (fun z => (some (P344 z), (S344 z).1, (S344 z).2))), (32, ctb (S := S) P7 67 [] [22] (fun z => (some (P343 z), (S343 z).1, (S343 z).2))), (18, ctb (S := S) P7 67 [] [24] (fun z => (some (P342 z), (S342 z).1, (S342 z).2)))], ann := [] }
abbrev W320 : CT S [49, 4] [9] := (fun x0 => (some (P320 x0), S320 x0))
abbrev Ok320 : Prop := ConOk P7 11 (ctr P7 [9] [49, 4] W320) ∧ ConMon (ctr P7 [9] [49, 4] W320)
theorem q320 (x0 : ByteArray) (v : HR S [49, 4]) : (Xf C320 6 (emp 0) 11 (argsA C320 [⟨9, x0⟩]) (emp 0) (fun r _ => isR C320.P [49, 4] v r) (fun _ _ => False))
 = (x0.size.le (nat_lit 1099511627776) ∧ PR (row_reader.mk (S315 x0).fst (!(S315 x0).snd || !decide ((↑(S315 x0).fst.length : Int) = (5 : Int)))) ∧ ∀ (u :
 row_reader), u = (S342 (row_reader.mk (S315 x0).fst (!(S315 x0).snd || !decide ((↑(S315 x0).fst.length : Int) = (5 : Int))))).snd → PR u ∧ ∀ (u_1 :
 row_reader), u_1 = (S343 u).snd → PR u_1 ∧ ∀ (u_2 : row_reader), u_2 = (S344 u_1).snd → PR u_2 ∧ ∀ (u_3 : row_reader), u_3 = (S344 u_2).snd → bif u_3.fbad
 then (api_Hop.mk (api_Prefix.mk (0 : Int) (0 : Int)) (0 : Int) (0 : Int) (0 : Int), false) = v else (((0 : Int) ≤ (S342 (row_reader.mk (S315 x0).fst (!(S315
 x0).snd || !decide ((↑(S315 x0).fst.length : Int) = (5 : Int))))).fst.fAddr ∧ (S342 (row_reader.mk (S315 x0).fst (!(S315 x0).snd || !decide ((↑(S315
 x0).fst.length : Int) = (5 : Int))))).fst.fAddr ≤ (4294967295 : Int)) ∧ ((-9223372036854775808 : Int) ≤ (S342 (row_reader.mk (S315 x0).fst (!(S315 x0).snd ||
 !decide ((↑(S315 x0).fst.length : Int) = (5 : Int))))).fst.fLen ∧ (S342 (row_reader.mk (S315 x0).fst (!(S315 x0).snd || !decide ((↑(S315 x0).fst.length : Int)
 = (5 : Int))))).fst.fLen ≤ (9223372036854775807 : Int)) ∧ ((0 : Int) ≤ (S343 u).fst ∧ (S343 u).fst ≤ (4294967295 : Int)) ∧ ((-9223372036854775808 : Int) ≤
 (S344 u_1).fst ∧ (S344 u_1).fst ≤ (9223372036854775807 : Int)) ∧ (-9223372036854775808 : Int) ≤ (S344 u_2).fst ∧ (S344 u_2).fst ≤ (9223372036854775807 : Int))
 ∧ bif !(S319 (api_Hop.mk (S342 (row_reader.mk (S315 x0).fst (!(S315 x0).snd || !decide ((↑(S315 x0).fst.length : Int) = (5 : Int))))).fst (S343 u).fst (S344
 u_1).fst (S344 u_2).fst)).toList == x0.toList then (api_Hop.mk (api_Prefix.mk (0 : Int) (0 : Int)) (0 : Int) (0 : Int) (0 : Int), false) = v else (api_Hop.mk
 (S342 (row_reader.mk (S315 x0).fst (!(S315 x0).snd || !decide ((↑(S315 x0).fst.length : Int) = (5 : Int))))).fst (S343 u).fst (S344 u_1).fst (S344 u_2).fst,
 true) = v) := by kernel_rfl
end Go.Rx
/-! row.ReadHop. -/
namespace Go.Rx
open Go.Ab Go.L7 Go.L21
set_option linter.unusedVariables false
set_option maxRecDepth 100000
theorem rd344 {n : Int} (l : List ByteArray) (h : P333 n) : S344 ⟨S333 n :: l, false⟩ = (n, ⟨l, false⟩) := by
  rw [s344, rText_cons]; unfold valI; rw [s337_of h]; rfl
theorem rd343 {n : Int} (l : List ByteArray) (h : 0 ≤ n ∧ n ≤ 4294967295) : S343 ⟨S333 n :: l, false⟩ = (n, ⟨l, false⟩) := by
  rw [s343, rText_cons]; unfold valU; rw [s357_of h]; rfl
theorem rd342 {a n : Int} (l : List ByteArray) (ha : 0 ≤ a ∧ a ≤ 4294967295) (h : P333 n) : S342 ⟨S333 a :: S333 n :: l, false⟩ = (⟨a, n⟩, ⟨l, false⟩) := by
  rw [r342, rd343 _ ha, rd344 _ h]
theorem pr_of {l : List ByteArray} {b : Bool} (h : ∀ s ∈ l, s.size ≤ 1099511627776) : PR ⟨l, b⟩ := ⟨h⟩
theorem sz333 {n : Int} (h : P333 n) : (S333 n).size ≤ 1099511627776 := by
  have := itoa_len h
  unfold S333; rw [size_bs]; omega
theorem run320 : RunC C320 6 11 [49, 4] [9] W320 [] := by
  intro (x0 : ByteArray) _ hp
  obtain ⟨h, hk, rfl⟩ : ∃ h, okHop h ∧ x0 = S319 h := hp _ rfl
  refine of_eq (q320 (S319 h) _) ?_
  have e5 : S315 (S319 h) = (hopL h, true) := split_texts _
  have hl := hop_len hk
  have hbeq : ((S319 h).toList == (S319 h).toList) = true := beq_self_eq_true _
  obtain ⟨hA, hL, hN, hP, hS⟩ := id hk
  have hpA := p333 hA
  have hpN := p333 hN
  have hm : ∀ s ∈ hopL h, s.size ≤ 1099511627776 := by
    intro s hs
    simp only [hopL, List.mem_cons, List.not_mem_nil, or_false] at hs
    rcases hs with rfl | rfl | rfl | rfl | rfl
    · exact sz333 hpA
    · exact sz333 hL
    · exact sz333 hpN
    · exact sz333 hP
    · exact sz333 hS
  have e0 : (row_reader.mk (S315 (S319 h)).fst (!(S315 (S319 h)).snd || !decide (((S315 (S319 h)).fst.length : Int) = (5 : Int)))) = ⟨[S333 h.fPrefix.fAddr, S333 h.fPrefix.fLen, S333 h.fNext, S333 h.fPeer, S333 h.fStale], false⟩ := by
    rw [e5]; rfl
  have hsz : (S319 h).size ≤ 1099511627776 := by
    show (bs (textsL (hopL h))).size ≤ _
    rw [size_bs]; omega
  have hfin : S320 (S319 h) = (h, true) := by
    unfold S320 hopOf
    rw [e5]
    show ((⟨⟨valU (S333 _), valI (S333 _)⟩, valU (S333 _), valI (S333 _), valI (S333 _)⟩ : api_Hop), true) = _
    unfold valU valI
    rw [s357_of hA, s357_of hN, s337_of hL, s337_of hP, s337_of hS]
  show _ ∧ _
  rw [e0]
  have m2 : PR ⟨[S333 h.fNext, S333 h.fPeer, S333 h.fStale], false⟩ := pr_of fun s hs => hm s (List.mem_cons_of_mem _ (List.mem_cons_of_mem _ hs))
  have m3 : PR ⟨[S333 h.fPeer, S333 h.fStale], false⟩ := pr_of fun s hs => hm s (List.mem_cons_of_mem _ (List.mem_cons_of_mem _ (List.mem_cons_of_mem _ hs)))
  have m4 : PR ⟨[S333 h.fStale], false⟩ := pr_of fun s hs => hm s (List.mem_cons_of_mem _ (List.mem_cons_of_mem _ (List.mem_cons_of_mem _ (List.mem_cons_of_mem _ hs))))
  rw [rd342 _ hA hL]
  refine ⟨hsz, pr_of hm, fun u hu => ?_⟩
  subst hu
  rw [rd343 _ hN]
  refine ⟨m2, fun u hu => ?_⟩
  subst hu
  rw [rd344 _ hP]
  refine ⟨m3, fun u hu => ?_⟩
  subst hu
  rw [rd344 _ hS]
  refine ⟨m4, fun u hu => ?_⟩
  subst hu
  refine ⟨⟨hA, hL, hN, hP, hS⟩, ?_⟩
  show (bif !((S319 h).toList == (S319 h).toList) then _ else _)
  rw [hbeq]
  exact hfin.symm
theorem ok320 : Ok320 := by
  refine con_ok (C := C320) (kok_cons ok315 (kok_cons ok319 (kok_cons ok344 (kok_cons ok343 (kk1 ok342))))) mx7 (by kernel_rfl) run320
end Go.Rx
namespace Go.Rx
open Go.Ab Go.L7 Go.L21
set_option maxRecDepth 100000
set_option maxHeartbeats 20000000
set_option linter.unusedVariables false
/-- interregnum/path.Encode -/
noncomputable def C23 : Cfg S := { P := P7, inl := [], K := [(58, ctr P7 [25] [4] (fun x0 => (none, S26 x0)))], ann := [(39, [(16, .join [(.sl 3, .own 5)]), (10, .join [(.sl 6, .int .u8)]), (12, .loop [(.sl 3, .own 5), (.sl 31, .int .i64)]), (5, .loop [(.sl 3, .own 5), (.sl 14, .int .i64)])])] }
abbrev W23 : CT S [35] [25] := (fun x0 => (some (P23 x0), S23 x0))
abbrev Ok23 : Prop := ConOk P7 39 (ctr P7 [25] [35] W23) ∧ ConMon (ctr P7 [25] [35] W23)
theorem q23 (x0 : List api_Segment) (v : HR S [35]) : (Xf C23 6 (emp 0) 39 (argsA C23 [⟨25, x0⟩]) (emp 0) (fun r _ => isR C23.P [35] v r) (fun _ _ => False)) =
 (bif !S26 x0 then [] = v else LOOP (fun (h : List Int × Int) (J : List Int × Int → Prop) => bif decide (h.snd < (↑x0.length : Int)) then h.fst.length =
 h.fst.length ∧ JP (fun (h_1 : List Int) => h_1.length = h_1.length ∧ J (h_1, IntKind.i64.wrap (h.snd + (1 : Int)))) fun (J : List Int → Prop) => ((0 : Int) ≤
 h.snd ∧ h.snd < (↑x0.length : Int)) ∧ JP (fun (h_1 : Int) => (h.fst.length = h.fst.length ∧ (h.fst.length + [h_1, IntKind.u8.wrap (↑(ix x0 h.snd).fAS.length :
 Int)].length) * nat_lit 1 ≤ nat_lit 140737488355328) ∧ ∀ (y : List (Int)), y = h.fst ++ [h_1, IntKind.u8.wrap (↑(ix x0 h.snd).fAS.length : Int)] → y.length =
 y.length ∧ LOOP (fun (h_3 : List Int × Int) (J_1 : List Int × Int → Prop) => bif decide (h_3.snd < (↑(ix x0 h.snd).fAS.length : Int)) then ((0 : Int) ≤
 h_3.snd ∧ h_3.snd < (↑(ix x0 h.snd).fAS.length : Int)) ∧ (h_3.fst.length = h_3.fst.length ∧ (h_3.fst.length + [IntKind.u8.wrap ((IntKind.u32.wrap (ix (ix x0
 h.snd).fAS h_3.snd)).fdiv ((2 : Int) ^ nat_lit 24)), IntKind.u8.wrap ((IntKind.u32.wrap (ix (ix x0 h.snd).fAS h_3.snd)).fdiv ((2 : Int) ^ nat_lit 16)),
 IntKind.u8.wrap ((IntKind.u32.wrap (ix (ix x0 h.snd).fAS h_3.snd)).fdiv ((2 : Int) ^ nat_lit 8)), IntKind.u8.wrap (IntKind.u32.wrap (ix (ix x0 h.snd).fAS
 h_3.snd))].length) * nat_lit 1 ≤ nat_lit 140737488355328) ∧ ∀ (y : List (Int)), y = h_3.fst ++ [IntKind.u8.wrap ((IntKind.u32.wrap (ix (ix x0 h.snd).fAS
 h_3.snd)).fdiv ((2 : Int) ^ nat_lit 24)), IntKind.u8.wrap ((IntKind.u32.wrap (ix (ix x0 h.snd).fAS h_3.snd)).fdiv ((2 : Int) ^ nat_lit 16)), IntKind.u8.wrap
 ((IntKind.u32.wrap (ix (ix x0 h.snd).fAS h_3.snd)).fdiv ((2 : Int) ^ nat_lit 8)), IntKind.u8.wrap (IntKind.u32.wrap (ix (ix x0 h.snd).fAS h_3.snd))] →
 y.length = y.length ∧ J_1 (y, IntKind.i64.wrap (h_3.snd + (1 : Int))) else h_3.fst.length = h_3.fst.length ∧ J h_3.fst) (y, (0 : Int))) fun (J : Int → Prop)
 => bif (ix x0 h.snd).fSet then J (1 : Int) else J (2 : Int) else h.fst = v) ([], (0 : Int))) := by kernel_rfl
end Go.Rx
namespace Go.Rx
open Go.Ab Go.L7 Go.L21
set_option maxRecDepth 100000
set_option maxHeartbeats 20000000
set_option linter.unusedVariables false
/-- interregnum/path.Decode -/
noncomputable def C65 : Cfg S := { P := P7, inl := [], K := [(110, ctr P7 [35] [22] (fun x0 => (none, S66 x0))), (58, ctr P7 [25] [4] (fun x0 => (none, S26 x0)))], ann := [(109, [(9, .loop [(.sl 0, .sl 5), (.sl 6, .int .i64), (.ce 5 0, .bool), (.ce 5 1, .own 3)]), (2, .loop [(.sl 0, .sl 5), (.sl 4, .own 34)])])] }
abbrev W65 : CT S [25, 4] [35] := (fun x0 => (some (P65 x0), S65 x0))
abbrev Ok65 : Prop := ConOk P7 109 (ctr P7 [35] [25, 4] W65) ∧ ConMon (ctr P7 [35] [25, 4] W65)
theorem q65 (x0 : List Int) (v : HR S [25, 4]) : (Xf C65 6 (emp 0) 109 (argsA C65 [⟨35, x0⟩]) (emp 0) (fun r _ => isR C65.P [25, 4] v r) (fun _ _ => False)) =
 (LOOP (fun (h : List Int × List api_Segment) (J : List Int × List api_Segment → Prop) => bif decide ((0 : Int) < (↑h.fst.length : Int)) then (decide
 ((↑h.fst.length : Int) < (2 : Int)) = false → (0 : Int) ≤ (0 : Int) ∧ (0 : Int) < (↑h.fst.length : Int)) ∧ (decide ((↑h.fst.length : Int) < (2 : Int)) = false
 → (!decide (ix h.fst (0 : Int) = (1 : Int))) = true → (0 : Int) ≤ (0 : Int) ∧ (0 : Int) < (↑h.fst.length : Int)) ∧ bif decide ((↑h.fst.length : Int) < (2 :
 Int)) || !decide (ix h.fst (0 : Int) = (1 : Int)) && !decide (ix h.fst (0 : Int) = (2 : Int)) then ([], false) = v else ((0 : Int) ≤ (0 : Int) ∧ (0 : Int) <
 (↑h.fst.length : Int)) ∧ ((0 : Int) ≤ (1 : Int) ∧ (1 : Int) < (↑h.fst.length : Int)) ∧ ((0 : Int) ≤ (2 : Int) ∧ (2 : Int) ≤ (↑h.fst.length : Int) ∧
 (↑h.fst.length : Int) ≤ (↑h.fst.length : Int)) ∧ bif decide ((↑(sub h.fst (2 : Int) (↑h.fst.length : Int)).length : Int) < IntKind.i64.wrap (IntKind.i64.wrap
 (ix h.fst (1 : Int)) * (4 : Int))) then ([], false) = v else LOOP (fun (h_1 : List Int × Int × Bool × List Int) (J_1 : List Int × Int × Bool × List Int →
 Prop) => bif decide ((0 : Int) < h_1.snd.fst) then (h_1.snd.snd.snd.length = h_1.snd.snd.snd.length ∧ (h_1.snd.snd.snd.length + [IntKind.i64.wrap (S66
 h_1.fst)].length) * nat_lit 8 ≤ nat_lit 140737488355328) ∧ ∀ (y : List (Int)), y = h_1.snd.snd.snd ++ [IntKind.i64.wrap (S66 h_1.fst)] → ((0 : Int) ≤ (4 :
 Int) ∧ (4 : Int) ≤ (↑h_1.fst.length : Int) ∧ (↑h_1.fst.length : Int) ≤ (↑h_1.fst.length : Int)) ∧ y.length = y.length ∧ J_1 (sub h_1.fst (4 : Int)
 (↑h_1.fst.length : Int), IntKind.i64.wrap (h_1.snd.fst - (1 : Int)), h_1.snd.snd.fst, y) else (h.snd.length = h.snd.length ∧ (h.snd.length + [api_Segment.mk
 h_1.snd.snd.fst h_1.snd.snd.snd].length) * nat_lit 32 ≤ nat_lit 140737488355328) ∧ ∀ (y : List (api_Segment)), y = h.snd ++ [api_Segment.mk h_1.snd.snd.fst
 h_1.snd.snd.snd] → y.length = y.length ∧ J (h_1.fst, y)) (sub h.fst (2 : Int) (↑h.fst.length : Int), IntKind.i64.wrap (ix h.fst (1 : Int)), decide (ix h.fst
 (0 : Int) = (1 : Int)), []) else bif !S26 h.snd then ([], false) = v else (h.snd, true) = v) (x0, [])) := by kernel_rfl
end Go.Rx
/-! Paths as bytes; numbers of bytes. -/
namespace Go.Rx
open Go.Ab Go.L7
set_option linter.unusedVariables false
set_option maxRecDepth 100000
theorem JP.of {ι : Type} {rest : ι → Prop} {body : (ι → Prop) → Prop} (I : ι → Prop) (hb : ∀ J : ι → Prop, (∀ y, I y → J y) → body J) (hr : ∀ y, I y → rest y) : JP rest body := ⟨hb rest hr⟩
theorem run66 : RunC C66 6 110 [22] [35] W66 [] := by
  intro (x : List Int) hx _
  have hp : x.length ≤ 9223372036854775807 := hx.1.1
  refine of_eq (q66 x (S66 x)) ?_
  have hm : sub x 0 (bif decide ((4 : Int) < (x.length : Int)) then (4 : Int) else (x.length : Int)) = x.take 4 := by
    unfold sub
    cases h : decide ((4 : Int) < (x.length : Int)) with
    | true => rfl
    | false =>
      have := of_decide_eq_false h
      simp only [cond_false, Int.toNat_natCast, Int.toNat_zero, List.drop_zero]
      rw [List.take_of_length_le (Nat.le_refl _), List.take_of_length_le (by omega)]
  refine ⟨⟨Int.le_refl _, ?_, ?_⟩, ?_⟩
  · cases h : decide ((4 : Int) < (x.length : Int)) <;> simp
  · cases h : decide ((4 : Int) < (x.length : Int)) with
    | true => have := of_decide_eq_true h; simp only [cond_true]; omega
    | false => simp
  · rw [hm]
    generalize hv : S66 x = v
    unfold S66 at hv
    have ht : (x.take 4).length ≤ 9223372036854775807 := by simp; omega
    revert hv ht
    generalize x.take 4 = t
    intro hv ht
    refine listLoop (l := t) ht (fun (n : Int) i => (n, i)) (fun y => y.2) (fun _ _ => rfl) (fun i r n => r.foldl getB n = v) (s0 := 0) hv ?_ ?_
    · rintro n i c r J k1 k2 k3 k4 k5 k6 hJ
      refine bif_of (fun _ => ⟨⟨k1, k2⟩, ?_⟩) (fun h => absurd k2 (of_decide_eq_false h))
      simp only [k3]
      exact hJ _ k6
    · rintro n i J rfl h
      exact bif_of (fun h => absurd (of_decide_eq_true h) (by simp)) (fun _ => h)
theorem ok66 : Ok66 := con_ok (C := C66) kok_nil mx7 (by kernel_rfl) run66
/-! ### The bytes of a path -/
def asSum (l : List api_Segment) : Nat := (l.map fun s => s.fAS.length).sum
theorem goodP_spec : ∀ (l : List api_Segment) (n : Int), goodP l n = true → 0 ≤ n → n + 255 * (l.length : Int) ≤ 4611686018427387904 → n + (asSum l : Int) ≤ 64 ∧ ∀ s ∈ l, 1 ≤ s.fAS.length ∧ s.fAS.length ≤ 255 ∧ s.fAS.all asOk = true
  | [], n, h, h0, h1 => ⟨by simp only [goodP, decide_eq_true_eq] at h; simp [asSum]; exact h, fun s hs => by cases hs⟩
  | s :: l, n, h, h0, h1 => by
    simp only [goodP] at h
    split at h
    · cases h
    · rename_i h2
      split at h
      · rename_i h3
        have hw : w64 (n + (s.fAS.length : Int)) = n + (s.fAS.length : Int) := wrap64 (by simp at h1; omega)
        rw [hw] at h
        obtain ⟨k1, k2⟩ := goodP_spec l _ h (by omega) (by simp at h1; omega)
        refine ⟨by simp [asSum] at k1 ⊢; omega, fun t ht => ?_⟩
        rcases List.mem_cons.1 ht with rfl | ht
        · exact ⟨by omega, by omega, h3⟩
        · exact k2 t ht
      · cases h
theorem asSum_len : ∀ (l : List api_Segment), (∀ s ∈ l, 1 ≤ s.fAS.length) → l.length ≤ asSum l
  | [], _ => by simp [asSum]
  | s :: l, h => by
    have := asSum_len l fun t ht => h t (by simp [ht])
    have := h s (by simp)
    simp [asSum] at *
    omega
theorem put_len : ∀ (l : List Int), (l.flatMap fun n => put4 (IntKind.u32.wrap n)).length = 4 * l.length
  | [] => rfl
  | n :: l => by rw [List.flatMap_cons, List.length_append, put_len l]; simp [put4]; omega
theorem seg_len : ∀ (l : List api_Segment), (l.flatMap segB).length = 2 * l.length + 4 * asSum l
  | [] => rfl
  | s :: l => by
    rw [List.flatMap_cons, List.length_append, seg_len l]
    have := put_len s.fAS
    simp only [segB, List.length_cons, this, asSum, List.map_cons, List.sum_cons]
    omega
theorem run23 : RunC C23 6 39 [35] [25] W23 [] := by
  intro (x : List api_Segment) hx hp
  have hp : x.length ≤ 140737488355328 := hp _ rfl
  refine of_eq (q23 x (S23 x)) ?_
  refine bif_of (fun h => ?_) (fun h => ?_)
  · simp only [Bool.not_eq_true'] at h; simp [S23, h]
  · simp only [Bool.not_eq_false'] at h
    have hv : S23 x = x.flatMap segB := by simp [S23, h]
    rw [hv]
    obtain ⟨g1, g2⟩ := goodP_spec x 0 h (Int.le_refl _) (by omega)
    have hlen : (x.flatMap segB).length ≤ 384 := by
      rw [seg_len]
      have := asSum_len x fun s hs => (g2 s hs).1
      omega
    revert hlen
    generalize hF : x.flatMap segB = F
    intro hlen
    refine listLoop (l := x) (by omega) (fun (o : List Int) i => (o, i)) (fun y => y.2) (fun _ _ => rfl) (fun i r o => o ++ r.flatMap segB = F) (s0 := []) (by simpa using hF) ?_ ?_
    · rintro o i s r J k1 k2 k3 k4 k5 k6 hJ
      refine bif_of (fun _ => ⟨rfl, JP.of (fun o' => o' ++ r.flatMap segB = F) (fun J' hJ' => ⟨⟨k1, k2⟩, ?_⟩) (fun y hy => ⟨rfl, hJ _ hy⟩)⟩) (fun h => absurd k2 (of_decide_eq_false h))
      simp only [k3]
      refine JP.of (fun c => c = if s.fSet then 1 else 2) (fun J hJ => bif_of (fun h => hJ _ (by simp [h])) (fun h => hJ _ (by simp [h]))) fun c hc => ?_
      have hF1 : o.length ≤ 384 := by have := congrArg List.length k6; rw [List.length_append] at this; omega
      refine ⟨⟨by trivial, by show (o.length + 2) * 1 ≤ 140737488355328; omega⟩, fun (y : List Int) hy => ⟨by trivial, ?_⟩⟩
      obtain ⟨s1, s2, s3⟩ := g2 s k4
      have k7 : y ++ (s.fAS.flatMap fun n => put4 (IntKind.u32.wrap n)) ++ r.flatMap segB = F := by
        rw [← k6, List.flatMap_cons, hy, hc]
        simp [segB]
      refine listLoop (l := s.fAS) (by omega) (fun (o : List Int) i => (o, i)) (fun y => y.2) (fun _ _ => rfl) (fun i r' o => o ++ (r'.flatMap fun n => put4 (IntKind.u32.wrap n)) ++ r.flatMap segB = F) (s0 := y) k7 ?_ ?_
      · rintro o2 j n r' J2 j1 j2 j3 j4 j5 j6 hJ2
        have hF2 : o2.length ≤ 384 := by have := congrArg List.length j6; rw [List.length_append, List.length_append] at this; omega
        refine bif_of (fun _ => ⟨⟨j1, j2⟩, ⟨by trivial, by show (o2.length + 4) * 1 ≤ 140737488355328; omega⟩, fun (z : List Int) hz => ⟨by trivial, ?_⟩⟩) (fun h => absurd j2 (of_decide_eq_false h))
        refine hJ2 z ?_
        rw [← j6, hz]
        simp only [j3]
        simp [put4]
      · rintro o2 j J2 rfl j6
        refine bif_of (fun h => absurd (of_decide_eq_true h) (by simp)) (fun _ => ⟨by trivial, hJ' _ (by simpa using j6)⟩)
    · rintro o i J rfl h
      refine bif_of (fun h => absurd (of_decide_eq_true h) (by simp)) (fun _ => ?_)
      simpa using h
theorem ok23 : Ok23 := con_ok (C := C23) (kk1 ok26) mx7 (by kernel_rfl) run23
/-! ### A path, read -/
theorem By.drop {b : List Int} (h : By b) (n : Nat) : By (b.drop n) := fun c hc => h c (List.mem_of_mem_drop hc)
theorem By.take {b : List Int} (h : By b) (n : Nat) : By (b.take n) := fun c hc => h c (List.mem_of_mem_take hc)
theorem asN_len : ∀ (n : Nat) (b : List Int), (asN n b).length = n
  | 0, _ => rfl
  | n + 1, b => by simp [asN, asN_len n]
theorem run65 : RunC C65 6 109 [25, 4] [35] W65 [] := by
  intro (x : List Int) hx hp
  obtain ⟨hp, hB⟩ := hp _ rfl
  refine of_eq (q65 x (S65 x)) ?_
  generalize hv : S65 x = v
  unfold S65 at hv
  refine LOOP.of (fun h => By h.1 ∧ h.1.length ≤ 1099511627776 ∧ h.2.length + h.1.length ≤ 1099511627776 ∧ ∃ f, h.1.length ≤ f ∧ pathOut h.2 (decP f h.1) = v) (fun h => h.1.length) ⟨hB, hp, by simpa using hp, _, Nat.le_refl _, hv⟩ ?_
  rintro ⟨b, out⟩ ⟨i1, i2, i3, f, i4, i5⟩ J hJ
  simp only at i1 i2 i3 i4 i5
  refine bif_of (fun h => ?_) (fun h => ?_)
  · have h0 : 0 < b.length := by have := of_decide_eq_true h; simp only at this; omega
    obtain ⟨f, rfl⟩ : ∃ g, f = g + 1 := ⟨f - 1, by omega⟩
    have hne : b ≠ [] := fun e => by rw [e] at h0; cases h0
    simp only [decP, if_neg hne] at i5
    refine ⟨fun _ => ⟨Int.le_refl _, by simpa using h0⟩, fun _ _ => ⟨Int.le_refl _, by simpa using h0⟩, bif_of (fun h1 => ?_) (fun h1 => ?_)⟩
    · rw [if_pos (by simp only [Bool.or_eq_true, Bool.and_eq_true, Bool.not_eq_true', decide_eq_true_eq, decide_eq_false_iff_not] at h1; rcases h1 with h1 | h1; exact .inl (by omega); exact .inr h1)] at i5
      exact i5
    · have h1' : ¬ (b.length < 2) ∧ (ix b 0 = 1 ∨ ix b 0 = 2) := by
        simp only [Bool.or_eq_false_iff, Bool.and_eq_false_iff, Bool.not_eq_false', decide_eq_true_eq, decide_eq_false_iff_not] at h1
        exact ⟨by omega, h1.2⟩
      rw [if_neg (by rintro (h | h); exact h1'.1 h; rcases h1'.2 with e | e; exact h.1 e; exact h.2 e)] at i5
      have hn := i1 _ (ix_mem (x := b) (i := 1) (by omega) (by omega))
      generalize hn0 : ix b 1 = n at hn i5
      have hw1 : IntKind.i64.wrap n = n := wrap64 (by omega)
      have hw4 : IntKind.i64.wrap (n * 4) = n * 4 := wrap64 (by omega)
      refine ⟨⟨Int.le_refl _, by simpa using h0⟩, ⟨by omega, by simp only; omega⟩, ⟨by omega, by simp only; omega, Int.le_refl _⟩, ?_⟩
      simp only [hn0, hw1, hw4]
      rw [sub_drop b (n := 2) rfl]
      refine bif_of (fun h2 => ?_) (fun h2 => ?_)
      · have h2 := of_decide_eq_true h2
        rw [if_pos (by rw [List.length_drop] at h2; omega)] at i5
        exact i5
      · have h2 := of_decide_eq_false h2
        rw [List.length_drop] at h2
        rw [if_neg (by omega)] at i5
        generalize hb2 : b.drop 2 = b2
        have hl2 : b2.length = b.length - 2 := by rw [← hb2, List.length_drop]
        have hd : b.drop (2 + 4 * n.toNat) = b2.drop (4 * n.toNat) := by rw [← hb2, List.drop_drop]
        rw [hd, hb2] at i5
        refine LOOP.of (fun h => 0 ≤ h.2.1 ∧ 4 * h.2.1 ≤ (h.1.length : Int) ∧ h.2.2.2 ++ asN h.2.1.toNat h.1 = asN n.toNat b2 ∧ h.1.drop (4 * h.2.1.toNat) = b2.drop (4 * n.toNat) ∧ h.2.2.1 = decide (ix b 0 = 1) ∧ h.2.1 ≤ n) (fun h => h.2.1.toNat) ⟨by simp only; omega, by simp only; omega, rfl, rfl, rfl, Int.le_refl _⟩ ?_
        rintro ⟨b', m, st, al⟩ ⟨j1, j2, j3, j4, j5, j6⟩ J' hJ'
        simp only at j1 j2 j3 j4 j5 j6
        have hal : al.length + m.toNat = n.toNat := by have := congrArg List.length j3; rw [List.length_append, asN_len, asN_len] at this; exact this
        refine bif_of (fun h3 => ?_) (fun h3 => ?_)
        · have h3 := of_decide_eq_true h3
          simp only at h3
          refine ⟨⟨by trivial, by show (al.length + 1) * 8 ≤ 140737488355328; omega⟩, fun (y : List Int) hy => ⟨⟨by omega, by simp only; omega, Int.le_refl _⟩, by trivial, ?_⟩⟩
          simp only
          rw [wrap64 (by omega), sub_drop b' (n := 4) rfl]
          have hm : m.toNat = (m - 1).toNat + 1 := by omega
          refine hJ' _ ⟨by simp only; omega, by simp only; rw [List.length_drop]; omega, ?_, ?_, j5, by simp only; omega⟩ (by simp only; omega)
          · simp only
            rw [← j3, hm, hy, asN]
            simp [w64]
          · simp only
            rw [← j4, List.drop_drop, hm]
            congr 1
            omega
        · have h3 := of_decide_eq_false h3
          simp only at h3
          have hm : m = 0 := by omega
          subst hm
          simp only [asN, Int.toNat_zero, List.append_nil, Nat.mul_zero, List.drop_zero] at j3 j4
          refine ⟨⟨by trivial, by show (out.length + 1) * 32 ≤ 140737488355328; omega⟩, fun (y : List api_Segment) hy => ⟨by trivial, ?_⟩⟩
          have hlb : b'.length = b2.length - 4 * n.toNat := by rw [j4, List.length_drop]
          refine hJ _ ⟨?_, by simp only; omega, ?_, f, by simp only; omega, ?_⟩ (by simp only; omega)
          · simp only; rw [j4, ← hb2]; exact By.drop (By.drop i1 _) _
          · simp only; rw [hy, List.length_append]; simp; omega
          · simp only
            rw [← i5, j4, hy]
            cases decP f (b2.drop (4 * n.toNat)) with
            | none => rfl
            | some r => simp [pathOut, j5, ← j3]
  · have h0 : b = [] := by
      have := of_decide_eq_false h
      exact List.eq_nil_of_length_eq_zero (by simp only at this; omega)
    have hf : decP f b = some [] := by cases f <;> simp [decP, h0]
    rw [hf] at i5
    simp only [pathOut, List.append_nil] at i5
    refine bif_of (fun h => ?_) (fun h => ?_)
    · simp only [Bool.not_eq_true'] at h; rw [h] at i5; exact i5
    · simp only [Bool.not_eq_false'] at h; rw [h] at i5; exact i5
theorem ok65 : Ok65 := con_ok (C := C65) (kok_cons ok66 (kk1 ok26)) mx7 (by kernel_rfl) run65
end Go.Rx
namespace Go.Rx
open Go.Ab Go.L7 Go.L21
set_option maxRecDepth 100000
set_option maxHeartbeats 20000000
set_option linter.unusedVariables false
/-- interregnum/attr.Encode -/
noncomputable def C12 : Cfg S := { P := P7, inl := [], K := [(37, ctr P7 [29] [4] (fun x0 => (none, S13 x0))), (41, ctr P7 [3] [35] (fun x0 => (none, S25 x0))), (39, ctr P7 [25] [35] (fun x0 => (some (P23 x0), S23 x0)))], ann := [(16, [(8, .join [(.sl 3, .own 5)]), (10, .join [(.sl 3, .own 5)]), (26, .join [(.sl 3, .own 5)]), (23, .join [(.sl 3, .own 5), (.sl 7, .bool)]), (22, .join [(.sl 3, .own 5), (.sl 7, .bool)]), (18, .loop [(.sl 3, .own 5), (.sl 7, .bool), (.sl 61, .int .i64)]), (12, .loop [(.sl 4, .own 5), (.sl 47, .int .i64)])]), (38, [(4, .join [(.sl 0, .own 5)])])] }
abbrev W12 : CT S [35] [29] := (fun x0 => (some (P12 x0), S12 x0))
abbrev Ok12 : Prop := ConOk P7 16 (ctr P7 [29] [35] W12) ∧ ConMon (ctr P7 [29] [35] W12)
theorem q12 (x0 : api_Attrs) (v : HR S [35]) : (Xf C12 6 (emp 0) 16 (argsA C12 [⟨29, x0⟩]) (emp 0) (fun r _ => isR C12.P [35] v r) (fun _ _ => False)) = (bif
 !S13 x0 then [] = v else JP (fun (h : List Int) => (h.length = h.length ∧ (h.length + [IntKind.u8.wrap x0.fOrigin].length) * nat_lit 1 ≤ nat_lit
 140737488355328) ∧ ∀ (y : List (Int)), y = h ++ [IntKind.u8.wrap x0.fOrigin] → x0.fPath.length.le (nat_lit 140737488355328) ∧ y.length = y.length ∧ JP (fun (h
 : List Int) => (h.length = h.length ∧ (h.length + (S23 x0.fPath).length) * nat_lit 1 ≤ nat_lit 140737488355328) ∧ ∀ (y : List (Int)), y = h ++ S23 x0.fPath →
 [IntKind.u8.wrap (x0.fNext.fdiv ((2 : Int) ^ nat_lit 24)), IntKind.u8.wrap (x0.fNext.fdiv ((2 : Int) ^ nat_lit 16)), IntKind.u8.wrap (x0.fNext.fdiv ((2 : Int)
 ^ nat_lit 8)), IntKind.u8.wrap x0.fNext].length * nat_lit 1 ≤ nat_lit 140737488355328 ∧ ∀ (y_1 : List (Int)), y_1 = [IntKind.u8.wrap (x0.fNext.fdiv ((2 : Int)
 ^ nat_lit 24)), IntKind.u8.wrap (x0.fNext.fdiv ((2 : Int) ^ nat_lit 16)), IntKind.u8.wrap (x0.fNext.fdiv ((2 : Int) ^ nat_lit 8)), IntKind.u8.wrap x0.fNext] →
 y.length = y.length ∧ JP (fun (h : List Int) => (h.length = h.length ∧ (h.length + y_1.length) * nat_lit 1 ≤ nat_lit 140737488355328) ∧ ∀ (y : List (Int)), y
 = h ++ y_1 → y.length = y.length ∧ JP (fun (h : List Int) => h.length = h.length ∧ JP (fun (h : List Int) => LOOP (fun (h_1 : List Int × Int) (J : List Int ×
 Int → Prop) => bif decide (h_1.snd < (↑x0.fComms.length : Int)) then ((0 : Int) ≤ h_1.snd ∧ h_1.snd < (↑x0.fComms.length : Int)) ∧ (h_1.fst.length =
 h_1.fst.length ∧ (h_1.fst.length + [IntKind.u8.wrap ((ix x0.fComms h_1.snd).fdiv ((2 : Int) ^ nat_lit 24)), IntKind.u8.wrap ((ix x0.fComms h_1.snd).fdiv ((2 :
 Int) ^ nat_lit 16)), IntKind.u8.wrap ((ix x0.fComms h_1.snd).fdiv ((2 : Int) ^ nat_lit 8)), IntKind.u8.wrap (ix x0.fComms h_1.snd)].length) * nat_lit 1 ≤
 nat_lit 140737488355328) ∧ ∀ (y : List (Int)), y = h_1.fst ++ [IntKind.u8.wrap ((ix x0.fComms h_1.snd).fdiv ((2 : Int) ^ nat_lit 24)), IntKind.u8.wrap ((ix
 x0.fComms h_1.snd).fdiv ((2 : Int) ^ nat_lit 16)), IntKind.u8.wrap ((ix x0.fComms h_1.snd).fdiv ((2 : Int) ^ nat_lit 8)), IntKind.u8.wrap (ix x0.fComms
 h_1.snd)] → y.length = y.length ∧ J (y, IntKind.i64.wrap (h_1.snd + (1 : Int))) else h.length = h.length ∧ LOOP (fun (h : List Int × Bool × Int) (J : List Int
 × Bool × Int → Prop) => bif decide (h.snd.snd < (↑x0.fRaws.length : Int)) then h.fst.length = h.fst.length ∧ JP (fun (h_2 : List Int × Bool) => h_2.fst.length
 = h_2.fst.length ∧ J (h_2.fst, h_2.snd, IntKind.i64.wrap (h.snd.snd + (1 : Int)))) fun (J : List Int × Bool → Prop) => ((0 : Int) ≤ h.snd.snd ∧ h.snd.snd <
 (↑x0.fRaws.length : Int)) ∧ h.fst.length = h.fst.length ∧ JP (fun (h_2 : List Int × Bool) => h_2.fst.length = h_2.fst.length ∧ JP (fun (h_3 : List Int) =>
 (h_3.length = h_3.length ∧ (h_3.length + (ix x0.fRaws h.snd.snd).fData.length) * nat_lit 1 ≤ nat_lit 140737488355328) ∧ ∀ (y : List (Int)), y = h_3 ++ (ix
 x0.fRaws h.snd.snd).fData → y.length = y.length ∧ J (y, h_2.snd)) fun (J : List Int → Prop) => bif decide ((255 : Int) < (↑(ix x0.fRaws
 h.snd.snd).fData.length : Int)) then (h_2.fst.length = h_2.fst.length ∧ (h_2.fst.length + [IntKind.u8.wrap (ior IntKind.i64 (ix x0.fRaws h.snd.snd).fFlags (16
 : Int)), IntKind.u8.wrap (ix x0.fRaws h.snd.snd).fType, IntKind.u8.wrap ((↑(ix x0.fRaws h.snd.snd).fData.length : Int).fdiv ((2 : Int) ^ nat_lit 8)),
 IntKind.u8.wrap (↑(ix x0.fRaws h.snd.snd).fData.length : Int)].length) * nat_lit 1 ≤ nat_lit 140737488355328) ∧ ∀ (y : List (Int)), y = h_2.fst ++
 [IntKind.u8.wrap (ior IntKind.i64 (ix x0.fRaws h.snd.snd).fFlags (16 : Int)), IntKind.u8.wrap (ix x0.fRaws h.snd.snd).fType, IntKind.u8.wrap ((↑(ix x0.fRaws
 h.snd.snd).fData.length : Int).fdiv ((2 : Int) ^ nat_lit 8)), IntKind.u8.wrap (↑(ix x0.fRaws h.snd.snd).fData.length : Int)] → y.length = y.length ∧ J y else
 (h_2.fst.length = h_2.fst.length ∧ (h_2.fst.length + [IntKind.u8.wrap (ix x0.fRaws h.snd.snd).fFlags, IntKind.u8.wrap (ix x0.fRaws h.snd.snd).fType,
 IntKind.u8.wrap (↑(ix x0.fRaws h.snd.snd).fData.length : Int)].length) * nat_lit 1 ≤ nat_lit 140737488355328) ∧ ∀ (y : List (Int)), y = h_2.fst ++
 [IntKind.u8.wrap (ix x0.fRaws h.snd.snd).fFlags, IntKind.u8.wrap (ix x0.fRaws h.snd.snd).fType, IntKind.u8.wrap (↑(ix x0.fRaws h.snd.snd).fData.length : Int)]
 → y.length = y.length ∧ J y) fun (J : List Int × Bool → Prop) => bif decide ((8 : Int) < (ix x0.fRaws h.snd.snd).fType) && !h.snd.fst then h.fst.length =
 h.fst.length ∧ JP (fun (h : List Int) => (h.length = h.length ∧ (h.length + h_1.fst.length) * nat_lit 1 ≤ nat_lit 140737488355328) ∧ ∀ (y : List (Int)), y = h
 ++ h_1.fst → y.length = y.length ∧ J (y, true)) fun (J : List Int → Prop) => bif decide ((255 : Int) < (↑h_1.fst.length : Int)) then (h.fst.length =
 h.fst.length ∧ (h.fst.length + [IntKind.u8.wrap (ior IntKind.i64 (192 : Int) (16 : Int)), IntKind.u8.wrap (8 : Int), IntKind.u8.wrap ((↑h_1.fst.length :
 Int).fdiv ((2 : Int) ^ nat_lit 8)), IntKind.u8.wrap (↑h_1.fst.length : Int)].length) * nat_lit 1 ≤ nat_lit 140737488355328) ∧ ∀ (y : List (Int)), y = h.fst ++
 [IntKind.u8.wrap (ior IntKind.i64 (192 : Int) (16 : Int)), IntKind.u8.wrap (8 : Int), IntKind.u8.wrap ((↑h_1.fst.length : Int).fdiv ((2 : Int) ^ nat_lit 8)),
 IntKind.u8.wrap (↑h_1.fst.length : Int)] → y.length = y.length ∧ J y else (h.fst.length = h.fst.length ∧ (h.fst.length + [IntKind.u8.wrap (192 : Int),
 IntKind.u8.wrap (8 : Int), IntKind.u8.wrap (↑h_1.fst.length : Int)].length) * nat_lit 1 ≤ nat_lit 140737488355328) ∧ ∀ (y : List (Int)), y = h.fst ++
 [IntKind.u8.wrap (192 : Int), IntKind.u8.wrap (8 : Int), IntKind.u8.wrap (↑h_1.fst.length : Int)] → y.length = y.length ∧ J y else h.fst.length = h.fst.length
 ∧ J (h.fst, h.snd.fst) else h.fst.length = h.fst.length ∧ JP (fun (h : List Int) => h = v) fun (J : List Int → Prop) => bif !h.snd.fst then h.fst.length =
 h.fst.length ∧ JP (fun (h : List Int) => (h.length = h.length ∧ (h.length + h_1.fst.length) * nat_lit 1 ≤ nat_lit 140737488355328) ∧ ∀ (y : List (Int)), y = h
 ++ h_1.fst → y.length = y.length ∧ J y) fun (J : List Int → Prop) => bif decide ((255 : Int) < (↑h_1.fst.length : Int)) then (h.fst.length = h.fst.length ∧
 (h.fst.length + [IntKind.u8.wrap (ior IntKind.i64 (192 : Int) (16 : Int)), IntKind.u8.wrap (8 : Int), IntKind.u8.wrap ((↑h_1.fst.length : Int).fdiv ((2 : Int)
 ^ nat_lit 8)), IntKind.u8.wrap (↑h_1.fst.length : Int)].length) * nat_lit 1 ≤ nat_lit 140737488355328) ∧ ∀ (y : List (Int)), y = h.fst ++ [IntKind.u8.wrap
 (ior IntKind.i64 (192 : Int) (16 : Int)), IntKind.u8.wrap (8 : Int), IntKind.u8.wrap ((↑h_1.fst.length : Int).fdiv ((2 : Int) ^ nat_lit 8)), IntKind.u8.wrap
 (↑h_1.fst.length : Int)] → y.length = y.length ∧ J y else (h.fst.length = h.fst.length ∧ (h.fst.length + [IntKind.u8.wrap (192 : Int), IntKind.u8.wrap (8 :
 Int), IntKind.u8.wrap (↑h_1.fst.length : Int)].length) * nat_lit 1 ≤ nat_lit 140737488355328) ∧ ∀ (y : List (Int)), y = h.fst ++ [IntKind.u8.wrap (192 : Int),
 IntKind.u8.wrap (8 : Int), IntKind.u8.wrap (↑h_1.fst.length : Int)] → y.length = y.length ∧ J y else h.fst.length = h.fst.length ∧ J h.fst) (h, decide
 ((↑h_1.fst.length : Int) = (0 : Int)), (0 : Int))) ([], (0 : Int))) fun (J : List Int → Prop) => bif decide ((0 : Int) ≤ x0.fPref) then h.length = h.length ∧
 JP (fun (h : List Int) => (h.length = h.length ∧ (h.length + (S25 x0.fPref).length) * nat_lit 1 ≤ nat_lit 140737488355328) ∧ ∀ (y : List (Int)), y = h ++ S25
 x0.fPref → y.length = y.length ∧ J y) fun (J : List Int → Prop) => (h.length = h.length ∧ (h.length + [IntKind.u8.wrap (64 : Int), IntKind.u8.wrap (5 : Int),
 IntKind.u8.wrap (↑(S25 x0.fPref).length : Int)].length) * nat_lit 1 ≤ nat_lit 140737488355328) ∧ ∀ (y : List (Int)), y = h ++ [IntKind.u8.wrap (64 : Int),
 IntKind.u8.wrap (5 : Int), IntKind.u8.wrap (↑(S25 x0.fPref).length : Int)] → y.length = y.length ∧ J y else h.length = h.length ∧ J h) fun (J : List Int →
 Prop) => bif decide ((0 : Int) ≤ x0.fMed) then y.length = y.length ∧ JP (fun (h : List Int) => (h.length = h.length ∧ (h.length + (S25 x0.fMed).length) *
 nat_lit 1 ≤ nat_lit 140737488355328) ∧ ∀ (y : List (Int)), y = h ++ S25 x0.fMed → y.length = y.length ∧ J y) fun (J : List Int → Prop) => (y.length = y.length
 ∧ (y.length + [IntKind.u8.wrap (128 : Int), IntKind.u8.wrap (4 : Int), IntKind.u8.wrap (↑(S25 x0.fMed).length : Int)].length) * nat_lit 1 ≤ nat_lit
 140737488355328) ∧ ∀ (y_2 : List (Int)), y_2 = y ++ [IntKind.u8.wrap (128 : Int), IntKind.u8.wrap (4 : Int), IntKind.u8.wrap (↑(S25 x0.fMed).length : Int)] →
 y_2.length = y_2.length ∧ J y_2 else y.length = y.length ∧ J y) fun (J : List Int → Prop) => bif decide ((255 : Int) < (↑y_1.length : Int)) then (y.length =
 y.length ∧ (y.length + [IntKind.u8.wrap (ior IntKind.i64 (64 : Int) (16 : Int)), IntKind.u8.wrap (3 : Int), IntKind.u8.wrap ((↑y_1.length : Int).fdiv ((2 :
 Int) ^ nat_lit 8)), IntKind.u8.wrap (↑y_1.length : Int)].length) * nat_lit 1 ≤ nat_lit 140737488355328) ∧ ∀ (y_2 : List (Int)), y_2 = y ++ [IntKind.u8.wrap
 (ior IntKind.i64 (64 : Int) (16 : Int)), IntKind.u8.wrap (3 : Int), IntKind.u8.wrap ((↑y_1.length : Int).fdiv ((2 : Int) ^ nat_lit 8)), IntKind.u8.wrap
 (↑y_1.length : Int)] → y_2.length = y_2.length ∧ J y_2 else (y.length = y.length ∧ (y.length + [IntKind.u8.wrap (64 : Int), IntKind.u8.wrap (3 : Int),
 IntKind.u8.wrap (↑y_1.length : Int)].length) * nat_lit 1 ≤ nat_lit 140737488355328) ∧ ∀ (y_2 : List (Int)), y_2 = y ++ [IntKind.u8.wrap (64 : Int),
 IntKind.u8.wrap (3 : Int), IntKind.u8.wrap (↑y_1.length : Int)] → y_2.length = y_2.length ∧ J y_2) fun (J : List Int → Prop) => bif decide ((255 : Int) <
 (↑(S23 x0.fPath).length : Int)) then (y.length = y.length ∧ (y.length + [IntKind.u8.wrap (ior IntKind.i64 (64 : Int) (16 : Int)), IntKind.u8.wrap (2 : Int),
 IntKind.u8.wrap ((↑(S23 x0.fPath).length : Int).fdiv ((2 : Int) ^ nat_lit 8)), IntKind.u8.wrap (↑(S23 x0.fPath).length : Int)].length) * nat_lit 1 ≤ nat_lit
 140737488355328) ∧ ∀ (y_1 : List (Int)), y_1 = y ++ [IntKind.u8.wrap (ior IntKind.i64 (64 : Int) (16 : Int)), IntKind.u8.wrap (2 : Int), IntKind.u8.wrap
 ((↑(S23 x0.fPath).length : Int).fdiv ((2 : Int) ^ nat_lit 8)), IntKind.u8.wrap (↑(S23 x0.fPath).length : Int)] → y_1.length = y_1.length ∧ J y_1 else
 (y.length = y.length ∧ (y.length + [IntKind.u8.wrap (64 : Int), IntKind.u8.wrap (2 : Int), IntKind.u8.wrap (↑(S23 x0.fPath).length : Int)].length) * nat_lit 1
 ≤ nat_lit 140737488355328) ∧ ∀ (y_1 : List (Int)), y_1 = y ++ [IntKind.u8.wrap (64 : Int), IntKind.u8.wrap (2 : Int), IntKind.u8.wrap (↑(S23 x0.fPath).length
 : Int)] → y_1.length = y_1.length ∧ J y_1) fun (J : List Int → Prop) => (nat_lit 0 = nat_lit 0 ∧ (nat_lit 0 + [IntKind.u8.wrap (64 : Int), IntKind.u8.wrap (1
 : Int), IntKind.u8.wrap (↑[IntKind.u8.wrap x0.fOrigin].length : Int)].length) * nat_lit 1 ≤ nat_lit 140737488355328) ∧ ∀ (y : List (Int)), y = [] ++
 [IntKind.u8.wrap (64 : Int), IntKind.u8.wrap (1 : Int), IntKind.u8.wrap (↑[IntKind.u8.wrap x0.fOrigin].length : Int)] → y.length = y.length ∧ J y) := by
 kernel_rfl
end Go.Rx
/-! What attr.Encode writes. -/
namespace Go.Rx
open Go.Ab Go.L7
set_option linter.unusedVariables false
set_option maxRecDepth 100000
theorem put_jp {o d : List Int} {fl t : Int} {R : List Int → Prop} (hb : o.length + d.length + 4 ≤ 140737488355328) (hR : R (o ++ putB fl t d)) :
    JP (fun (h : List Int) => (h.length = h.length ∧ (h.length + d.length) * 1 ≤ 140737488355328) ∧ ∀ (y : List Int), y = h ++ d → R y) (fun (J : List Int → Prop) => bif decide ((255 : Int) < (d.length : Int)) then (o.length = o.length ∧ (o.length + [IntKind.u8.wrap (ior IntKind.i64 fl 16), IntKind.u8.wrap t, IntKind.u8.wrap ((d.length : Int).fdiv (2 ^ 8)), IntKind.u8.wrap (d.length : Int)].length) * 1 ≤ 140737488355328) ∧ ∀ (y : List Int), y = o ++ [IntKind.u8.wrap (ior IntKind.i64 fl 16), IntKind.u8.wrap t, IntKind.u8.wrap ((d.length : Int).fdiv (2 ^ 8)), IntKind.u8.wrap (d.length : Int)] → y.length = y.length ∧ J y
      else (o.length = o.length ∧ (o.length + [IntKind.u8.wrap fl, IntKind.u8.wrap t, IntKind.u8.wrap (d.length : Int)].length) * 1 ≤ 140737488355328) ∧ ∀ (y : List Int), y = o ++ [IntKind.u8.wrap fl, IntKind.u8.wrap t, IntKind.u8.wrap (d.length : Int)] → y.length = y.length ∧ J y) := by
  refine JP.of (fun h => h ++ d = o ++ putB fl t d ∧ h.length ≤ o.length + 4) (fun J hJ => bif_of (fun e => ⟨⟨rfl, by simp; omega⟩, fun y hy => ⟨rfl, hJ _ ?_⟩⟩) (fun e => ⟨⟨rfl, by simp; omega⟩, fun y hy => ⟨rfl, hJ _ ?_⟩⟩)) fun h hh => ⟨⟨rfl, by omega⟩, fun y hy => by rw [hy, hh.1]; exact hR⟩
  · subst hy; simp [putB, if_pos (of_decide_eq_true e)]
  · subst hy; simp [putB, if_neg (of_decide_eq_false e)]
theorem put_jp3 {o d : List Int} {fl t : Int} {R : List Int → Prop} (hd : d.length ≤ 255) (hb : o.length + d.length + 4 ≤ 140737488355328) (hR : R (o ++ putB fl t d)) :
    JP (fun (h : List Int) => (h.length = h.length ∧ (h.length + d.length) * 1 ≤ 140737488355328) ∧ ∀ (y : List Int), y = h ++ d → R y) (fun (J : List Int → Prop) => (o.length = o.length ∧ (o.length + [IntKind.u8.wrap fl, IntKind.u8.wrap t, IntKind.u8.wrap (d.length : Int)].length) * 1 ≤ 140737488355328) ∧ ∀ (y : List Int), y = o ++ [IntKind.u8.wrap fl, IntKind.u8.wrap t, IntKind.u8.wrap (d.length : Int)] → y.length = y.length ∧ J y) := by
  refine JP.of (fun h => h ++ d = o ++ putB fl t d ∧ h.length ≤ o.length + 4) (fun J hJ => ⟨⟨rfl, by simp; omega⟩, fun y hy => ⟨rfl, hJ _ ?_⟩⟩) fun h hh => ⟨⟨rfl, by omega⟩, fun y hy => by rw [hy, hh.1]; exact hR⟩
  subst hy; simp [putB, if_neg (show ¬ (255 : Int) < (d.length : Int) by omega)]
theorem putB_len (fl t : Int) (d : List Int) : (putB fl t d).length ≤ d.length + 4 := by unfold putB; split <;> simp <;> omega
theorem rawsUp_len : ∀ {l : List api_Raw} {p : Option Int}, rawsUp p l = true → ∀ r ∈ l, r.fData.length ≤ 255
  | [], _, _, r, h => by cases h
  | a :: l, p, h, r, hr => by
    simp only [rawsUp, Bool.and_eq_true] at h
    rcases List.mem_cons.1 hr with rfl | hr
    · have h1 := h.1.1
      unfold S28 at h1
      split at h1
      · simp only [Bool.and_eq_true, decide_eq_true_eq] at h1; omega
      · split at h1 <;> simp only [Bool.and_eq_true, decide_eq_true_eq] at h1 <;> omega
    · exact rawsUp_len h.2 r hr
theorem comm_len : ∀ (l : List Int), (commB l).length = 4 * l.length
  | [] => rfl
  | n :: l => by
    show (put4 n ++ commB l).length = _
    rw [List.length_append, comm_len l]; simp [put4]; omega
theorem rawsOut_len {c : List Int} (hc : c.length ≤ 128) : ∀ (l : List api_Raw) (told : Bool), (∀ r ∈ l, r.fData.length ≤ 255) → (rawsOut c told l).length ≤ 132 + 400 * l.length
  | [], told, _ => by
    have := putB_len 192 8 c
    simp only [rawsOut]
    split <;> simp; omega
  | r :: l, told, h => by
    have h1 := putB_len 192 8 c
    have h2 := putB_len r.fFlags r.fType r.fData
    have h3 := h r (by simp)
    have h4 := rawsOut_len hc l true fun r hr => h r (by simp [hr])
    have h5 := rawsOut_len hc l told fun r hr => h r (by simp [hr])
    simp only [rawsOut]
    split <;> simp only [List.length_append, List.length_cons] <;> omega
theorem run12 : RunC C12 6 16 [35] [29] W12 [] := by
  intro (x : api_Attrs) hx hp
  obtain ⟨hp1, hp2⟩ : P12 x := hp _ rfl
  refine of_eq (q12 x (S12 x)) ?_
  refine bif_of (fun h => ?_) (fun h => ?_)
  · simp only [Bool.not_eq_true'] at h; simp [S12, h]
  simp only [Bool.not_eq_false'] at h
  have hg := h
  simp only [S13, Bool.and_eq_true, Bool.not_eq_true', decide_eq_false_iff_not] at hg
  obtain ⟨⟨⟨⟨⟨_, g26⟩, _⟩, gc⟩, gr⟩, _⟩ := hg
  have hrl := rawsUp_len gr
  have hcl : (commB x.fComms).length ≤ 128 := by rw [comm_len]; omega
  have h23 : (S23 x.fPath).length ≤ 384 := by
    have : S23 x.fPath = x.fPath.flatMap segB := by simp [S23, g26]
    rw [this, seg_len]
    obtain ⟨g1, g2⟩ := goodP_spec x.fPath 0 g26 (Int.le_refl _) (by omega)
    have := asSum_len x.fPath fun s hs => (g2 s hs).1
    omega
  have hv : S12 x = putB 64 1 [IntKind.u8.wrap x.fOrigin] ++ putB 64 2 (S23 x.fPath) ++ putB 64 3 (put4 x.fNext) ++ (if 0 ≤ x.fMed then putB 128 4 (S25 x.fMed) else []) ++ (if 0 ≤ x.fPref then putB 64 5 (S25 x.fPref) else []) ++ rawsOut (commB x.fComms) (decide ((commB x.fComms).length = 0)) x.fRaws := by simp [S12, h]
  rw [hv]
  have l1 := putB_len 64 1 [IntKind.u8.wrap x.fOrigin]
  have l2 := putB_len 64 2 (S23 x.fPath)
  have l3 := putB_len 64 3 (put4 x.fNext)
  have l4 := putB_len 128 4 (S25 x.fMed)
  have l5 := putB_len 64 5 (S25 x.fPref)
  have e25 : ∀ n, (S25 n).length = 4 := fun n => rfl
  have e4 : ∀ n, (put4 n).length = 4 := fun n => rfl
  rw [e25] at l4 l5
  rw [e4] at l3
  simp only [List.length_singleton] at l1
  refine JP.of (fun h => h ++ [IntKind.u8.wrap x.fOrigin] = putB 64 1 [IntKind.u8.wrap x.fOrigin] ∧ h.length ≤ 4) (fun J hJ => ⟨⟨rfl, by show (0 + 3) * 1 ≤ 140737488355328; decide⟩, fun y hy => ⟨rfl, hJ _ (by subst hy; exact ⟨rfl, by show 3 ≤ 4; decide⟩)⟩⟩) fun o1 ho1 => ?_
  refine ⟨⟨rfl, by have := ho1.2; show (o1.length + 1) * 1 ≤ 140737488355328; omega⟩, fun y1 hy1 => ⟨?_, rfl, ?_⟩⟩
  · show x.fPath.length ≤ 140737488355328; omega
  have hy1 : y1 = putB 64 1 [IntKind.u8.wrap x.fOrigin] := hy1.trans ho1.1
  rw [← hy1] at l1 ⊢
  refine put_jp (by omega) ?_
  refine ⟨by show (4 : Nat) * 1 ≤ _; decide, fun z hz => ⟨rfl, ?_⟩⟩
  have hz : z = put4 x.fNext := hz
  subst hz
  generalize hy2 : y1 ++ putB 64 2 (S23 x.fPath) = y2
  have m2 : y2.length ≤ 800 := by rw [← hy2, List.length_append]; omega
  refine put_jp (by rw [e4]; omega) ⟨rfl, ?_⟩
  generalize hy3 : y2 ++ putB 64 3 (put4 x.fNext) = y3
  have m3 : y3.length ≤ 810 := by rw [← hy3, List.length_append]; omega
  refine JP.of (fun y => y = y3 ++ (if 0 ≤ x.fMed then putB 128 4 (S25 x.fMed) else [])) (fun J hJ => bif_of (fun e => ⟨rfl, put_jp3 (by rw [e25]; omega) (by rw [e25]; omega) ⟨rfl, hJ _ ?_⟩⟩) (fun e => ⟨rfl, hJ _ ?_⟩)) fun y4 hy4 => ⟨rfl, ?_⟩
  · rw [if_pos (of_decide_eq_true e)]
  · rw [if_neg (of_decide_eq_false e), List.append_nil]
  have m4 : y4.length ≤ 820 := by
    rw [hy4, List.length_append]
    by_cases hq : 0 ≤ x.fMed
    · rw [if_pos hq]; omega
    · rw [if_neg hq]; simp only [List.length_nil]; omega
  refine JP.of (fun y => y = y4 ++ (if 0 ≤ x.fPref then putB 64 5 (S25 x.fPref) else [])) (fun J hJ => bif_of (fun e => ⟨rfl, put_jp3 (by rw [e25]; omega) (by rw [e25]; omega) ⟨rfl, hJ _ ?_⟩⟩) (fun e => ⟨rfl, hJ _ ?_⟩)) fun y5 hy5 => ?_
  · rw [if_pos (of_decide_eq_true e)]
  · rw [if_neg (of_decide_eq_false e), List.append_nil]
  have m5 : y5.length ≤ 830 := by
    rw [hy5, List.length_append]
    by_cases hq : 0 ≤ x.fPref
    · rw [if_pos hq]; omega
    · rw [if_neg hq]; simp only [List.length_nil]; omega
  rw [← hy4, ← hy5]
  generalize hC : commB x.fComms = C at hcl ⊢
  refine listLoop (l := x.fComms) (by omega) (fun (o : List Int) i => (o, i)) (fun y => y.2) (fun _ _ => rfl) (fun i r o => o ++ commB r = C) (s0 := []) (by simpa using hC) ?_ ?_
  · rintro o i n r J k1 k2 k3 k4 k5 k6 hJ
    have ho : o.length ≤ 128 := by have := congrArg List.length k6; rw [List.length_append] at this; omega
    refine bif_of (fun _ => ⟨⟨k1, k2⟩, ⟨rfl, by show (o.length + 4) * 1 ≤ 140737488355328; omega⟩, fun y hy => ⟨rfl, hJ y ?_⟩⟩) (fun h => absurd k2 (of_decide_eq_false h))
    rw [← k6, hy]
    simp only [k3]
    simp [commB, put4]
  · rintro o i J rfl hoc
    have hoc : o = C := by simpa [commB] using hoc
    refine bif_of (fun h => absurd (of_decide_eq_true h) (by simp)) (fun _ => ⟨rfl, ?_⟩)
    subst hoc
    have hro := rawsOut_len hcl x.fRaws (decide (o.length = 0)) hrl
    generalize hF : y5 ++ rawsOut o (decide (o.length = 0)) x.fRaws = F
    have hFl : F.length ≤ 549755813888 := by rw [← hF, List.length_append]; omega
    have hd0 : decide ((o.length : Int) = 0) = decide (o.length = 0) := by simp
    dsimp only
    rw [hd0]
    refine listLoop (l := x.fRaws) (by omega) (fun (s : List Int × Bool) i => (s.1, s.2, i)) (fun y => y.2.2) (fun _ _ => rfl) (fun i r s => s.1 ++ rawsOut o s.2 r = F) (s0 := (y5, decide (o.length = 0))) hF ?_ ?_
    · rintro ⟨y, told⟩ i a r J k1 k2 k3 k4 k5 k6 hJ
      dsimp only at k6 ⊢
      have hyl : y.length ≤ 549755813888 := by have := congrArg List.length k6; rw [List.length_append] at this; omega
      have hal := hrl a k4
      refine bif_of (fun _ => ⟨rfl, ?_⟩) (fun h => absurd k2 (of_decide_eq_false h))
      rw [k3]
      refine JP.of (fun s => s.1 ++ rawsOut o s.2 r = F) (fun J' hJ' => ⟨⟨k1, k2⟩, rfl, ?_⟩) (fun s hs => ⟨rfl, hJ s hs⟩)
      refine JP.of (fun s => s.1 ++ putB a.fFlags a.fType a.fData ++ rawsOut o s.2 r = F) (fun J2 hJ2 => bif_of (fun e => ⟨rfl, put_jp (by omega) ⟨rfl, hJ2 _ ?_⟩⟩) (fun e => ⟨rfl, hJ2 _ ?_⟩)) fun s hs => ⟨rfl, ?_⟩
      · simp only [Bool.and_eq_true, decide_eq_true_eq, Bool.not_eq_true'] at e
        rw [← k6]
        simp only [rawsOut, if_pos e]
        simp
      · simp only [Bool.and_eq_false_iff, decide_eq_false_iff_not, Bool.not_eq_false'] at e
        rw [← k6]
        simp only [rawsOut]
        rw [if_neg (by rintro ⟨h1, h2⟩; rcases e with e | e; exact e h1; rw [h2] at e; cases e)]
        simp
      · have hsl : s.1.length ≤ 549755813888 := by have := congrArg List.length hs; rw [List.length_append, List.length_append] at this; omega
        exact put_jp (by omega) ⟨rfl, hJ' _ hs⟩
    · rintro ⟨y, told⟩ i J rfl k6
      dsimp only at k6 ⊢
      have hyl : y.length ≤ 549755813888 := by have := congrArg List.length k6; rw [List.length_append] at this; omega
      refine bif_of (fun h => absurd (of_decide_eq_true h) (by simp)) (fun _ => ⟨rfl, ?_⟩)
      refine JP.of (fun h => h = F) (fun J' hJ' => bif_of (fun e => ⟨rfl, put_jp (by omega) ⟨rfl, hJ' _ ?_⟩⟩) (fun e => ⟨rfl, hJ' _ ?_⟩)) fun h hh => hh
      · rw [← k6]
        have e : told = false := by simpa using e
        simp [rawsOut, e]
      · rw [← k6]
        have e : told = true := by simpa using e
        simp [rawsOut, e]
theorem ok12 : Ok12 := con_ok (C := C12) (kok_cons ok13 (kok_cons ok25 (kk1 ok23))) mx7 (by kernel_rfl) run12
end Go.Rx
namespace Go.Rx
open Go.Ab Go.L7 Go.L21
set_option maxRecDepth 100000
set_option maxHeartbeats 20000000
set_option linter.unusedVariables false
/-- interregnum/interregnumref05.GoodPath -/
noncomputable def C29 : Cfg S := { P := P7, inl := [], K := [], ann := [(26, [(8, .loop [(.sl 3, .int .i64), (.sl 5, .int .i64)]), (3, .loop [(.sl 3, .int .i64), (.sl 4, .int .i64)])])] }
abbrev W29 : CT S [4] [25] := (fun x0 => (none, S29 x0))
abbrev Ok29 : Prop := ConOk P7 26 (ctr P7 [25] [4] W29) ∧ ConMon (ctr P7 [25] [4] W29)
theorem q29 (x0 : List api_Segment) (v : HR S [4]) : (Xf C29 6 (emp 0) 26 (argsA C29 [⟨25, x0⟩]) (emp 0) (fun r _ => isR C29.P [4] v r) (fun _ _ => False)) =
 (LOOP (fun (h : Int × Int) (J : Int × Int → Prop) => bif decide (h.snd < (↑x0.length : Int)) then ((0 : Int) ≤ h.snd ∧ h.snd < (↑x0.length : Int)) ∧ (decide
 ((↑(ix x0 h.snd).fAS.length : Int) < (1 : Int)) = false → (0 : Int) ≤ h.snd ∧ h.snd < (↑x0.length : Int)) ∧ bif decide ((↑(ix x0 h.snd).fAS.length : Int) < (1
 : Int)) || decide ((255 : Int) < (↑(ix x0 h.snd).fAS.length : Int)) then false = v else LOOP (fun (h_1 : Int × Int) (J_1 : Int × Int → Prop) => ((0 : Int) ≤
 h.snd ∧ h.snd < (↑x0.length : Int)) ∧ bif decide (h_1.snd < (↑(ix x0 h.snd).fAS.length : Int)) then ((0 : Int) ≤ h.snd ∧ h.snd < (↑x0.length : Int)) ∧ ((0 :
 Int) ≤ h_1.snd ∧ h_1.snd < (↑(ix x0 h.snd).fAS.length : Int)) ∧ (decide (ix (ix x0 h.snd).fAS h_1.snd < (1 : Int)) = false → (0 : Int) ≤ h.snd ∧ h.snd <
 (↑x0.length : Int)) ∧ (decide (ix (ix x0 h.snd).fAS h_1.snd < (1 : Int)) = false → (0 : Int) ≤ h_1.snd ∧ h_1.snd < (↑(ix x0 h.snd).fAS.length : Int)) ∧ bif
 decide (ix (ix x0 h.snd).fAS h_1.snd < (1 : Int)) || decide ((4294967295 : Int) < ix (ix x0 h.snd).fAS h_1.snd) then false = v else J_1 (IntKind.i64.wrap
 (h_1.fst + (1 : Int)), IntKind.i64.wrap (h_1.snd + (1 : Int))) else J (h_1.fst, IntKind.i64.wrap (h.snd + (1 : Int)))) (h.fst, (0 : Int)) else decide (h.fst ≤
 (64 : Int)) = v) ((0 : Int), (0 : Int))) := by kernel_rfl
end Go.Rx
namespace Go.Rx
open Go.Ab Go.L7 Go.L21
set_option maxRecDepth 100000
set_option maxHeartbeats 20000000
set_option linter.unusedVariables false
/-- interregnum/interregnumref05.Hop -/
noncomputable def C30 : Cfg S := { P := P7, inl := [], K := [], ann := [] }
abbrev W30 : CT S [4] [22] := (fun x0 => (none, S30 x0))
abbrev Ok30 : Prop := ConOk P7 27 (ctr P7 [22] [4] W30) ∧ ConMon (ctr P7 [22] [4] W30)
theorem q30 (x0 : Int) (v : HR S [4]) : (Xf C30 6 (emp 0) 27 (argsA C30 [⟨22, x0⟩]) (emp 0) (fun r _ => isR C30.P [4] v r) (fun _ _ => False)) = ((!decide (x0
 = (0 : Int)) && !decide (x0.fdiv ((2 : Int) ^ nat_lit 24) = (127 : Int)) && decide (x0.fdiv ((2 : Int) ^ nat_lit 24) < (224 : Int))) = v) := by kernel_rfl
end Go.Rx
namespace Go.Rx
open Go.Ab Go.L7 Go.L21
set_option maxRecDepth 100000
set_option maxHeartbeats 20000000
set_option linter.unusedVariables false
/-- interregnum/interregnumref01.Four -/
noncomputable def C33 : Cfg S := { P := P7, inl := [], K := [], ann := [] }
abbrev W33 : CT S [35] [3] := (fun x0 => (none, S33 x0))
abbrev Ok33 : Prop := ConOk P7 48 (ctr P7 [3] [35] W33) ∧ ConMon (ctr P7 [3] [35] W33)
theorem q33 (x0 : Int) (v : HR S [35]) : (Xf C33 6 (emp 0) 48 (argsA C33 [⟨3, x0⟩]) (emp 0) (fun r _ => isR C33.P [35] v r) (fun _ _ => False)) =
 ([IntKind.u8.wrap (x0.fdiv ((2 : Int) ^ nat_lit 24)), IntKind.u8.wrap (x0.fdiv ((2 : Int) ^ nat_lit 16)), IntKind.u8.wrap (x0.fdiv ((2 : Int) ^ nat_lit 8)),
 IntKind.u8.wrap x0] = v) := by kernel_rfl
end Go.Rx
namespace Go.Rx
open Go.Ab Go.L7 Go.L21
set_option maxRecDepth 100000
set_option maxHeartbeats 20000000
set_option linter.unusedVariables false
/-- interregnum/interregnumref05.GoodAttrs -/
noncomputable def C14 : Cfg S := { P := P7, inl := [], K := [(26, ctr P7 [25] [4] (fun x0 => (none, S29 x0))), (27, ctr P7 [22] [4] (fun x0 => (none, S30 x0)))], ann := [(8, [(4, .loop [(.sl 3, .int .i64)])])] }
abbrev W14 : CT S [4] [29] := (fun x0 => (none, S14 x0))
abbrev Ok14 : Prop := ConOk P7 8 (ctr P7 [29] [4] W14) ∧ ConMon (ctr P7 [29] [4] W14)
theorem q14 (x0 : api_Attrs) (v : HR S [4]) : (Xf C14 6 (emp 0) 8 (argsA C14 [⟨29, x0⟩]) (emp 0) (fun r _ => isR C14.P [4] v r) (fun _ _ => False)) = (bif
 decide (x0.fOrigin < (0 : Int)) || decide ((2 : Int) < x0.fOrigin) then false = v else bif !S29 x0.fPath then false = v else bif !S30 x0.fNext || decide
 (x0.fMed < (-1 : Int)) || decide ((4294967295 : Int) < x0.fMed) || decide (x0.fPref < (-1 : Int)) || decide ((4294967295 : Int) < x0.fPref) || decide ((32 :
 Int) < (↑x0.fComms.length : Int)) then false = v else LOOP (fun (h : Int) (J : Int → Prop) => bif decide (h < (↑x0.fRaws.length : Int)) then ((0 : Int) ≤ h ∧
 h < (↑x0.fRaws.length : Int)) ∧ ((!(decide ((ix x0.fRaws h).fType = (6 : Int)) && decide ((ix x0.fRaws h).fFlags = (64 : Int)) && decide ((↑(ix x0.fRaws
 h).fData.length : Int) = (0 : Int))) && !(decide ((ix x0.fRaws h).fType = (7 : Int)) && decide ((ix x0.fRaws h).fFlags = (192 : Int)) && decide ((↑(ix
 x0.fRaws h).fData.length : Int) = (8 : Int))) && !(decide ((8 : Int) < (ix x0.fRaws h).fType) && decide ((ix x0.fRaws h).fType ≤ (255 : Int)) && decide ((ix
 x0.fRaws h).fFlags = (224 : Int)) && decide ((↑(ix x0.fRaws h).fData.length : Int) ≤ (255 : Int)))) = false → decide ((0 : Int) < h) = true → (0 : Int) ≤
 IntKind.i64.wrap (h - (1 : Int)) ∧ IntKind.i64.wrap (h - (1 : Int)) < (↑x0.fRaws.length : Int)) ∧ bif !(decide ((ix x0.fRaws h).fType = (6 : Int)) && decide
 ((ix x0.fRaws h).fFlags = (64 : Int)) && decide ((↑(ix x0.fRaws h).fData.length : Int) = (0 : Int))) && !(decide ((ix x0.fRaws h).fType = (7 : Int)) && decide
 ((ix x0.fRaws h).fFlags = (192 : Int)) && decide ((↑(ix x0.fRaws h).fData.length : Int) = (8 : Int))) && !(decide ((8 : Int) < (ix x0.fRaws h).fType) &&
 decide ((ix x0.fRaws h).fType ≤ (255 : Int)) && decide ((ix x0.fRaws h).fFlags = (224 : Int)) && decide ((↑(ix x0.fRaws h).fData.length : Int) ≤ (255 : Int)))
 || decide ((0 : Int) < h) && decide ((ix x0.fRaws h).fType ≤ (ix x0.fRaws (IntKind.i64.wrap (h - (1 : Int)))).fType) then false = v else J (IntKind.i64.wrap
 (h + (1 : Int))) else true = v) (0 : Int)) := by kernel_rfl
end Go.Rx
namespace Go.Rx
open Go.Ab Go.L7 Go.L21
set_option maxRecDepth 100000
set_option maxHeartbeats 20000000
set_option linter.unusedVariables false
/-- interregnum/interregnumref05.Path -/
noncomputable def C32 : Cfg S := { P := P7, inl := [], K := [(26, ctr P7 [25] [4] (fun x0 => (none, S29 x0))), (48, ctr P7 [3] [35] (fun x0 => (none, S33 x0)))], ann := [(47, [(6, .join [(.sl 3, .own 5)]), (10, .join [(.sl 5, .int .u8)]), (12, .loop [(.sl 3, .own 5), (.sl 6, .int .i64)]), (5, .loop [(.sl 3, .own 5), (.sl 4, .int .i64)])])] }
abbrev W32 : CT S [35] [25] := (fun x0 => (some (P32 x0), S32 x0))
abbrev Ok32 : Prop := ConOk P7 47 (ctr P7 [25] [35] W32) ∧ ConMon (ctr P7 [25] [35] W32)
theorem q32 (x0 : List api_Segment) (v : HR S [35]) : (Xf C32 6 (emp 0) 47 (argsA C32 [⟨25, x0⟩]) (emp 0) (fun r _ => isR C32.P [35] v r) (fun _ _ => False)) =
 (bif !S29 x0 then [] = v else LOOP (fun (h : List Int × Int) (J : List Int × Int → Prop) => bif decide (h.snd < (↑x0.length : Int)) then h.fst.length =
 h.fst.length ∧ JP (fun (h_1 : List Int) => h_1.length = h_1.length ∧ J (h_1, IntKind.i64.wrap (h.snd + (1 : Int)))) fun (J : List Int → Prop) => JP (fun (h_1
 : Int) => ((0 : Int) ≤ h.snd ∧ h.snd < (↑x0.length : Int)) ∧ (h.fst.length = h.fst.length ∧ (h.fst.length + [h_1, IntKind.u8.wrap (↑(ix x0 h.snd).fAS.length :
 Int)].length) * nat_lit 1 ≤ nat_lit 140737488355328) ∧ ∀ (y : List (Int)), y = h.fst ++ [h_1, IntKind.u8.wrap (↑(ix x0 h.snd).fAS.length : Int)] → y.length =
 y.length ∧ LOOP (fun (h_3 : List Int × Int) (J_1 : List Int × Int → Prop) => ((0 : Int) ≤ h.snd ∧ h.snd < (↑x0.length : Int)) ∧ bif decide (h_3.snd < (↑(ix x0
 h.snd).fAS.length : Int)) then ((0 : Int) ≤ h.snd ∧ h.snd < (↑x0.length : Int)) ∧ ((0 : Int) ≤ h_3.snd ∧ h_3.snd < (↑(ix x0 h.snd).fAS.length : Int)) ∧
 (h_3.fst.length = h_3.fst.length ∧ (h_3.fst.length + (S33 (ix (ix x0 h.snd).fAS h_3.snd)).length) * nat_lit 1 ≤ nat_lit 140737488355328) ∧ ∀ (y : List (Int)),
 y = h_3.fst ++ S33 (ix (ix x0 h.snd).fAS h_3.snd) → y.length = y.length ∧ J_1 (y, IntKind.i64.wrap (h_3.snd + (1 : Int))) else h_3.fst.length = h_3.fst.length
 ∧ J h_3.fst) (y, (0 : Int))) fun (J : Int → Prop) => ((0 : Int) ≤ h.snd ∧ h.snd < (↑x0.length : Int)) ∧ bif (ix x0 h.snd).fSet then J (1 : Int) else J (2 :
 Int) else h.fst = v) ([], (0 : Int))) := by kernel_rfl
end Go.Rx
/-! The document's small functions. -/
namespace Go.Rx
open Go.Ab Go.L7
set_option linter.unusedVariables false
set_option linter.unusedSimpArgs false
set_option maxRecDepth 100000
theorem run30 : RunC C30 6 27 [4] [22] W30 [] := by
  intro (x : Int) hx _
  exact of_eq (q30 x _) rfl
theorem ok30 : Ok30 := con_ok (C := C30) kok_nil mx7 (by kernel_rfl) run30
theorem run33 : RunC C33 6 48 [35] [3] W33 [] := by
  intro (x : Int) hx _
  exact of_eq (q33 x _) rfl
theorem ok33 : Ok33 := con_ok (C := C33) kok_nil mx7 (by kernel_rfl) run33
theorem w64_id {n : Int} (h : -9223372036854775808 ≤ n ∧ n < 9223372036854775808) : IntKind.i64.wrap n = n := wrap64 (by omega)
theorem w64_def (n : Int) : w64 n = (n + 9223372036854775808) % 18446744073709551616 - 9223372036854775808 := Go.Ab.wrap64 n
theorem w64_add (n m : Int) : w64 (w64 n + m) = w64 (n + m) := by rw [w64_def, w64_def, w64_def]; omega
theorem w64_w64 (n : Int) : w64 (w64 n) = w64 n := by rw [w64_def, w64_def]; omega
theorem run29 : RunC C29 6 26 [4] [25] W29 [] := by
  intro (x : List api_Segment) hx _
  have hp : x.length ≤ 9223372036854775807 := hx.1.1
  refine of_eq (q29 x (S26 x)) ?_
  generalize hv : S26 x = v
  unfold S26 at hv
  refine listLoop (l := x) hp (fun (n : Int) i => (n, i)) (fun y => y.2) (fun _ _ => rfl) (fun i r n => w64 n = n ∧ goodP r n = v) ⟨by decide, hv⟩ ?_ ?_
  · rintro n i s r J k1 k2 k3 k4 k5 ⟨k0, k6⟩ hJ
    refine bif_of (fun _ => ⟨⟨k1, k2⟩, fun _ => ⟨k1, k2⟩, ?_⟩) (fun h => absurd k2 (of_decide_eq_false h))
    simp only [k3]
    simp only [goodP] at k6
    refine bif_of (fun h => ?_) (fun h => ?_)
    · rw [if_pos (by simp only [Bool.or_eq_true, decide_eq_true_eq] at h; omega)] at k6
      exact k6
    · rw [if_neg (by simp only [Bool.or_eq_false_iff, decide_eq_false_iff_not] at h; omega)] at k6
      have hs : s.fAS.length ≤ 9223372036854775807 := by simp only [Bool.or_eq_false_iff, decide_eq_false_iff_not] at h; omega
      refine listLoop (l := s.fAS) hs (fun (n : Int) i => (n, i)) (fun y => y.2) (fun _ _ => rfl) (fun j r' m => (s.fAS.all asOk = r'.all asOk) ∧ m = w64 (n + j)) (s0 := n) ⟨rfl, by rw [Int.add_zero, k0]⟩ ?_ ?_
      · rintro m j a r' J' j1 j2 j3 j4 j5 ⟨j6, j7⟩ hJ'
        refine ⟨⟨k1, k2⟩, bif_of (fun _ => ⟨⟨k1, k2⟩, ⟨j1, j2⟩, fun _ => ⟨k1, k2⟩, fun _ => ⟨j1, j2⟩, ?_⟩) (fun h => absurd j2 (of_decide_eq_false h))⟩
        simp only [j3]
        refine bif_of (fun h => ?_) (fun h => hJ' _ ⟨?_, ?_⟩)
        · have : asOk a = false := by unfold asOk; simp at h ⊢; omega
          rw [j6] at k6
          simp only [List.all_cons, this, Bool.false_and] at k6
          rw [if_neg (by simp)] at k6
          exact k6
        · have : asOk a = true := by unfold asOk; simp at h ⊢; omega
          rw [j6]
          simp [this]
        · show w64 (m + 1) = _
          rw [j7, w64_add, Int.add_assoc]
      · rintro m j J' rfl ⟨j6, j7⟩
        refine ⟨⟨k1, k2⟩, bif_of (fun h => absurd (of_decide_eq_true h) (by simp)) (fun _ => hJ _ ⟨?_, ?_⟩)⟩
        · show w64 m = m
          rw [j7, w64_w64]
        · rw [j6] at k6
          simp only [List.all_nil, if_true] at k6
          show goodP r m = v
          rw [j7]; exact k6
  · rintro n i J rfl ⟨_, h⟩
    exact bif_of (fun h => absurd (of_decide_eq_true h) (by simp)) (fun _ => h)
theorem ok29 : Ok29 := con_ok (C := C29) kok_nil mx7 (by kernel_rfl) run29
/-- Raws one by one, as the document has them. -/
theorem S28_eq (r : api_Raw) : S28 r = !(!(decide (r.fType = 6) && decide (r.fFlags = 64) && decide ((r.fData.length : Int) = 0)) && !(decide (r.fType = 7) && decide (r.fFlags = 192) && decide ((r.fData.length : Int) = 8)) && !(decide (8 < r.fType) && decide (r.fType ≤ 255) && decide (r.fFlags = 224) && decide ((r.fData.length : Int) ≤ 255))) := by
  unfold S28
  by_cases h6 : r.fType = 6
  · rw [if_pos h6, h6]; simp
  · rw [if_neg h6]
    by_cases h7 : r.fType = 7
    · rw [if_pos h7, h7]; simp
    · rw [if_neg h7]; simp [h6, h7]
theorem run14 : RunC C14 6 8 [4] [29] W14 [] := by
  intro (x : api_Attrs) hx _
  have hr : x.fRaws.length ≤ 9223372036854775807 := hx.2.2.1.1
  refine of_eq (q14 x (S13 x)) ?_
  refine bif_of (fun h => ?_) (fun h1 => bif_of (fun h => ?_) fun h2 => bif_of (fun h => ?_) fun h3 => ?_)
  · simp [S13, h]
  · simp only [Bool.not_eq_true'] at h; change S26 x.fPath = false at h; simp [S13, h]
  · have : (S27 x.fNext && !decide (32 < (x.fComms.length : Int)) && (decide (-1 ≤ x.fMed) && decide (x.fMed ≤ 4294967295) && decide (-1 ≤ x.fPref) && decide (x.fPref ≤ 4294967295))) = false := by
      rw [Bool.eq_false_iff]
      intro hc
      simp only [Bool.and_eq_true, Bool.not_eq_true', decide_eq_true_eq, decide_eq_false_iff_not, Bool.or_eq_true] at h hc
      rcases h with ((((h | h) | h) | h) | h) | h
      · rw [show S30 x.fNext = S27 x.fNext from rfl, hc.1.1] at h; cases h
      all_goals omega
    refine (Bool.eq_false_iff.2 fun hc => ?_).symm
    unfold S13 at hc
    simp only [Bool.and_eq_true] at hc this
    rw [Bool.eq_false_iff] at this
    exact this (by simp only [Bool.and_eq_true]; exact ⟨⟨hc.1.1.1.2, hc.1.1.2⟩, hc.2⟩)
  · simp only [Bool.or_eq_false_iff, Bool.not_eq_false'] at h2 h3
    have hv : S13 x = rawsUp none x.fRaws := by
      have e1 : S26 x.fPath = true := h2
      have e2 : S27 x.fNext = true := h3.1.1.1.1.1
      have e3 : decide (-1 ≤ x.fMed) = true := decide_eq_true (by have := of_decide_eq_false h3.1.1.1.1.2; omega)
      have e4 : decide (x.fMed ≤ 4294967295) = true := decide_eq_true (by have := of_decide_eq_false h3.1.1.1.2; omega)
      have e5 : decide (-1 ≤ x.fPref) = true := decide_eq_true (by have := of_decide_eq_false h3.1.1.2; omega)
      have e6 : decide (x.fPref ≤ 4294967295) = true := decide_eq_true (by have := of_decide_eq_false h3.1.2; omega)
      unfold S13; rw [h1, e1, e2, h3.2, e3, e4, e5, e6]; simp
    rw [hv]
    refine listLoop (l := x.fRaws) hr (fun (_ : Unit) i => i) id (fun _ _ => rfl) (fun i r _ => rawsUp none x.fRaws = rawsUp (if i = 0 then none else some (ix x.fRaws (i - 1)).fType) r) (s0 := ()) rfl ?_ ?_
    · rintro _ i s r J k1 k2 k3 k4 k5 k6 hJ
      refine bif_of (fun _ => ⟨⟨k1, k2⟩, fun _ h => ?_, ?_⟩) (fun h => absurd k2 (of_decide_eq_false h))
      · have h := of_decide_eq_true h
        rw [wrap64 (by omega)]
        exact ⟨by omega, by omega⟩
      · rw [wrap64 (by omega)]
        simp only [k3]
        have hS := S28_eq s
        refine bif_of (fun h => ?_) (fun h => hJ () ?_)
        · have : rawsUp none x.fRaws = false := by
            rw [k6]
            rw [Bool.or_eq_true] at h
            rcases h with h | h
            · rw [h] at hS
              simp [rawsUp, hS]
            · simp only [Bool.and_eq_true, decide_eq_true_eq] at h
              rw [if_neg (by omega)]
              have : ¬ (ix x.fRaws (i - 1)).fType < s.fType := by omega
              simp [rawsUp, this]
          rw [this]
        · have e1 : (if i + 1 = 0 then none else some (ix x.fRaws (i + 1 - 1)).fType) = some s.fType := by rw [if_neg (by omega), show i + 1 - 1 = i by omega, k3]
          rw [k6, e1]
          rw [Bool.or_eq_false_iff] at h
          rw [h.1] at hS
          have h2 := h.2
          simp only [Bool.and_eq_false_iff, decide_eq_false_iff_not] at h2
          by_cases hi : i = 0
          · rw [if_pos hi]; simp [rawsUp, hS]
          · rw [if_neg hi]
            have : (ix x.fRaws (i - 1)).fType < s.fType := by omega
            simp [rawsUp, hS, this]
    · rintro _ i J rfl h
      refine bif_of (fun h => absurd (of_decide_eq_true h) (by simp)) (fun _ => ?_)
      rw [h]; simp [rawsUp]
theorem ok14 : Ok14 := con_ok (C := C14) (kok_cons ok29 (kk1 ok30)) mx7 (by kernel_rfl) run14
theorem u8_u32 (n k : Int) (hk : k = 1 ∨ k = 256 ∨ k = 65536 ∨ k = 16777216) : IntKind.u8.wrap ((IntKind.u32.wrap n).fdiv k) = IntKind.u8.wrap (n.fdiv k) := by
  have h8 : ∀ m : Int, IntKind.u8.wrap m = m % 256 := fun m => rfl
  have h32 : ∀ m : Int, IntKind.u32.wrap m = m % 4294967296 := fun m => rfl
  rw [h8, h8, h32]
  rcases hk with rfl | rfl | rfl | rfl
  · rw [Int.fdiv_eq_ediv_of_nonneg _ (by omega), Int.fdiv_eq_ediv_of_nonneg _ (by omega)]; omega
  · rw [Int.fdiv_eq_ediv_of_nonneg _ (by omega), Int.fdiv_eq_ediv_of_nonneg _ (by omega)]; omega
  · rw [Int.fdiv_eq_ediv_of_nonneg _ (by omega), Int.fdiv_eq_ediv_of_nonneg _ (by omega)]; omega
  · rw [Int.fdiv_eq_ediv_of_nonneg _ (by omega), Int.fdiv_eq_ediv_of_nonneg _ (by omega)]; omega
theorem put4_u32 (n : Int) : put4 (IntKind.u32.wrap n) = put4 n := by
  unfold put4
  have h0 := u8_u32 n 1 (by simp)
  rw [Int.fdiv_one, Int.fdiv_one] at h0
  have h1 := u8_u32 n 256 (by simp)
  have h2 := u8_u32 n 65536 (by simp)
  have h3 := u8_u32 n 16777216 (by simp)
  rw [show (2 : Int) ^ 8 = 256 from rfl, show (2 : Int) ^ 16 = 65536 from rfl, show (2 : Int) ^ 24 = 16777216 from rfl, h0, h1, h2, h3]
theorem run32 : RunC C32 6 47 [35] [25] W32 [] := by
  intro (x : List api_Segment) hx hp
  have hp : x.length ≤ 140737488355328 := hp _ rfl
  refine of_eq (q32 x (S23 x)) ?_
  refine bif_of (fun h => ?_) (fun h => ?_)
  · simp only [Bool.not_eq_true'] at h; change S26 x = false at h; simp [S23, h]
  · simp only [Bool.not_eq_false'] at h
    change S26 x = true at h
    have hv : S23 x = x.flatMap segB := by simp [S23, h]
    rw [hv]
    obtain ⟨g1, g2⟩ := goodP_spec x 0 h (Int.le_refl _) (by omega)
    have hlen : (x.flatMap segB).length ≤ 384 := by
      rw [seg_len]
      have := asSum_len x fun s hs => (g2 s hs).1
      omega
    revert hlen
    generalize hF : x.flatMap segB = F
    intro hlen
    refine listLoop (l := x) (by omega) (fun (o : List Int) i => (o, i)) (fun y => y.2) (fun _ _ => rfl) (fun i r o => o ++ r.flatMap segB = F) (s0 := []) (by simpa using hF) ?_ ?_
    · rintro o i s r J k1 k2 k3 k4 k5 k6 hJ
      refine bif_of (fun _ => ⟨rfl, JP.of (fun o' => o' ++ r.flatMap segB = F) (fun J' hJ' => ?_) (fun y hy => ⟨rfl, hJ _ hy⟩)⟩) (fun h => absurd k2 (of_decide_eq_false h))
      simp only [k3]
      refine JP.of (fun c => c = if s.fSet then 1 else 2) (fun J hJ => ⟨⟨k1, k2⟩, bif_of (fun h => hJ _ (by simp [h])) (fun h => hJ _ (by simp [h]))⟩) fun c hc => ⟨⟨k1, k2⟩, ?_⟩
      have hF1 : o.length ≤ 384 := by have := congrArg List.length k6; rw [List.length_append] at this; omega
      refine ⟨⟨by trivial, by show (o.length + 2) * 1 ≤ 140737488355328; omega⟩, fun (y : List Int) hy => ⟨by trivial, ?_⟩⟩
      obtain ⟨s1, s2, s3⟩ := g2 s k4
      have k7 : y ++ (s.fAS.flatMap fun n => put4 (IntKind.u32.wrap n)) ++ r.flatMap segB = F := by
        rw [← k6, List.flatMap_cons, hy, hc]
        simp [segB]
      refine listLoop (l := s.fAS) (by omega) (fun (o : List Int) i => (o, i)) (fun y => y.2) (fun _ _ => rfl) (fun i r' o => o ++ (r'.flatMap fun n => put4 (IntKind.u32.wrap n)) ++ r.flatMap segB = F) (s0 := y) k7 ?_ ?_
      · rintro o2 j n r' J2 j1 j2 j3 j4 j5 j6 hJ2
        have hF2 : o2.length ≤ 384 := by have := congrArg List.length j6; rw [List.length_append, List.length_append] at this; omega
        refine ⟨⟨k1, k2⟩, bif_of (fun _ => ⟨⟨k1, k2⟩, ⟨j1, j2⟩, ⟨by trivial, by show (o2.length + 4) * 1 ≤ 140737488355328; omega⟩, fun (z : List Int) hz => ⟨by trivial, ?_⟩⟩) (fun h => absurd j2 (of_decide_eq_false h))⟩
        refine hJ2 z ?_
        rw [← j6, hz]
        simp only [j3, S33]
        rw [List.flatMap_cons, put4_u32]
        simp
      · rintro o2 j J2 rfl j6
        refine ⟨⟨k1, k2⟩, bif_of (fun h => absurd (of_decide_eq_true h) (by simp)) (fun _ => ⟨by trivial, hJ' _ (by simpa using j6)⟩)⟩
    · rintro o i J rfl h
      refine bif_of (fun h => absurd (of_decide_eq_true h) (by simp)) (fun _ => ?_)
      simpa using h
theorem ok32 : Ok32 := con_ok (C := C32) (kok_cons ok29 (kk1 ok33)) mx7 (by kernel_rfl) run32
end Go.Rx
namespace Go.Rx
open Go.Ab Go.L7 Go.L21
set_option maxRecDepth 100000
set_option maxHeartbeats 20000000
set_option linter.unusedVariables false
/-- interregnum/interregnumref05.Attrs -/
noncomputable def C16 : Cfg S := { P := P7, inl := [], K := [(48, ctr P7 [3] [35] (fun x0 => (none, S33 x0))), (8, ctr P7 [29] [4] (fun x0 => (none, S14 x0))), (47, ctr P7 [25] [35] (fun x0 => (some (P32 x0), S32 x0)))], ann := [(25, [(8, .join [(.sl 3, .own 5)]), (10, .join [(.sl 3, .own 5)]), (22, .join [(.sl 3, .own 5)]), (24, .join [(.sl 3, .own 5)]), (23, .loop [(.sl 3, .own 5), (.sl 7, .int .i64)]), (17, .loop [(.sl 5, .own 5), (.sl 6, .int .i64)]), (12, .join [(.sl 3, .own 5)]), (11, .loop [(.sl 3, .own 5), (.sl 4, .int .i64)]), (5, .join [(.sl 3, .own 5)]), (6, .join [(.sl 3, .own 5)])])] }
abbrev W16 : CT S [35] [29] := (fun x0 => (some (P16 x0), S16 x0))
abbrev Ok16 : Prop := ConOk P7 25 (ctr P7 [29] [35] W16) ∧ ConMon (ctr P7 [29] [35] W16)
theorem q16 (x0 : api_Attrs) (v : HR S [35]) : (Xf C16 6 (emp 0) 25 (argsA C16 [⟨29, x0⟩]) (emp 0) (fun r _ => isR C16.P [35] v r) (fun _ _ => False)) = (bif
 !S14 x0 then [] = v else ([IntKind.u8.wrap (64 : Int), IntKind.u8.wrap (1 : Int), IntKind.u8.wrap (↑[IntKind.u8.wrap x0.fOrigin].length : Int)].length =
 [IntKind.u8.wrap (64 : Int), IntKind.u8.wrap (1 : Int), IntKind.u8.wrap (↑[IntKind.u8.wrap x0.fOrigin].length : Int)].length ∧ ([IntKind.u8.wrap (64 : Int),
 IntKind.u8.wrap (1 : Int), IntKind.u8.wrap (↑[IntKind.u8.wrap x0.fOrigin].length : Int)].length + [IntKind.u8.wrap x0.fOrigin].length) * nat_lit 1 ≤ nat_lit
 140737488355328) ∧ ∀ (y : List (Int)), y = [IntKind.u8.wrap (64 : Int), IntKind.u8.wrap (1 : Int), IntKind.u8.wrap (↑[IntKind.u8.wrap x0.fOrigin].length :
 Int)] ++ [IntKind.u8.wrap x0.fOrigin] → y.length = y.length ∧ JP (fun (h : List Int) => h.length = h.length ∧ JP (fun (h : List Int) => h.length = h.length ∧
 JP (fun (h : List Int) => h.length = h.length ∧ JP (fun (h : List Int) => h.length = h.length ∧ LOOP (fun (h : List Int × Int) (J : List Int × Int → Prop) =>
 bif decide (h.snd < (↑x0.fRaws.length : Int)) then h.fst.length = h.fst.length ∧ JP (fun (h_1 : List Int) => h_1.length = h_1.length ∧ J (h_1,
 IntKind.i64.wrap (h.snd + (1 : Int)))) fun (J : List Int → Prop) => ((0 : Int) ≤ h.snd ∧ h.snd < (↑x0.fRaws.length : Int)) ∧ bif decide ((ix x0.fRaws
 h.snd).fType < (8 : Int)) then ((0 : Int) ≤ h.snd ∧ h.snd < (↑x0.fRaws.length : Int)) ∧ ((0 : Int) ≤ h.snd ∧ h.snd < (↑x0.fRaws.length : Int)) ∧ ((0 : Int) ≤
 h.snd ∧ h.snd < (↑x0.fRaws.length : Int)) ∧ bif decide ((255 : Int) < (↑(ix x0.fRaws h.snd).fData.length : Int)) then ([IntKind.u8.wrap (IntKind.i64.wrap ((ix
 x0.fRaws h.snd).fFlags + (16 : Int))), IntKind.u8.wrap (ix x0.fRaws h.snd).fType, IntKind.u8.wrap (IntKind.i64.wrap ((↑(ix x0.fRaws h.snd).fData.length :
 Int).tdiv (256 : Int))), IntKind.u8.wrap ((↑(ix x0.fRaws h.snd).fData.length : Int).tmod (256 : Int))].length = [IntKind.u8.wrap (IntKind.i64.wrap ((ix
 x0.fRaws h.snd).fFlags + (16 : Int))), IntKind.u8.wrap (ix x0.fRaws h.snd).fType, IntKind.u8.wrap (IntKind.i64.wrap ((↑(ix x0.fRaws h.snd).fData.length :
 Int).tdiv (256 : Int))), IntKind.u8.wrap ((↑(ix x0.fRaws h.snd).fData.length : Int).tmod (256 : Int))].length ∧ ([IntKind.u8.wrap (IntKind.i64.wrap ((ix
 x0.fRaws h.snd).fFlags + (16 : Int))), IntKind.u8.wrap (ix x0.fRaws h.snd).fType, IntKind.u8.wrap (IntKind.i64.wrap ((↑(ix x0.fRaws h.snd).fData.length :
 Int).tdiv (256 : Int))), IntKind.u8.wrap ((↑(ix x0.fRaws h.snd).fData.length : Int).tmod (256 : Int))].length + (ix x0.fRaws h.snd).fData.length) * nat_lit 1
 ≤ nat_lit 140737488355328) ∧ ∀ (y : List (Int)), y = [IntKind.u8.wrap (IntKind.i64.wrap ((ix x0.fRaws h.snd).fFlags + (16 : Int))), IntKind.u8.wrap (ix
 x0.fRaws h.snd).fType, IntKind.u8.wrap (IntKind.i64.wrap ((↑(ix x0.fRaws h.snd).fData.length : Int).tdiv (256 : Int))), IntKind.u8.wrap ((↑(ix x0.fRaws
 h.snd).fData.length : Int).tmod (256 : Int))] ++ (ix x0.fRaws h.snd).fData → (h.fst.length = h.fst.length ∧ (h.fst.length + y.length) * nat_lit 1 ≤ nat_lit
 140737488355328) ∧ ∀ (y_1 : List (Int)), y_1 = h.fst ++ y → y_1.length = y_1.length ∧ J y_1 else ([IntKind.u8.wrap (ix x0.fRaws h.snd).fFlags, IntKind.u8.wrap
 (ix x0.fRaws h.snd).fType, IntKind.u8.wrap (↑(ix x0.fRaws h.snd).fData.length : Int)].length = [IntKind.u8.wrap (ix x0.fRaws h.snd).fFlags, IntKind.u8.wrap
 (ix x0.fRaws h.snd).fType, IntKind.u8.wrap (↑(ix x0.fRaws h.snd).fData.length : Int)].length ∧ ([IntKind.u8.wrap (ix x0.fRaws h.snd).fFlags, IntKind.u8.wrap
 (ix x0.fRaws h.snd).fType, IntKind.u8.wrap (↑(ix x0.fRaws h.snd).fData.length : Int)].length + (ix x0.fRaws h.snd).fData.length) * nat_lit 1 ≤ nat_lit
 140737488355328) ∧ ∀ (y : List (Int)), y = [IntKind.u8.wrap (ix x0.fRaws h.snd).fFlags, IntKind.u8.wrap (ix x0.fRaws h.snd).fType, IntKind.u8.wrap (↑(ix
 x0.fRaws h.snd).fData.length : Int)] ++ (ix x0.fRaws h.snd).fData → (h.fst.length = h.fst.length ∧ (h.fst.length + y.length) * nat_lit 1 ≤ nat_lit
 140737488355328) ∧ ∀ (y_1 : List (Int)), y_1 = h.fst ++ y → y_1.length = y_1.length ∧ J y_1 else h.fst.length = h.fst.length ∧ J h.fst else LOOP (fun (h_1 :
 List Int × Int) (J : List Int × Int → Prop) => bif decide (h_1.snd < (↑x0.fComms.length : Int)) then ((0 : Int) ≤ h_1.snd ∧ h_1.snd < (↑x0.fComms.length :
 Int)) ∧ (h_1.fst.length = h_1.fst.length ∧ (h_1.fst.length + (S33 (IntKind.i64.wrap (ix x0.fComms h_1.snd))).length) * nat_lit 1 ≤ nat_lit 140737488355328) ∧
 ∀ (y : List (Int)), y = h_1.fst ++ S33 (IntKind.i64.wrap (ix x0.fComms h_1.snd)) → y.length = y.length ∧ J (y, IntKind.i64.wrap (h_1.snd + (1 : Int))) else
 h.fst.length = h.fst.length ∧ JP (fun (h : List Int) => h.length = h.length ∧ LOOP (fun (h : List Int × Int) (J : List Int × Int → Prop) => bif decide (h.snd
 < (↑x0.fRaws.length : Int)) then h.fst.length = h.fst.length ∧ JP (fun (h_2 : List Int) => h_2.length = h_2.length ∧ J (h_2, IntKind.i64.wrap (h.snd + (1 :
 Int)))) fun (J : List Int → Prop) => ((0 : Int) ≤ h.snd ∧ h.snd < (↑x0.fRaws.length : Int)) ∧ bif decide ((8 : Int) < (ix x0.fRaws h.snd).fType) then ((0 :
 Int) ≤ h.snd ∧ h.snd < (↑x0.fRaws.length : Int)) ∧ ((0 : Int) ≤ h.snd ∧ h.snd < (↑x0.fRaws.length : Int)) ∧ ((0 : Int) ≤ h.snd ∧ h.snd < (↑x0.fRaws.length :
 Int)) ∧ bif decide ((255 : Int) < (↑(ix x0.fRaws h.snd).fData.length : Int)) then ([IntKind.u8.wrap (IntKind.i64.wrap ((ix x0.fRaws h.snd).fFlags + (16 :
 Int))), IntKind.u8.wrap (ix x0.fRaws h.snd).fType, IntKind.u8.wrap (IntKind.i64.wrap ((↑(ix x0.fRaws h.snd).fData.length : Int).tdiv (256 : Int))),
 IntKind.u8.wrap ((↑(ix x0.fRaws h.snd).fData.length : Int).tmod (256 : Int))].length = [IntKind.u8.wrap (IntKind.i64.wrap ((ix x0.fRaws h.snd).fFlags + (16 :
 Int))), IntKind.u8.wrap (ix x0.fRaws h.snd).fType, IntKind.u8.wrap (IntKind.i64.wrap ((↑(ix x0.fRaws h.snd).fData.length : Int).tdiv (256 : Int))),
 IntKind.u8.wrap ((↑(ix x0.fRaws h.snd).fData.length : Int).tmod (256 : Int))].length ∧ ([IntKind.u8.wrap (IntKind.i64.wrap ((ix x0.fRaws h.snd).fFlags + (16 :
 Int))), IntKind.u8.wrap (ix x0.fRaws h.snd).fType, IntKind.u8.wrap (IntKind.i64.wrap ((↑(ix x0.fRaws h.snd).fData.length : Int).tdiv (256 : Int))),
 IntKind.u8.wrap ((↑(ix x0.fRaws h.snd).fData.length : Int).tmod (256 : Int))].length + (ix x0.fRaws h.snd).fData.length) * nat_lit 1 ≤ nat_lit
 140737488355328) ∧ ∀ (y : List (Int)), y = [IntKind.u8.wrap (IntKind.i64.wrap ((ix x0.fRaws h.snd).fFlags + (16 : Int))), IntKind.u8.wrap (ix x0.fRaws
 h.snd).fType, IntKind.u8.wrap (IntKind.i64.wrap ((↑(ix x0.fRaws h.snd).fData.length : Int).tdiv (256 : Int))), IntKind.u8.wrap ((↑(ix x0.fRaws
 h.snd).fData.length : Int).tmod (256 : Int))] ++ (ix x0.fRaws h.snd).fData → (h.fst.length = h.fst.length ∧ (h.fst.length + y.length) * nat_lit 1 ≤ nat_lit
 140737488355328) ∧ ∀ (y_1 : List (Int)), y_1 = h.fst ++ y → y_1.length = y_1.length ∧ J y_1 else ([IntKind.u8.wrap (ix x0.fRaws h.snd).fFlags, IntKind.u8.wrap
 (ix x0.fRaws h.snd).fType, IntKind.u8.wrap (↑(ix x0.fRaws h.snd).fData.length : Int)].length = [IntKind.u8.wrap (ix x0.fRaws h.snd).fFlags, IntKind.u8.wrap
 (ix x0.fRaws h.snd).fType, IntKind.u8.wrap (↑(ix x0.fRaws h.snd).fData.length : Int)].length ∧ ([IntKind.u8.wrap (ix x0.fRaws h.snd).fFlags, IntKind.u8.wrap
 (ix x0.fRaws h.snd).fType, IntKind.u8.wrap (↑(ix x0.fRaws h.snd).fData.length : Int)].length + (ix x0.fRaws h.snd).fData.length) * nat_lit 1 ≤ nat_lit
 140737488355328) ∧ ∀ (y : List (Int)), y = [IntKind.u8.wrap (ix x0.fRaws h.snd).fFlags, IntKind.u8.wrap (ix x0.fRaws h.snd).fType, IntKind.u8.wrap (↑(ix
 x0.fRaws h.snd).fData.length : Int)] ++ (ix x0.fRaws h.snd).fData → (h.fst.length = h.fst.length ∧ (h.fst.length + y.length) * nat_lit 1 ≤ nat_lit
 140737488355328) ∧ ∀ (y_1 : List (Int)), y_1 = h.fst ++ y → y_1.length = y_1.length ∧ J y_1 else h.fst.length = h.fst.length ∧ J h.fst else h.fst = v) (h, (0
 : Int))) fun (J : List Int → Prop) => bif decide ((0 : Int) < (↑h_1.fst.length : Int)) then bif decide ((255 : Int) < (↑h_1.fst.length : Int)) then
 ([IntKind.u8.wrap (IntKind.i64.wrap ((192 : Int) + (16 : Int))), IntKind.u8.wrap (8 : Int), IntKind.u8.wrap (IntKind.i64.wrap ((↑h_1.fst.length : Int).tdiv
 (256 : Int))), IntKind.u8.wrap ((↑h_1.fst.length : Int).tmod (256 : Int))].length = [IntKind.u8.wrap (IntKind.i64.wrap ((192 : Int) + (16 : Int))),
 IntKind.u8.wrap (8 : Int), IntKind.u8.wrap (IntKind.i64.wrap ((↑h_1.fst.length : Int).tdiv (256 : Int))), IntKind.u8.wrap ((↑h_1.fst.length : Int).tmod (256 :
 Int))].length ∧ ([IntKind.u8.wrap (IntKind.i64.wrap ((192 : Int) + (16 : Int))), IntKind.u8.wrap (8 : Int), IntKind.u8.wrap (IntKind.i64.wrap
 ((↑h_1.fst.length : Int).tdiv (256 : Int))), IntKind.u8.wrap ((↑h_1.fst.length : Int).tmod (256 : Int))].length + h_1.fst.length) * nat_lit 1 ≤ nat_lit
 140737488355328) ∧ ∀ (y : List (Int)), y = [IntKind.u8.wrap (IntKind.i64.wrap ((192 : Int) + (16 : Int))), IntKind.u8.wrap (8 : Int), IntKind.u8.wrap
 (IntKind.i64.wrap ((↑h_1.fst.length : Int).tdiv (256 : Int))), IntKind.u8.wrap ((↑h_1.fst.length : Int).tmod (256 : Int))] ++ h_1.fst → (h.fst.length =
 h.fst.length ∧ (h.fst.length + y.length) * nat_lit 1 ≤ nat_lit 140737488355328) ∧ ∀ (y_1 : List (Int)), y_1 = h.fst ++ y → y_1.length = y_1.length ∧ J y_1
 else ([IntKind.u8.wrap (192 : Int), IntKind.u8.wrap (8 : Int), IntKind.u8.wrap (↑h_1.fst.length : Int)].length = [IntKind.u8.wrap (192 : Int), IntKind.u8.wrap
 (8 : Int), IntKind.u8.wrap (↑h_1.fst.length : Int)].length ∧ ([IntKind.u8.wrap (192 : Int), IntKind.u8.wrap (8 : Int), IntKind.u8.wrap (↑h_1.fst.length :
 Int)].length + h_1.fst.length) * nat_lit 1 ≤ nat_lit 140737488355328) ∧ ∀ (y : List (Int)), y = [IntKind.u8.wrap (192 : Int), IntKind.u8.wrap (8 : Int),
 IntKind.u8.wrap (↑h_1.fst.length : Int)] ++ h_1.fst → (h.fst.length = h.fst.length ∧ (h.fst.length + y.length) * nat_lit 1 ≤ nat_lit 140737488355328) ∧ ∀ (y_1
 : List (Int)), y_1 = h.fst ++ y → y_1.length = y_1.length ∧ J y_1 else h.fst.length = h.fst.length ∧ J h.fst) ([], (0 : Int))) (h, (0 : Int))) fun (J : List
 Int → Prop) => bif decide ((0 : Int) ≤ x0.fPref) then ([IntKind.u8.wrap (64 : Int), IntKind.u8.wrap (5 : Int), IntKind.u8.wrap (↑(S33 x0.fPref).length :
 Int)].length = [IntKind.u8.wrap (64 : Int), IntKind.u8.wrap (5 : Int), IntKind.u8.wrap (↑(S33 x0.fPref).length : Int)].length ∧ ([IntKind.u8.wrap (64 : Int),
 IntKind.u8.wrap (5 : Int), IntKind.u8.wrap (↑(S33 x0.fPref).length : Int)].length + (S33 x0.fPref).length) * nat_lit 1 ≤ nat_lit 140737488355328) ∧ ∀ (y :
 List (Int)), y = [IntKind.u8.wrap (64 : Int), IntKind.u8.wrap (5 : Int), IntKind.u8.wrap (↑(S33 x0.fPref).length : Int)] ++ S33 x0.fPref → (h.length =
 h.length ∧ (h.length + y.length) * nat_lit 1 ≤ nat_lit 140737488355328) ∧ ∀ (y_1 : List (Int)), y_1 = h ++ y → y_1.length = y_1.length ∧ J y_1 else h.length =
 h.length ∧ J h) fun (J : List Int → Prop) => bif decide ((0 : Int) ≤ x0.fMed) then ([IntKind.u8.wrap (128 : Int), IntKind.u8.wrap (4 : Int), IntKind.u8.wrap
 (↑(S33 x0.fMed).length : Int)].length = [IntKind.u8.wrap (128 : Int), IntKind.u8.wrap (4 : Int), IntKind.u8.wrap (↑(S33 x0.fMed).length : Int)].length ∧
 ([IntKind.u8.wrap (128 : Int), IntKind.u8.wrap (4 : Int), IntKind.u8.wrap (↑(S33 x0.fMed).length : Int)].length + (S33 x0.fMed).length) * nat_lit 1 ≤ nat_lit
 140737488355328) ∧ ∀ (y : List (Int)), y = [IntKind.u8.wrap (128 : Int), IntKind.u8.wrap (4 : Int), IntKind.u8.wrap (↑(S33 x0.fMed).length : Int)] ++ S33
 x0.fMed → (h.length = h.length ∧ (h.length + y.length) * nat_lit 1 ≤ nat_lit 140737488355328) ∧ ∀ (y_1 : List (Int)), y_1 = h ++ y → y_1.length = y_1.length ∧
 J y_1 else h.length = h.length ∧ J h) fun (J : List Int → Prop) => ([IntKind.u8.wrap (64 : Int), IntKind.u8.wrap (3 : Int), IntKind.u8.wrap (↑(S33
 (IntKind.i64.wrap x0.fNext)).length : Int)].length = [IntKind.u8.wrap (64 : Int), IntKind.u8.wrap (3 : Int), IntKind.u8.wrap (↑(S33 (IntKind.i64.wrap
 x0.fNext)).length : Int)].length ∧ ([IntKind.u8.wrap (64 : Int), IntKind.u8.wrap (3 : Int), IntKind.u8.wrap (↑(S33 (IntKind.i64.wrap x0.fNext)).length :
 Int)].length + (S33 (IntKind.i64.wrap x0.fNext)).length) * nat_lit 1 ≤ nat_lit 140737488355328) ∧ ∀ (y : List (Int)), y = [IntKind.u8.wrap (64 : Int),
 IntKind.u8.wrap (3 : Int), IntKind.u8.wrap (↑(S33 (IntKind.i64.wrap x0.fNext)).length : Int)] ++ S33 (IntKind.i64.wrap x0.fNext) → (h.length = h.length ∧
 (h.length + y.length) * nat_lit 1 ≤ nat_lit 140737488355328) ∧ ∀ (y_1 : List (Int)), y_1 = h ++ y → y_1.length = y_1.length ∧ J y_1) fun (J : List Int → Prop)
 => x0.fPath.length.le (nat_lit 140737488355328) ∧ bif decide ((255 : Int) < (↑(S32 x0.fPath).length : Int)) then ([IntKind.u8.wrap (IntKind.i64.wrap ((64 :
 Int) + (16 : Int))), IntKind.u8.wrap (2 : Int), IntKind.u8.wrap (IntKind.i64.wrap ((↑(S32 x0.fPath).length : Int).tdiv (256 : Int))), IntKind.u8.wrap ((↑(S32
 x0.fPath).length : Int).tmod (256 : Int))].length = [IntKind.u8.wrap (IntKind.i64.wrap ((64 : Int) + (16 : Int))), IntKind.u8.wrap (2 : Int), IntKind.u8.wrap
 (IntKind.i64.wrap ((↑(S32 x0.fPath).length : Int).tdiv (256 : Int))), IntKind.u8.wrap ((↑(S32 x0.fPath).length : Int).tmod (256 : Int))].length ∧
 ([IntKind.u8.wrap (IntKind.i64.wrap ((64 : Int) + (16 : Int))), IntKind.u8.wrap (2 : Int), IntKind.u8.wrap (IntKind.i64.wrap ((↑(S32 x0.fPath).length :
 Int).tdiv (256 : Int))), IntKind.u8.wrap ((↑(S32 x0.fPath).length : Int).tmod (256 : Int))].length + (S32 x0.fPath).length) * nat_lit 1 ≤ nat_lit
 140737488355328) ∧ ∀ (y_1 : List (Int)), y_1 = [IntKind.u8.wrap (IntKind.i64.wrap ((64 : Int) + (16 : Int))), IntKind.u8.wrap (2 : Int), IntKind.u8.wrap
 (IntKind.i64.wrap ((↑(S32 x0.fPath).length : Int).tdiv (256 : Int))), IntKind.u8.wrap ((↑(S32 x0.fPath).length : Int).tmod (256 : Int))] ++ S32 x0.fPath →
 (y.length = y.length ∧ (y.length + y_1.length) * nat_lit 1 ≤ nat_lit 140737488355328) ∧ ∀ (y_2 : List (Int)), y_2 = y ++ y_1 → y_2.length = y_2.length ∧ J y_2
 else ([IntKind.u8.wrap (64 : Int), IntKind.u8.wrap (2 : Int), IntKind.u8.wrap (↑(S32 x0.fPath).length : Int)].length = [IntKind.u8.wrap (64 : Int),
 IntKind.u8.wrap (2 : Int), IntKind.u8.wrap (↑(S32 x0.fPath).length : Int)].length ∧ ([IntKind.u8.wrap (64 : Int), IntKind.u8.wrap (2 : Int), IntKind.u8.wrap
 (↑(S32 x0.fPath).length : Int)].length + (S32 x0.fPath).length) * nat_lit 1 ≤ nat_lit 140737488355328) ∧ ∀ (y_1 : List (Int)), y_1 = [IntKind.u8.wrap (64 :
 Int), IntKind.u8.wrap (2 : Int), IntKind.u8.wrap (↑(S32 x0.fPath).length : Int)] ++ S32 x0.fPath → (y.length = y.length ∧ (y.length + y_1.length) * nat_lit 1
 ≤ nat_lit 140737488355328) ∧ ∀ (y_2 : List (Int)), y_2 = y ++ y_1 → y_2.length = y_2.length ∧ J y_2) := by kernel_rfl
end Go.Rx
