import Derived.Test.YtadjcpiiagkdeaaDoorT5
import Derived.Shelf.Strings.Builder1
import Derived.Shelf.Strconv.Itoa3
import Derived.Shelf.Strconv.AtoiAll
import Derived.Ground.MpProg
import Derived.Shelf.Pu.ParseUintPublic10
import Derived.Shelf.Strings.Search1
import Derived.Test.YtadjcpiiagkdeaaDoorProg
import Derived.Shelf.Strings.Search2
import Derived.Sort.Grow
import Derived.Shelf.Strconv.Itoa2
import Derived.Lib.AppendIntMem
import Derived.Lib.ItoaWalk
import Derived.Lib.ItoaMem
import Derived.WalkKit
import Derived.BigCall
import Derived.BigGuard
import Derived.Lib.Builder
import Derived.Lib.Strings
import Derived.Lib.Walk
import Derived.Lib.ConvBytes
import Derived.Lib.ParseIntBMem
import Derived.Lib.Hide
import Derived.Laws.Strings3
import Derived.Laws.Closers25
import Derived.Laws.Closers25b
import Derived.Shelf.Pu.ToError
set_option linter.unusedVariables false
set_option linter.unusedSimpArgs false
/-
  DERIVED: THE SHELF's CONTRACTS AT THIS DUMP, IN PLAIN WORDS (tools/lay-plain.mjs out of 'SlrsD.lean', which tools/lay-shelf.mjs wrote): THE SAME DECLARATIONS UNDER THE SAME NAMES: 'import', 'namespace', 'open', 'def', 'theorem' AND NOTHING ELSE: no command of the shelf's: FOR A HAND-IN. Each laying: the table of numbers ('.._ren') and one theorem, a field a fact of the dump's own or the kernel's comparison; each contract: ONE APPLICATION.
-/
namespace Go.Proofs
open Go.Shelf
def Tryd.lays169_ren : Go.Shelf.Ren := ⟨fun | 169 => 35 | n => n, fun | 70 => 63 | 9 => 9 | 0 => 0 | 72 => 65 | 37 => 58 | 127 => 91 | 3 => 3 | 5 => 5 | n => n, fun | n => n⟩
theorem Tryd.lays169 : Go.Proofs.Lays.n169 Tryd.prog Tryd.lays169_ren := {
  mixed := by kernel_rfl
  f169 := Tryd.func35.trans (congrArg some (by kernel_rfl))
  t0 := Tryd.underlying0
  a0 := Tryd.isAgg0
  z0 := Tryd.sizeOf0
  v0 := Tryd.zeroValue0
  t3 := Tryd.underlying3
  a3 := Tryd.isAgg3
  z3 := Tryd.sizeOf3
  v3 := Tryd.zeroValue3
  t9 := Tryd.underlying9
  a9 := Tryd.isAgg9
  z9 := Tryd.sizeOf9
  v9 := Tryd.zeroValue9
  t37 := Tryd.underlying58
  a37 := Tryd.isAgg58
  z37 := Tryd.sizeOf58
  v37 := Tryd.zeroValue58
  t70 := Tryd.underlying63
  a70 := Tryd.isAgg63
  z70 := Tryd.sizeOf63
  v70 := Tryd.zeroValue63
  t72 := Tryd.underlying65
  a72 := Tryd.isAgg65
  z72 := Tryd.sizeOf65
  v72 := Tryd.zeroValue65
  t127 := Tryd.underlying91
  a127 := Tryd.isAgg91
  z127 := Tryd.sizeOf91
  v127 := Tryd.zeroValue91 }
theorem Tryd.Builder_Extra_169 : Builder.Extra Tryd.prog Tryd.lays169_ren := {
  sizeBuilder := by kernel_rfl
  liesBuilder := by kernel_rfl
  t5 := Tryd.underlying5
  a5 := Tryd.isAgg5
  z5 := Tryd.sizeOf5
  v5 := Tryd.zeroValue5
  infoByte := by kernel_rfl
  cellsByte := by kernel_rfl
  sizeByte := by kernel_rfl
  neB5 := by decide }
def Tryd.lays283_ren : Go.Shelf.Ren := ⟨fun | 283 => 76 | n => n, fun | 3 => 3 | 9 => 9 | 4 => 4 | n => n, fun | n => n⟩
theorem Tryd.lays283 : Go.Proofs.Lays.n283 Tryd.prog Tryd.lays283_ren := {
  mixed := by kernel_rfl
  f283 := Tryd.func76.trans (congrArg some (by kernel_rfl))
  t3 := Tryd.underlying3
  a3 := Tryd.isAgg3
  z3 := Tryd.sizeOf3
  v3 := Tryd.zeroValue3
  t4 := Tryd.underlying4
  a4 := Tryd.isAgg4
  z4 := Tryd.sizeOf4
  v4 := Tryd.zeroValue4
  t9 := Tryd.underlying9
  a9 := Tryd.isAgg9
  z9 := Tryd.sizeOf9
  v9 := Tryd.zeroValue9 }
def Tryd.laysM284_ren : Go.Shelf.Ren := ⟨fun | 284 => 77 | 129 => 94 | 317 => 93 | 318 => 95 | n => n, fun | 53 => 59 | 3 => 3 | 212 => 129 | 0 => 0 | 4 => 4 | 46 => 112 | 5 => 5 | 9 => 9 | n => n, fun | 17 => 3 | n => n⟩
theorem Tryd.laysM284 : Go.Proofs.LaysM.n284 Tryd.prog Tryd.laysM284_ren := {
  mixed := by kernel_rfl
  f129 := Tryd.func94.trans (congrArg some (by kernel_rfl))
  f284 := Tryd.func77.trans (congrArg some (by kernel_rfl))
  f317 := Tryd.func93.trans (congrArg some (by kernel_rfl))
  f318 := Tryd.func95.trans (congrArg some (by kernel_rfl))
  t0 := Tryd.underlying0
  a0 := Tryd.isAgg0
  z0 := Tryd.sizeOf0
  v0 := Tryd.zeroValue0
  t3 := Tryd.underlying3
  a3 := Tryd.isAgg3
  z3 := Tryd.sizeOf3
  v3 := Tryd.zeroValue3
  t4 := Tryd.underlying4
  a4 := Tryd.isAgg4
  z4 := Tryd.sizeOf4
  v4 := Tryd.zeroValue4
  t5 := Tryd.underlying5
  a5 := Tryd.isAgg5
  z5 := Tryd.sizeOf5
  v5 := Tryd.zeroValue5
  t9 := Tryd.underlying9
  a9 := Tryd.isAgg9
  z9 := Tryd.sizeOf9
  v9 := Tryd.zeroValue9
  t46 := Tryd.underlying112
  a46 := Tryd.isAgg112
  z46 := Tryd.sizeOf112
  v46 := Tryd.zeroValue112
  t53 := Tryd.underlying59
  a53 := Tryd.isAgg59
  z53 := Tryd.sizeOf59
  v53 := Tryd.zeroValue59
  t212 := Tryd.underlying129
  a212 := Tryd.isAgg129
  z212 := Tryd.sizeOf129
  v212 := Tryd.zeroValue129
  g17 := by kernel_rfl
  i0 := by kernel_rfl
  i3 := by kernel_rfl
  i4 := by kernel_rfl
  i5 := by kernel_rfl
  i9 := by kernel_rfl
  i46 := by kernel_rfl
  i53 := by kernel_rfl
  i212 := by kernel_rfl
  m17 := by kernel_rfl }
def Tryd.lays285_ren : Go.Shelf.Ren := ⟨fun | 285 => 78 | n => n, fun | 37 => 58 | 53 => 59 | 3 => 3 | 4 => 4 | 51 => 31 | 9 => 9 | 5 => 5 | 0 => 0 | n => n, fun | n => n⟩
theorem Tryd.lays285 : Go.Proofs.Lays.n285 Tryd.prog Tryd.lays285_ren := {
  mixed := by kernel_rfl
  f285 := Tryd.func78.trans (congrArg some (by kernel_rfl))
  t0 := Tryd.underlying0
  a0 := Tryd.isAgg0
  z0 := Tryd.sizeOf0
  v0 := Tryd.zeroValue0
  t3 := Tryd.underlying3
  a3 := Tryd.isAgg3
  z3 := Tryd.sizeOf3
  v3 := Tryd.zeroValue3
  t4 := Tryd.underlying4
  a4 := Tryd.isAgg4
  z4 := Tryd.sizeOf4
  v4 := Tryd.zeroValue4
  t5 := Tryd.underlying5
  a5 := Tryd.isAgg5
  z5 := Tryd.sizeOf5
  v5 := Tryd.zeroValue5
  t9 := Tryd.underlying9
  a9 := Tryd.isAgg9
  z9 := Tryd.sizeOf9
  v9 := Tryd.zeroValue9
  t37 := Tryd.underlying58
  a37 := Tryd.isAgg58
  z37 := Tryd.sizeOf58
  v37 := Tryd.zeroValue58
  t51 := Tryd.underlying31
  a51 := Tryd.isAgg31
  z51 := Tryd.sizeOf31
  v51 := Tryd.zeroValue31
  t53 := Tryd.underlying59
  a53 := Tryd.isAgg59
  z53 := Tryd.sizeOf59
  v53 := Tryd.zeroValue59 }
def Tryd.laysM171_ren : Go.Shelf.Ren := ⟨fun | 171 => 33 | 243 => 51 | 246 => 64 | 283 => 76 | 284 => 77 | 285 => 78 | 286 => 79 | 129 => 94 | 317 => 93 | 318 => 95 | 319 => 96 | 320 => 97 | 337 => 105 | 338 => 106 | n => n, fun | 3 => 3 | 9 => 9 | 2 => 2 | 4 => 4 | 171 => 116 | 0 => 0 | 53 => 59 | 37 => 58 | 5 => 5 | 173 => 119 | 212 => 129 | 51 => 31 | 20 => 20 | 213 => 130 | 46 => 112 | 232 => 144 | 233 => 145 | n => n, fun | 17 => 3 | 18 => 4 | 19 => 5 | n => n⟩
theorem Tryd.laysM171 : Go.Proofs.LaysM.n171 Tryd.prog Tryd.laysM171_ren := {
  mixed := by kernel_rfl
  f129 := Tryd.func94.trans (congrArg some (by kernel_rfl))
  f171 := Tryd.func33.trans (congrArg some (by kernel_rfl))
  f243 := Tryd.func51.trans (congrArg some (by kernel_rfl))
  f246 := Tryd.func64.trans (congrArg some (by kernel_rfl))
  f283 := Tryd.func76.trans (congrArg some (by kernel_rfl))
  f284 := Tryd.func77.trans (congrArg some (by kernel_rfl))
  f285 := Tryd.func78.trans (congrArg some (by kernel_rfl))
  f286 := Tryd.func79.trans (congrArg some (by kernel_rfl))
  f317 := Tryd.func93.trans (congrArg some (by kernel_rfl))
  f318 := Tryd.func95.trans (congrArg some (by kernel_rfl))
  f319 := Tryd.func96.trans (congrArg some (by kernel_rfl))
  f320 := Tryd.func97.trans (congrArg some (by kernel_rfl))
  f337 := Tryd.func105.trans (congrArg some (by kernel_rfl))
  f338 := Tryd.func106.trans (congrArg some (by kernel_rfl))
  t0 := Tryd.underlying0
  a0 := Tryd.isAgg0
  z0 := Tryd.sizeOf0
  v0 := Tryd.zeroValue0
  t2 := Tryd.underlying2
  a2 := Tryd.isAgg2
  z2 := Tryd.sizeOf2
  v2 := Tryd.zeroValue2
  t3 := Tryd.underlying3
  a3 := Tryd.isAgg3
  z3 := Tryd.sizeOf3
  v3 := Tryd.zeroValue3
  t4 := Tryd.underlying4
  a4 := Tryd.isAgg4
  z4 := Tryd.sizeOf4
  v4 := Tryd.zeroValue4
  t5 := Tryd.underlying5
  a5 := Tryd.isAgg5
  z5 := Tryd.sizeOf5
  v5 := Tryd.zeroValue5
  t9 := Tryd.underlying9
  a9 := Tryd.isAgg9
  z9 := Tryd.sizeOf9
  v9 := Tryd.zeroValue9
  t20 := Tryd.underlying20
  a20 := Tryd.isAgg20
  z20 := Tryd.sizeOf20
  v20 := Tryd.zeroValue20
  t37 := Tryd.underlying58
  a37 := Tryd.isAgg58
  z37 := Tryd.sizeOf58
  v37 := Tryd.zeroValue58
  t46 := Tryd.underlying112
  a46 := Tryd.isAgg112
  z46 := Tryd.sizeOf112
  v46 := Tryd.zeroValue112
  t51 := Tryd.underlying31
  a51 := Tryd.isAgg31
  z51 := Tryd.sizeOf31
  v51 := Tryd.zeroValue31
  t53 := Tryd.underlying59
  a53 := Tryd.isAgg59
  z53 := Tryd.sizeOf59
  v53 := Tryd.zeroValue59
  t171 := Tryd.underlying116
  a171 := Tryd.isAgg116
  z171 := Tryd.sizeOf116
  v171 := Tryd.zeroValue116
  t173 := Tryd.underlying119
  a173 := Tryd.isAgg119
  z173 := Tryd.sizeOf119
  v173 := Tryd.zeroValue119
  t212 := Tryd.underlying129
  a212 := Tryd.isAgg129
  z212 := Tryd.sizeOf129
  v212 := Tryd.zeroValue129
  t213 := Tryd.underlying130
  a213 := Tryd.isAgg130
  z213 := Tryd.sizeOf130
  t232 := Tryd.underlying144
  a232 := Tryd.isAgg144
  z232 := Tryd.sizeOf144
  v232 := Tryd.zeroValue144
  t233 := Tryd.underlying145
  a233 := Tryd.isAgg145
  z233 := Tryd.sizeOf145
  v233 := Tryd.zeroValue145
  g17 := by kernel_rfl
  g18 := by kernel_rfl
  g19 := by kernel_rfl
  i0 := by kernel_rfl
  i2 := by kernel_rfl
  i3 := by kernel_rfl
  i4 := by kernel_rfl
  i5 := by kernel_rfl
  i9 := by kernel_rfl
  i20 := by kernel_rfl
  i37 := by kernel_rfl
  i46 := by kernel_rfl
  i51 := by kernel_rfl
  i53 := by kernel_rfl
  i171 := by kernel_rfl
  i173 := by kernel_rfl
  i212 := by kernel_rfl
  i232 := by kernel_rfl
  i233 := by kernel_rfl
  m17 := by kernel_rfl
  m18 := by kernel_rfl
  m19 := by kernel_rfl }
def Tryd.laysC172_ren : Go.Shelf.Ren := ⟨fun | 172 => 37 | 244 => 53 | 245 => 54 | 247 => 66 | 279 => 67 | 280 => 68 | 281 => 69 | 282 => 70 | 287 => 72 | 316 => 84 | 171 => 33 | 205 => 85 | 321 => 86 | 322 => 87 | 243 => 51 | 246 => 64 | 283 => 76 | 284 => 77 | 285 => 78 | 286 => 79 | 129 => 94 | 317 => 93 | 318 => 95 | 319 => 96 | 320 => 97 | 337 => 105 | 338 => 106 | n => n, fun | 9 => 9 | 3 => 3 | 75 => 67 | 76 => 68 | 4 => 4 | 5 => 5 | 167 => 106 | 37 => 58 | 0 => 0 | 85 => 107 | 2 => 2 | 168 => 109 | 53 => 59 | 175 => 94 | 46 => 112 | 210 => 124 | 127 => 91 | 145 => 137 | 143 => 135 | 21 => 21 | 171 => 116 | 173 => 119 | 212 => 129 | 51 => 31 | 20 => 20 | 213 => 130 | 232 => 144 | 233 => 145 | 80 => 72 | n => n, fun | 15 => 1 | 16 => 2 | 17 => 3 | 18 => 4 | 19 => 5 | n => n⟩
theorem Tryd.laysC172 : Go.Proofs.LaysC.n172 Tryd.prog Tryd.laysC172_ren := {
  mixed := by kernel_rfl
  f129 := Tryd.func94.trans (congrArg some (by kernel_rfl))
  f171 := Tryd.func33.trans (congrArg some (by kernel_rfl))
  f172 := Tryd.func37.trans (congrArg some (by kernel_rfl))
  f205 := Tryd.func85.trans (congrArg some (by kernel_rfl))
  f243 := Tryd.func51.trans (congrArg some (by kernel_rfl))
  f244 := Tryd.func53.trans (congrArg some (by kernel_rfl))
  f245 := Tryd.func54.trans (congrArg some (by kernel_rfl))
  f246 := Tryd.func64.trans (congrArg some (by kernel_rfl))
  f247 := Tryd.func66.trans (congrArg some (by kernel_rfl))
  f279 := Tryd.func67.trans (congrArg some (by kernel_rfl))
  f280 := Tryd.func68.trans (congrArg some (by kernel_rfl))
  f281 := Tryd.func69.trans (congrArg some (by kernel_rfl))
  f282 := Tryd.func70.trans (congrArg some (by kernel_rfl))
  f283 := Tryd.func76.trans (congrArg some (by kernel_rfl))
  f284 := Tryd.func77.trans (congrArg some (by kernel_rfl))
  f285 := Tryd.func78.trans (congrArg some (by kernel_rfl))
  f286 := Tryd.func79.trans (congrArg some (by kernel_rfl))
  f287 := Tryd.func72.trans (congrArg some (by kernel_rfl))
  f316 := Tryd.func84.trans (congrArg some (by kernel_rfl))
  f317 := Tryd.func93.trans (congrArg some (by kernel_rfl))
  f318 := Tryd.func95.trans (congrArg some (by kernel_rfl))
  f319 := Tryd.func96.trans (congrArg some (by kernel_rfl))
  f320 := Tryd.func97.trans (congrArg some (by kernel_rfl))
  f321 := Tryd.func86.trans (congrArg some (by kernel_rfl))
  f322 := Tryd.func87.trans (congrArg some (by kernel_rfl))
  f337 := Tryd.func105.trans (congrArg some (by kernel_rfl))
  f338 := Tryd.func106.trans (congrArg some (by kernel_rfl))
  t0 := Tryd.underlying0
  a0 := Tryd.isAgg0
  z0 := Tryd.sizeOf0
  v0 := Tryd.zeroValue0
  t2 := Tryd.underlying2
  a2 := Tryd.isAgg2
  z2 := Tryd.sizeOf2
  v2 := Tryd.zeroValue2
  t3 := Tryd.underlying3
  a3 := Tryd.isAgg3
  z3 := Tryd.sizeOf3
  v3 := Tryd.zeroValue3
  t4 := Tryd.underlying4
  a4 := Tryd.isAgg4
  z4 := Tryd.sizeOf4
  v4 := Tryd.zeroValue4
  t5 := Tryd.underlying5
  a5 := Tryd.isAgg5
  z5 := Tryd.sizeOf5
  v5 := Tryd.zeroValue5
  t9 := Tryd.underlying9
  a9 := Tryd.isAgg9
  z9 := Tryd.sizeOf9
  v9 := Tryd.zeroValue9
  t20 := Tryd.underlying20
  a20 := Tryd.isAgg20
  z20 := Tryd.sizeOf20
  v20 := Tryd.zeroValue20
  t21 := Tryd.underlying21
  a21 := Tryd.isAgg21
  z21 := Tryd.sizeOf21
  v21 := Tryd.zeroValue21
  t37 := Tryd.underlying58
  a37 := Tryd.isAgg58
  z37 := Tryd.sizeOf58
  v37 := Tryd.zeroValue58
  t46 := Tryd.underlying112
  a46 := Tryd.isAgg112
  z46 := Tryd.sizeOf112
  v46 := Tryd.zeroValue112
  t51 := Tryd.underlying31
  a51 := Tryd.isAgg31
  z51 := Tryd.sizeOf31
  v51 := Tryd.zeroValue31
  t53 := Tryd.underlying59
  a53 := Tryd.isAgg59
  z53 := Tryd.sizeOf59
  v53 := Tryd.zeroValue59
  t75 := Tryd.underlying67
  a75 := Tryd.isAgg67
  z75 := Tryd.sizeOf67
  v75 := Tryd.zeroValue67
  t76 := Tryd.underlying68
  a76 := Tryd.isAgg68
  z76 := Tryd.sizeOf68
  v76 := Tryd.zeroValue68
  t85 := Tryd.underlying107
  a85 := Tryd.isAgg107
  z85 := Tryd.sizeOf107
  v85 := Tryd.zeroValue107
  t127 := Tryd.underlying91
  a127 := Tryd.isAgg91
  z127 := Tryd.sizeOf91
  v127 := Tryd.zeroValue91
  t143 := Tryd.underlying135
  a143 := Tryd.isAgg135
  z143 := Tryd.sizeOf135
  v143 := Tryd.zeroValue135
  t145 := Tryd.underlying137
  a145 := Tryd.isAgg137
  z145 := Tryd.sizeOf137
  v145 := Tryd.zeroValue137
  t167 := Tryd.underlying106
  a167 := Tryd.isAgg106
  z167 := Tryd.sizeOf106
  v167 := Tryd.zeroValue106
  t168 := Tryd.underlying109
  a168 := Tryd.isAgg109
  z168 := Tryd.sizeOf109
  v168 := Tryd.zeroValue109
  t171 := Tryd.underlying116
  a171 := Tryd.isAgg116
  z171 := Tryd.sizeOf116
  v171 := Tryd.zeroValue116
  t173 := Tryd.underlying119
  a173 := Tryd.isAgg119
  z173 := Tryd.sizeOf119
  v173 := Tryd.zeroValue119
  t175 := Tryd.underlying94
  a175 := Tryd.isAgg94
  z175 := Tryd.sizeOf94
  v175 := Tryd.zeroValue94
  t210 := Tryd.underlying124
  a210 := Tryd.isAgg124
  z210 := Tryd.sizeOf124
  v210 := Tryd.zeroValue124
  t212 := Tryd.underlying129
  a212 := Tryd.isAgg129
  z212 := Tryd.sizeOf129
  v212 := Tryd.zeroValue129
  t213 := Tryd.underlying130
  a213 := Tryd.isAgg130
  z213 := Tryd.sizeOf130
  t232 := Tryd.underlying144
  a232 := Tryd.isAgg144
  z232 := Tryd.sizeOf144
  v232 := Tryd.zeroValue144
  t233 := Tryd.underlying145
  a233 := Tryd.isAgg145
  z233 := Tryd.sizeOf145
  v233 := Tryd.zeroValue145
  g15 := by kernel_rfl
  g16 := by kernel_rfl
  g17 := by kernel_rfl
  g18 := by kernel_rfl
  g19 := by kernel_rfl
  t80 := Tryd.underlying72
  a80 := Tryd.isAgg72
  z80 := Tryd.sizeOf72
  v80 := Tryd.zeroValue72
  i0 := by kernel_rfl
  i2 := by kernel_rfl
  i3 := by kernel_rfl
  i4 := by kernel_rfl
  i5 := by kernel_rfl
  i9 := by kernel_rfl
  i20 := by kernel_rfl
  i21 := by kernel_rfl
  i37 := by kernel_rfl
  i46 := by kernel_rfl
  i51 := by kernel_rfl
  i53 := by kernel_rfl
  i75 := by kernel_rfl
  i76 := by kernel_rfl
  i80 := by kernel_rfl
  i85 := by kernel_rfl
  i127 := by kernel_rfl
  i143 := by kernel_rfl
  i145 := by kernel_rfl
  i167 := by kernel_rfl
  i168 := by kernel_rfl
  i171 := by kernel_rfl
  i173 := by kernel_rfl
  i175 := by kernel_rfl
  i210 := by kernel_rfl
  i212 := by kernel_rfl
  i232 := by kernel_rfl
  i233 := by kernel_rfl
  m15 := by kernel_rfl
  m16 := by kernel_rfl
  m17 := by kernel_rfl
  m18 := by kernel_rfl
  m19 := by kernel_rfl
  c0 := by kernel_rfl
  c2 := by kernel_rfl
  c3 := by kernel_rfl
  c4 := by kernel_rfl
  c5 := by kernel_rfl
  c9 := by kernel_rfl
  c20 := by kernel_rfl
  c21 := by kernel_rfl
  c37 := by kernel_rfl
  c46 := by kernel_rfl
  c51 := by kernel_rfl
  c53 := by kernel_rfl
  c75 := by kernel_rfl
  c76 := by kernel_rfl
  c80 := by kernel_rfl
  c85 := by kernel_rfl
  c127 := by kernel_rfl
  c143 := by kernel_rfl
  c145 := by kernel_rfl
  c167 := by kernel_rfl
  c168 := by kernel_rfl
  c171 := by kernel_rfl
  c173 := by kernel_rfl
  c175 := by kernel_rfl
  c210 := by kernel_rfl
  c212 := by kernel_rfl
  c213 := by kernel_rfl
  c232 := by kernel_rfl
  c233 := by kernel_rfl }
def Tryd.laysPu14_ren : Go.Shelf.Ren := ⟨fun | 14 => 57 | 16 => 72 | 17 => 54 | 19 => 86 | 20 => 87 | 21 => 67 | 22 => 68 | 23 => 69 | 24 => 70 | 25 => 84 | 27 => 33 | 26 => 85 | 28 => 51 | 29 => 64 | 30 => 76 | 31 => 77 | 32 => 78 | 33 => 79 | 35 => 94 | 34 => 93 | 36 => 95 | 37 => 96 | 38 => 97 | 39 => 105 | 40 => 106 | n => n, fun | 9 => 9 | 3 => 3 | 22 => 59 | 24 => 67 | 25 => 94 | 4 => 4 | 34 => 106 | 5 => 5 | 36 => 112 | 37 => 58 | 0 => 0 | 39 => 109 | 21 => 21 | 44 => 124 | 47 => 91 | 50 => 137 | 48 => 135 | 2 => 2 | 52 => 116 | 55 => 119 | 59 => 129 | 60 => 31 | 20 => 20 | 61 => 130 | 65 => 144 | 66 => 145 | 67 => 72 | n => n, fun | 0 => 1 | 1 => 2 | 2 => 3 | 3 => 4 | 4 => 5 | n => n⟩
theorem Tryd.laysPu14 : Go.Proofs.LaysPu.n14 Tryd.prog Tryd.laysPu14_ren := {
  mixed := by kernel_rfl
  f14 := Tryd.func57.trans (congrArg some (by kernel_rfl))
  f16 := Tryd.func72.trans (congrArg some (by kernel_rfl))
  f17 := Tryd.func54.trans (congrArg some (by kernel_rfl))
  f19 := Tryd.func86.trans (congrArg some (by kernel_rfl))
  f20 := Tryd.func87.trans (congrArg some (by kernel_rfl))
  f21 := Tryd.func67.trans (congrArg some (by kernel_rfl))
  f22 := Tryd.func68.trans (congrArg some (by kernel_rfl))
  f23 := Tryd.func69.trans (congrArg some (by kernel_rfl))
  f24 := Tryd.func70.trans (congrArg some (by kernel_rfl))
  f25 := Tryd.func84.trans (congrArg some (by kernel_rfl))
  f26 := Tryd.func85.trans (congrArg some (by kernel_rfl))
  f27 := Tryd.func33.trans (congrArg some (by kernel_rfl))
  f28 := Tryd.func51.trans (congrArg some (by kernel_rfl))
  f29 := Tryd.func64.trans (congrArg some (by kernel_rfl))
  f30 := Tryd.func76.trans (congrArg some (by kernel_rfl))
  f31 := Tryd.func77.trans (congrArg some (by kernel_rfl))
  f32 := Tryd.func78.trans (congrArg some (by kernel_rfl))
  f33 := Tryd.func79.trans (congrArg some (by kernel_rfl))
  f34 := Tryd.func93.trans (congrArg some (by kernel_rfl))
  f35 := Tryd.func94.trans (congrArg some (by kernel_rfl))
  f36 := Tryd.func95.trans (congrArg some (by kernel_rfl))
  f37 := Tryd.func96.trans (congrArg some (by kernel_rfl))
  f38 := Tryd.func97.trans (congrArg some (by kernel_rfl))
  f39 := Tryd.func105.trans (congrArg some (by kernel_rfl))
  f40 := Tryd.func106.trans (congrArg some (by kernel_rfl))
  t0 := Tryd.underlying0
  a0 := Tryd.isAgg0
  z0 := Tryd.sizeOf0
  v0 := Tryd.zeroValue0
  i0 := by kernel_rfl
  t2 := Tryd.underlying2
  a2 := Tryd.isAgg2
  z2 := Tryd.sizeOf2
  v2 := Tryd.zeroValue2
  i2 := by kernel_rfl
  t3 := Tryd.underlying3
  a3 := Tryd.isAgg3
  z3 := Tryd.sizeOf3
  v3 := Tryd.zeroValue3
  i3 := by kernel_rfl
  t4 := Tryd.underlying4
  a4 := Tryd.isAgg4
  z4 := Tryd.sizeOf4
  v4 := Tryd.zeroValue4
  i4 := by kernel_rfl
  t5 := Tryd.underlying5
  a5 := Tryd.isAgg5
  z5 := Tryd.sizeOf5
  v5 := Tryd.zeroValue5
  i5 := by kernel_rfl
  t9 := Tryd.underlying9
  a9 := Tryd.isAgg9
  z9 := Tryd.sizeOf9
  v9 := Tryd.zeroValue9
  i9 := by kernel_rfl
  t20 := Tryd.underlying20
  a20 := Tryd.isAgg20
  z20 := Tryd.sizeOf20
  v20 := Tryd.zeroValue20
  i20 := by kernel_rfl
  t21 := Tryd.underlying21
  a21 := Tryd.isAgg21
  z21 := Tryd.sizeOf21
  v21 := Tryd.zeroValue21
  i21 := by kernel_rfl
  t22 := Tryd.underlying59
  a22 := Tryd.isAgg59
  z22 := Tryd.sizeOf59
  v22 := Tryd.zeroValue59
  i22 := by kernel_rfl
  t24 := Tryd.underlying67
  a24 := Tryd.isAgg67
  z24 := Tryd.sizeOf67
  v24 := Tryd.zeroValue67
  i24 := by kernel_rfl
  t25 := Tryd.underlying94
  a25 := Tryd.isAgg94
  z25 := Tryd.sizeOf94
  v25 := Tryd.zeroValue94
  i25 := by kernel_rfl
  t34 := Tryd.underlying106
  a34 := Tryd.isAgg106
  z34 := Tryd.sizeOf106
  v34 := Tryd.zeroValue106
  i34 := by kernel_rfl
  c34 := by kernel_rfl
  t36 := Tryd.underlying112
  a36 := Tryd.isAgg112
  z36 := Tryd.sizeOf112
  v36 := Tryd.zeroValue112
  i36 := by kernel_rfl
  t37 := Tryd.underlying58
  a37 := Tryd.isAgg58
  z37 := Tryd.sizeOf58
  v37 := Tryd.zeroValue58
  i37 := by kernel_rfl
  t39 := Tryd.underlying109
  a39 := Tryd.isAgg109
  z39 := Tryd.sizeOf109
  v39 := Tryd.zeroValue109
  i39 := by kernel_rfl
  t44 := Tryd.underlying124
  a44 := Tryd.isAgg124
  z44 := Tryd.sizeOf124
  v44 := Tryd.zeroValue124
  i44 := by kernel_rfl
  t47 := Tryd.underlying91
  a47 := Tryd.isAgg91
  z47 := Tryd.sizeOf91
  v47 := Tryd.zeroValue91
  i47 := by kernel_rfl
  t48 := Tryd.underlying135
  a48 := Tryd.isAgg135
  z48 := Tryd.sizeOf135
  v48 := Tryd.zeroValue135
  i48 := by kernel_rfl
  t50 := Tryd.underlying137
  a50 := Tryd.isAgg137
  z50 := Tryd.sizeOf137
  v50 := Tryd.zeroValue137
  i50 := by kernel_rfl
  t52 := Tryd.underlying116
  a52 := Tryd.isAgg116
  z52 := Tryd.sizeOf116
  v52 := Tryd.zeroValue116
  i52 := by kernel_rfl
  t55 := Tryd.underlying119
  a55 := Tryd.isAgg119
  z55 := Tryd.sizeOf119
  v55 := Tryd.zeroValue119
  i55 := by kernel_rfl
  t59 := Tryd.underlying129
  a59 := Tryd.isAgg129
  z59 := Tryd.sizeOf129
  v59 := Tryd.zeroValue129
  i59 := by kernel_rfl
  t60 := Tryd.underlying31
  a60 := Tryd.isAgg31
  z60 := Tryd.sizeOf31
  v60 := Tryd.zeroValue31
  i60 := by kernel_rfl
  t61 := Tryd.underlying130
  a61 := Tryd.isAgg130
  z61 := Tryd.sizeOf130
  t65 := Tryd.underlying144
  a65 := Tryd.isAgg144
  z65 := Tryd.sizeOf144
  v65 := Tryd.zeroValue144
  i65 := by kernel_rfl
  t66 := Tryd.underlying145
  a66 := Tryd.isAgg145
  z66 := Tryd.sizeOf145
  v66 := Tryd.zeroValue145
  i66 := by kernel_rfl
  t67 := Tryd.underlying72
  a67 := Tryd.isAgg72
  z67 := Tryd.sizeOf72
  v67 := Tryd.zeroValue72
  i67 := by kernel_rfl
  g0 := by kernel_rfl
  m0 := by kernel_rfl
  g1 := by kernel_rfl
  m1 := by kernel_rfl
  g2 := by kernel_rfl
  m2 := by kernel_rfl
  g3 := by kernel_rfl
  m3 := by kernel_rfl
  g4 := by kernel_rfl
  m4 := by kernel_rfl }
def Tryd.lays219_ren : Go.Shelf.Ren := ⟨fun | 219 => 65 | 217 => 80 | 225 => 81 | 224 => 82 | 267 => 83 | 266 => 98 | 314 => 99 | n => n, fun | 9 => 9 | 3 => 3 | 4 => 4 | 5 => 5 | 46 => 112 | 146 => 133 | 51 => 31 | n => n, fun | 1 => 0 | n => n⟩
theorem Tryd.lays219 : Go.Proofs.Lays.n219 Tryd.prog Tryd.lays219_ren := {
  mixed := by kernel_rfl
  f217 := Tryd.func80.trans (congrArg some (by kernel_rfl))
  f219 := Tryd.func65.trans (congrArg some (by kernel_rfl))
  f224 := Tryd.func82.trans (congrArg some (by kernel_rfl))
  f225 := Tryd.func81.trans (congrArg some (by kernel_rfl))
  f266 := Tryd.func98.trans (congrArg some (by kernel_rfl))
  f267 := Tryd.func83.trans (congrArg some (by kernel_rfl))
  f314 := Tryd.func99.trans (congrArg some (by kernel_rfl))
  t3 := Tryd.underlying3
  a3 := Tryd.isAgg3
  z3 := Tryd.sizeOf3
  v3 := Tryd.zeroValue3
  t4 := Tryd.underlying4
  a4 := Tryd.isAgg4
  z4 := Tryd.sizeOf4
  v4 := Tryd.zeroValue4
  t5 := Tryd.underlying5
  a5 := Tryd.isAgg5
  z5 := Tryd.sizeOf5
  v5 := Tryd.zeroValue5
  t9 := Tryd.underlying9
  a9 := Tryd.isAgg9
  z9 := Tryd.sizeOf9
  v9 := Tryd.zeroValue9
  t46 := Tryd.underlying112
  a46 := Tryd.isAgg112
  z46 := Tryd.sizeOf112
  v46 := Tryd.zeroValue112
  t51 := Tryd.underlying31
  a51 := Tryd.isAgg31
  z51 := Tryd.sizeOf31
  v51 := Tryd.zeroValue31
  t146 := Tryd.underlying133
  a146 := Tryd.isAgg133
  z146 := Tryd.sizeOf133
  v146 := Tryd.zeroValue133
  g1 := by kernel_rfl }
def Tryd.lays143_ren : Go.Shelf.Ren := ⟨fun | 143 => 91 | 219 => 65 | 217 => 80 | 225 => 81 | 224 => 82 | 267 => 83 | 266 => 98 | 314 => 99 | n => n, fun | 9 => 9 | 3 => 3 | 4 => 4 | 5 => 5 | 46 => 112 | 146 => 133 | 51 => 31 | n => n, fun | 1 => 0 | n => n⟩
theorem Tryd.lays143 : Go.Proofs.Lays.n143 Tryd.prog Tryd.lays143_ren := {
  mixed := by kernel_rfl
  f143 := Tryd.func91.trans (congrArg some (by kernel_rfl))
  f217 := Tryd.func80.trans (congrArg some (by kernel_rfl))
  f219 := Tryd.func65.trans (congrArg some (by kernel_rfl))
  f224 := Tryd.func82.trans (congrArg some (by kernel_rfl))
  f225 := Tryd.func81.trans (congrArg some (by kernel_rfl))
  f266 := Tryd.func98.trans (congrArg some (by kernel_rfl))
  f267 := Tryd.func83.trans (congrArg some (by kernel_rfl))
  f314 := Tryd.func99.trans (congrArg some (by kernel_rfl))
  t3 := Tryd.underlying3
  a3 := Tryd.isAgg3
  z3 := Tryd.sizeOf3
  v3 := Tryd.zeroValue3
  t4 := Tryd.underlying4
  a4 := Tryd.isAgg4
  z4 := Tryd.sizeOf4
  v4 := Tryd.zeroValue4
  t5 := Tryd.underlying5
  a5 := Tryd.isAgg5
  z5 := Tryd.sizeOf5
  v5 := Tryd.zeroValue5
  t9 := Tryd.underlying9
  a9 := Tryd.isAgg9
  z9 := Tryd.sizeOf9
  v9 := Tryd.zeroValue9
  t46 := Tryd.underlying112
  a46 := Tryd.isAgg112
  z46 := Tryd.sizeOf112
  v46 := Tryd.zeroValue112
  t51 := Tryd.underlying31
  a51 := Tryd.isAgg31
  z51 := Tryd.sizeOf31
  v51 := Tryd.zeroValue31
  t146 := Tryd.underlying133
  a146 := Tryd.isAgg133
  z146 := Tryd.sizeOf133
  v146 := Tryd.zeroValue133
  g1 := by kernel_rfl }
end Go.Proofs
namespace Go.Proofs
open Go.Shelf
def Tryd.lays167_ren : Go.Shelf.Ren := ⟨fun | 167 => 34 | 240 => 50 | 276 => 63 | n => n, fun | 37 => 58 | 70 => 63 | 72 => 65 | 75 => 67 | 164 => 102 | 80 => 72 | n => n, fun | n => n⟩
theorem Tryd.lays167 : Go.Proofs.Lays.n167 Tryd.prog Tryd.lays167_ren := {
  mixed := by kernel_rfl
  f167 := Tryd.func34.trans (congrArg some (by kernel_rfl))
  f240 := Tryd.func50.trans (congrArg some (by kernel_rfl))
  f276 := Tryd.func63.trans (congrArg some (by kernel_rfl))
  t0 := Tryd.underlying0
  a0 := Tryd.isAgg0
  z0 := Tryd.sizeOf0
  v0 := Tryd.zeroValue0
  t4 := Tryd.underlying4
  a4 := Tryd.isAgg4
  z4 := Tryd.sizeOf4
  v4 := Tryd.zeroValue4
  t5 := Tryd.underlying5
  a5 := Tryd.isAgg5
  z5 := Tryd.sizeOf5
  v5 := Tryd.zeroValue5
  t9 := Tryd.underlying9
  a9 := Tryd.isAgg9
  z9 := Tryd.sizeOf9
  v9 := Tryd.zeroValue9
  t20 := Tryd.underlying20
  a20 := Tryd.isAgg20
  z20 := Tryd.sizeOf20
  v20 := Tryd.zeroValue20
  t37 := Tryd.underlying58
  a37 := Tryd.isAgg58
  z37 := Tryd.sizeOf58
  v37 := Tryd.zeroValue58
  t70 := Tryd.underlying63
  a70 := Tryd.isAgg63
  z70 := Tryd.sizeOf63
  v70 := Tryd.zeroValue63
  t72 := Tryd.underlying65
  a72 := Tryd.isAgg65
  z72 := Tryd.sizeOf65
  v72 := Tryd.zeroValue65
  t75 := Tryd.underlying67
  a75 := Tryd.isAgg67
  z75 := Tryd.sizeOf67
  v75 := Tryd.zeroValue67
  t164 := Tryd.underlying102
  a164 := Tryd.isAgg102
  z164 := Tryd.sizeOf102
  v164 := Tryd.zeroValue102 }
theorem Tryd.Builder_Extra_167 : Builder.Extra Tryd.prog Tryd.lays167_ren := {
  sizeBuilder := by kernel_rfl
  liesBuilder := by kernel_rfl
  t5 := Tryd.underlying5
  a5 := Tryd.isAgg5
  z5 := Tryd.sizeOf5
  v5 := Tryd.zeroValue5
  infoByte := by kernel_rfl
  cellsByte := by kernel_rfl
  sizeByte := by kernel_rfl
  neB5 := by decide }
def Tryd.lays166_ren : Go.Shelf.Ren := ⟨fun | 166 => 32 | 240 => 50 | 276 => 63 | n => n, fun | 37 => 58 | 70 => 63 | 72 => 65 | 75 => 67 | 164 => 102 | 80 => 72 | n => n, fun | n => n⟩
theorem Tryd.lays166 : Go.Proofs.Lays.n166 Tryd.prog Tryd.lays166_ren := {
  mixed := by kernel_rfl
  f166 := Tryd.func32.trans (congrArg some (by kernel_rfl))
  f240 := Tryd.func50.trans (congrArg some (by kernel_rfl))
  f276 := Tryd.func63.trans (congrArg some (by kernel_rfl))
  t0 := Tryd.underlying0
  a0 := Tryd.isAgg0
  z0 := Tryd.sizeOf0
  v0 := Tryd.zeroValue0
  t3 := Tryd.underlying3
  a3 := Tryd.isAgg3
  z3 := Tryd.sizeOf3
  v3 := Tryd.zeroValue3
  t4 := Tryd.underlying4
  a4 := Tryd.isAgg4
  z4 := Tryd.sizeOf4
  v4 := Tryd.zeroValue4
  t9 := Tryd.underlying9
  a9 := Tryd.isAgg9
  z9 := Tryd.sizeOf9
  v9 := Tryd.zeroValue9
  t20 := Tryd.underlying20
  a20 := Tryd.isAgg20
  z20 := Tryd.sizeOf20
  v20 := Tryd.zeroValue20
  t37 := Tryd.underlying58
  a37 := Tryd.isAgg58
  z37 := Tryd.sizeOf58
  v37 := Tryd.zeroValue58
  t70 := Tryd.underlying63
  a70 := Tryd.isAgg63
  z70 := Tryd.sizeOf63
  v70 := Tryd.zeroValue63
  t72 := Tryd.underlying65
  a72 := Tryd.isAgg65
  z72 := Tryd.sizeOf65
  v72 := Tryd.zeroValue65
  t75 := Tryd.underlying67
  a75 := Tryd.isAgg67
  z75 := Tryd.sizeOf67
  v75 := Tryd.zeroValue67
  t164 := Tryd.underlying102
  a164 := Tryd.isAgg102
  z164 := Tryd.sizeOf102
  v164 := Tryd.zeroValue102 }
theorem Tryd.Builder_Extra_166 : Builder.Extra Tryd.prog Tryd.lays166_ren := {
  sizeBuilder := by kernel_rfl
  liesBuilder := by kernel_rfl
  t5 := Tryd.underlying5
  a5 := Tryd.isAgg5
  z5 := Tryd.sizeOf5
  v5 := Tryd.zeroValue5
  infoByte := by kernel_rfl
  cellsByte := by kernel_rfl
  sizeByte := by kernel_rfl
  neB5 := by decide }
end Go.Proofs
/-! Functions of the library: numbers as texts, and back. -/
namespace Go.Rx
open Go.Ab Go.L21 Go.Proofs Go.RowKit
set_option linter.unusedVariables false
set_option maxRecDepth 100000
noncomputable def C0 : Cfg S := { P := P7, inl := [], K := [], ann := [] }
theorem bel_grow (w : World) (k : Nat) (os : Array Obj) : Below w.heap.size w (Sort.grow (w.drewN k) os) :=
  ⟨rfl, rfl, rfl, by show w.heap.size ≤ (w.heap ++ os).size; simp, fun b hb => by show (w.heap ++ os)[b]? = _; rw [Array.getElem?_append_left hb]⟩
/-- A call that only computes. -/
theorem pf_done {imm : Imm} {w w' : World} {rts : List Nat} (y : HR S rts) {v : Value} (hok : ImmOk imm w) (hb : Below w.heap.size w w') (hv : Rep noT (gh imm) (denV (tupA (encL (S := S) P7 rts y))) v) :
    ∃ r v' imm', (fun q => q = tupA (encL (S := S) P7 rts y)) r ∧ (denV r).clean = true ∧ Ending.returned v = .returned v' ∧ Imm.le imm imm' ∧ ImmOk imm' w' ∧ (∀ b o u, imm' b o = some u → imm b o = some u ∨ w.heap.size ≤ b) ∧ Rep noT (gh imm') (denV r) v' ∧ Below w.heap.size w w' :=
  ⟨_, v, imm, rfl, enc_clean (S := S) (P := P7) rts y, rfl, Imm.le_refl _, fun b o u h => by
    have hc := hok b o u h
    unfold World.cell? at hc ⊢
    have hb' : b < w.heap.size := by
      split at hc
      · rename_i c _ _ hq; exact (Array.getElem?_eq_some_iff.1 hq).1
      · cases hc
    rw [hb.block b hb']; exact hc, fun b o u h => .inl h, hv, hb⟩
abbrev W333 : CT S [9] [3] := (fun x0 => (some (P333 x0), S333 x0))
abbrev Ok333 : Prop := ConOk P7 33 (ctr P7 [3] [9] W333) ∧ ConMon (ctr P7 [3] [9] W333)
theorem run333 : RunP C0 33 [9] [3] W333 [] := by
  intro (n : Int) hn hp
  obtain ⟨h0, h1⟩ : P333 n := hp _ rfl
  intro imm w vs hok hgl hargs
  obtain ⟨v1, vs1, rfl, hv1, rfl⟩ := hargs
  obtain rfl : v1 = .int .i64 n := hv1
  refine (Any.strconv_Itoa Tryd.laysM171 n h0 h1 w hgl.2.tab).mono ?_
  rintro e w' ⟨rfl, k, os, rfl⟩
  exact pf_done (rts := [9]) (S333 n) hok (bel_grow w k os) rfl
theorem ok333 : Ok333 := con_okP (C := C0) run333
abbrev W337 : CT S [3, 67] [9] := (fun x0 => (some (P337 x0), S337 x0))
abbrev Ok337 : Prop := ConOk P7 37 (ctr P7 [9] [3, 67] W337) ∧ ConMon (ctr P7 [9] [3, 67] W337)
theorem run337 : RunP C0 37 [3, 67] [9] W337 [] := by
  intro (s : ByteArray) hs hp
  have hlim : s.size ≤ 281474976710656 := hp _ rfl
  intro imm w vs hok hgl hargs
  obtain ⟨v1, vs1, rfl, hv1, rfl⟩ := hargs
  obtain rfl : v1 = .string s := hv1
  obtain ⟨ts, ps, hsy⟩ := hgl.2.syn
  obtain ⟨tr, pr, hrg⟩ := hgl.2.rng
  cases h : Lib.atoiAll s.data.toList
  · rename_i v
    have e : S337 s = (v, false) := by unfold S337; rw [h]; rfl
    refine (Any.strconv_Atoi_ok Tryd.laysC172 s (by omega) v h w).mono ?_
    rintro e' w' ⟨rfl, hw⟩
    have hb : Below w.heap.size w w' := by
      rcases hw with rfl | ⟨t, rfl⟩
      · exact Below.refl _ _
      · exact Lib.bytesWorld_below w _ t
    refine pf_done (rts := [3, 67]) (S337 s) hok hb ?_
    rw [e]
    exact ⟨_, rfl, _, _, rfl, rfl, _, _, rfl, .inl ⟨rfl, rfl⟩, rfl⟩
  · skip
    have e : S337 s = (0, true) := by unfold S337; rw [h]; rfl
    refine (Any.strconv_Atoi_syntax Tryd.laysC172 s hlim h _ w hsy (.inr ⟨ts, ps, rfl⟩)).mono ?_
    rintro e' w' ⟨N, rfl, _, _, hb⟩
    refine pf_done (rts := [3, 67]) (S337 s) hok hb ?_
    rw [e]
    exact ⟨_, rfl, _, _, rfl, rfl, _, _, rfl, .inr ⟨rfl, _, _, rfl⟩, rfl⟩
  · skip
    have e : S337 s = (Lib.atoiSat s.data.toList, true) := by unfold S337; rw [h]; rfl
    refine (Any.strconv_Atoi_range Tryd.laysC172 s hlim h _ w hrg (.inr ⟨tr, pr, rfl⟩)).mono ?_
    rintro e' w' ⟨N, rfl, _, _, hb⟩
    refine pf_done (rts := [3, 67]) (S337 s) hok hb ?_
    rw [e]
    exact ⟨_, rfl, _, _, rfl, rfl, _, _, rfl, .inr ⟨rfl, _, _, rfl⟩, rfl⟩
theorem ok337 : Ok337 := con_okP (C := C0) run337
abbrev W357 : CT S [59, 67] [9, 3, 3] := (fun x0 x1 x2 => (some (P357 x0 x1 x2), S357 x0 x1 x2))
abbrev Ok357 : Prop := ConOk P7 57 (ctr P7 [9, 3, 3] [59, 67] W357) ∧ ConMon (ctr P7 [9, 3, 3] [59, 67] W357)
theorem run357 : RunP C0 57 [59, 67] [9, 3, 3] W357 [] := by
  intro (s : ByteArray) hs (b : Int) hb (n : Int) hn hp
  obtain ⟨hlim, rfl, hn⟩ : P357 s b n := hp _ rfl
  intro imm w vs hok hgl hargs
  obtain ⟨v1, vs1, rfl, hv1, v2, vs2, rfl, hv2, v3, vs3, rfl, hv3, rfl⟩ := hargs
  obtain rfl : v1 = .string s := hv1
  obtain rfl : v2 = .int .i64 10 := hv2
  obtain rfl : v3 = .int .i64 n := hv3
  obtain ⟨ts, ps, hsy⟩ := hgl.2.syn
  obtain ⟨tr, pr, hrg⟩ := hgl.2.rng
  have okc : ∀ {v : Nat} {e' : Ending} {w' : World}, S357 s 10 n = ((v : Int), false) → (e' = .returned (.tuple #[.int .u64 v, .nilIface]) ∧ (w' = w ∨ w' = Lib.bytesWorld w 5 s)) → ∃ r v' imm', (fun q => q = tupA (encL (S := S) P7 [59, 67] (S357 s 10 n))) r ∧ (denV r).clean = true ∧ e' = .returned v' ∧ Imm.le imm imm' ∧ ImmOk imm' w' ∧ (∀ b o u, imm' b o = some u → imm b o = some u ∨ w.heap.size ≤ b) ∧ Rep noT (gh imm') (denV r) v' ∧ Below w.heap.size w w' := by
    rintro v e' w' e ⟨rfl, hw⟩
    have hb : Below w.heap.size w w' := by
      rcases hw with rfl | rfl
      · exact Below.refl _ _
      · exact Lib.bytesWorld_below w _ s
    refine pf_done (rts := [59, 67]) (S357 s 10 n) hok hb ?_
    rw [e]
    exact ⟨_, rfl, _, _, rfl, rfl, _, _, rfl, .inl ⟨rfl, rfl⟩, rfl⟩
  have erc : ∀ {v : Int} {te : TypeId} {pe : Value} {w' : World}, S357 s 10 n = (v, true) → Below w.heap.size w w' → ∃ r v' imm', (fun q => q = tupA (encL (S := S) P7 [59, 67] (S357 s 10 n))) r ∧ (denV r).clean = true ∧ Ending.returned (.tuple #[.int .u64 v, .iface te pe]) = .returned v' ∧ Imm.le imm imm' ∧ ImmOk imm' w' ∧ (∀ b o u, imm' b o = some u → imm b o = some u ∨ w.heap.size ≤ b) ∧ Rep noT (gh imm') (denV r) v' ∧ Below w.heap.size w w' := by
    intro v te pe w' e hb
    refine pf_done (rts := [59, 67]) (S357 s 10 n) hok hb ?_
    rw [e]
    exact ⟨_, rfl, _, _, rfl, rfl, _, _, rfl, .inr ⟨rfl, _, _, rfl⟩, rfl⟩
  rcases hn with rfl | rfl
  · cases h : Lib.parseUintB 32 s.data.toList
    · rename_i v
      refine (Any.strconv_ParseUint_10_at32_ok Tryd.laysPu14 s (by omega) v h w).mono fun e' w' hh => okc (v := v) ?_ hh
      show endN (Lib.parseUintB 32 s.data.toList) _ = _
      rw [h]; rfl
    · skip
      refine (Any.strconv_ParseUint_10_at32_syntax Tryd.laysPu14 s hlim h _ w hsy (.inr ⟨ts, ps, rfl⟩)).mono ?_
      rintro e' w' ⟨N, rfl, _, _, hb⟩
      refine erc ?_ hb
      show endN (Lib.parseUintB 32 s.data.toList) _ = _
      rw [h]; rfl
    · skip
      refine (Any.strconv_ParseUint_10_at32_range Tryd.laysPu14 s hlim h _ w hrg (.inr ⟨tr, pr, rfl⟩)).mono ?_
      rintro e' w' ⟨N, rfl, _, _, hb⟩
      refine erc ?_ hb
      show endN (Lib.parseUintB 32 s.data.toList) _ = _
      rw [h]; rfl
  · cases h : Lib.parseUintB 64 s.data.toList
    · rename_i v
      refine (Any.strconv_ParseUint_10_at64_ok Tryd.laysPu14 s (by omega) v h w).mono fun e' w' hh => okc (v := v) ?_ hh
      show endN (Lib.parseUintB 64 s.data.toList) _ = _
      rw [h]; rfl
    · skip
      refine (Any.strconv_ParseUint_10_at64_syntax Tryd.laysPu14 s hlim h _ w hsy (.inr ⟨ts, ps, rfl⟩)).mono ?_
      rintro e' w' ⟨N, rfl, _, _, hb⟩
      refine erc ?_ hb
      show endN (Lib.parseUintB 64 s.data.toList) _ = _
      rw [h]; rfl
    · skip
      refine (Any.strconv_ParseUint_10_at64_range Tryd.laysPu14 s hlim h _ w hrg (.inr ⟨tr, pr, rfl⟩)).mono ?_
      rintro e' w' ⟨N, rfl, _, _, hb⟩
      refine erc ?_ hb
      show endN (Lib.parseUintB 64 s.data.toList) _ = _
      rw [h]; rfl
theorem ok357 : Ok357 := by
  apply con_okP (C := C0) (f := 57) (ts := [9, 3, 3]) (rts := [59, 67]) (W := W357)
  exact run357
abbrev W365 : CT S [3] [9, 9] := (fun x0 x1 => (some (P365 x0 x1), S365 x0 x1))
abbrev Ok365 : Prop := ConOk P7 65 (ctr P7 [9, 9] [3] W365) ∧ ConMon (ctr P7 [9, 9] [3] W365)
theorem run365 : RunP C0 65 [3] [9, 9] W365 [] := by
  intro (s : ByteArray) hs (t : ByteArray) ht hp
  have ht1 : t.size = 1 := hp _ rfl
  intro imm w vs hok hgl hargs
  obtain ⟨v1, vs1, rfl, hv1, v2, vs2, rfl, hv2, rfl⟩ := hargs
  obtain rfl : v1 = .string s := hv1
  obtain rfl : v2 = .string t := hv2
  obtain ⟨c, rfl⟩ : ∃ c, t = ⟨#[c]⟩ := by
    obtain ⟨⟨l⟩⟩ := t
    match l, ht1 with
    | [c], _ => exact ⟨c, rfl⟩
  refine (Any.stringslite_Index_one Tryd.lays219 s c w).mono ?_
  rintro e w' ⟨rfl, rfl⟩
  exact pf_done (rts := [3]) (S365 s ⟨#[c]⟩) hok (Below.refl _ _) rfl
theorem ok365 : Ok365 := con_okP (C := C0) run365
end Go.Rx
/-! strconv.FormatUint at base 10. -/
namespace Go.Proofs
open Go.Shelf Go.RowKit Go.Sort Go.Lib
set_option maxHeartbeats 12800000 in
set_option maxRecDepth 100000 in
theorem Tryd.fmtU_big (u : Nat) (hu : 100 ≤ u) (hu64 : u < 18446744073709551616) (w : World)
    (htab : Lib.TabIs Tryd.prog w "internal/strconv.uint64pow10" .u64 Lib.pow10Tab) :
    Calls Tryd.prog 71 #[.int .u64 u, .int .i64 10] w fun e w' => e = .returned (.string ⟨(Lib.itoa u).toArray⟩) ∧ ∃ k os, w' = grow (w.drewN k) os := by
  have hu1 : 1 ≤ u := by omega
  have hnd20 : Lib.nDigits u ≤ 20 := by have := Lib.numDigits_eq u hu1 hu64; split at this <;> omega
  have hal : Tryd.prog.arrayLen 116 = 24 := by simp [Program.arrayLen, Tryd.underlying116]
  have hsl : ∀ W, (Instr.sliceAt 116 (.pointer (some ⟨w.heap.size, 0, none⟩)) none (some (.int .i64 (Lib.nDigits u : Int))) none).run Tryd.prog W = .ok (.slice (some ⟨w.heap.size, 0, none⟩) (Lib.nDigits u) 24) W := fun W => by
    rw [run_sliceAt_array_h W 116 ⟨w.heap.size, 0, none⟩ (by simp [Program.arrayLen, Program.elem, Tryd.underlying116]) .i64 (Lib.nDigits u : Int) (by omega) (by rw [hal]; omega)]
    go_simp
  have hH0 := Lib.holds_zero0 w 116 (Lib.nDigits u) (by omega)
  have hfmt := Any.internal_strconv_formatBase10 Tryd.lays285 w.heap.size 0 24 u (Array.replicate (Lib.nDigits u) 0) (w.alloc (.cells Lib.zeros24 116)) hH0 (by rw [Array.size_replicate]; exact Lib.lt_pow_nDigits u) hu64 (by rw [Array.size_replicate]; omega)
  rw [Array.size_replicate] at hfmt
  have HH0 := Lib.hid hH0
  have iu : (100 : Int) ≤ (u : Int) := by omega
  clear hH0 hal
  go_enter Tryd.func71, Tryd.ntmps71
  go_wp2_with (first
    | (go_at_call 77; refine (Any.internal_strconv_numDigits Tryd.laysM284 u hu1 hu64 _ (Lib.tabIs_alloc htab _)).mono ?_; rintro e w' ⟨rfl, rfl⟩))
  go_at_call 78
  refine hfmt.mono ?_
  rintro e w' ⟨rfl, k, v', dk, rfl, hF⟩
  have hcv : (convert 58 9 (.slice (some ⟨w.heap.size, 0, none⟩) (Lib.nDigits u) 24)).run Tryd.prog ((putRow (fun (b : UInt8) => Value.int .u8 (b.toNat : Int)) (w.alloc (.cells Lib.zeros24 116)) w.heap.size 0 dk).drewN k) = .ok (.string ⟨(Lib.decDigits u).toArray⟩) ((putRow (fun (b : UInt8) => Value.int .u8 (b.toNat : Int)) (w.alloc (.cells Lib.zeros24 116)) w.heap.size 0 dk).drewN k) := by
    have h := run_convert_bytes_back (P := Tryd.prog) ((putRow (fun (b : UInt8) => Value.int .u8 (b.toNat : Int)) (w.alloc (.cells Lib.zeros24 116)) w.heap.size 0 dk).drewN k) 58 9 5 ⟨w.heap.size, 0, none⟩ 24 (Lib.decDigits u) Tryd.lays285.t37 Tryd.lays285.t5 Tryd.lays285.t9 (fun j hj => by
      rw [Lib.row_is_numeral hF j hj, Lib.add_plain, World.cell?_drewN]
      exact cell?_putRow (fun (b : UInt8) => Value.int .u8 (b.toNat : Int)) _ w.heap.size 0 _ dk HH0.out (by rw [hF.size, Array.size_replicate]) j (by rw [hF.size]; rw [Lib.decDigits_length] at hj; exact hj))
    rw [Lib.decDigits_length] at h
    exact h
  go_wp2
  go_ret
  obtain ⟨os, eo⟩ := Lib.fin_at w (.cells Lib.zeros24 116) dk k 0
  refine ⟨?_, k, os, eo⟩
  rw [Lib.itoa_nonneg]
  rfl
set_option maxRecDepth 100000 in
theorem Tryd.fmtU_small (u : Nat) (hu : u < 100) (w : World) :
    Calls Tryd.prog 71 #[.int .u64 u, .int .i64 10] w fun e w' => e = .returned (.string ⟨(Lib.itoa u).toArray⟩) ∧ ∃ k os, w' = grow (w.drewN k) os := by
  have iu : (u : Int) < 100 := by omega
  go_enter Tryd.func71, Tryd.ntmps71
  go_wp2_with (go_at_call 76; refine (Any.internal_strconv_small Tryd.lays283 u hu _).mono ?_; rintro e w' ⟨rfl, rfl⟩)
  go_ret
  refine ⟨?_, 0, #[], by simp [World.drewN_zero, grow]⟩
  rw [Lib.itoa_nonneg]
  rfl
set_option maxRecDepth 100000 in
theorem Tryd.fmtU (u : Nat) (hu64 : u < 18446744073709551616) (w : World)
    (htab : Lib.TabIs Tryd.prog w "internal/strconv.uint64pow10" .u64 Lib.pow10Tab) :
    Calls Tryd.prog 56 #[.int .u64 u, .int .i64 10] w fun e w' => e = .returned (.string ⟨(Lib.itoa u).toArray⟩) ∧ ∃ k os, w' = grow (w.drewN k) os := by
  have h : Calls Tryd.prog 71 #[.int .u64 u, .int .i64 10] w fun e w' => e = .returned (.string ⟨(Lib.itoa u).toArray⟩) ∧ ∃ k os, w' = grow (w.drewN k) os := by
    by_cases hs : u < 100
    · exact Tryd.fmtU_small u hs w
    · exact Tryd.fmtU_big u (by omega) hu64 w htab
  go_enter Tryd.func56, Tryd.ntmps56
  go_wp2_with (go_at_call 71; refine h.mono ?_; rintro e w' ⟨rfl, k, os, rfl⟩)
  go_ret
  exact ⟨rfl, k, os, rfl⟩
end Go.Proofs
namespace Go.Rx
open Go.Ab Go.L21 Go.Proofs Go.RowKit
set_option maxRecDepth 100000
abbrev W356 : CT S [9] [59, 3] := (fun x0 x1 => (some (P356 x0 x1), S356 x0 x1))
abbrev Ok356 : Prop := ConOk P7 56 (ctr P7 [59, 3] [9] W356) ∧ ConMon (ctr P7 [59, 3] [9] W356)
theorem run356 : RunP C0 56 [9] [59, 3] W356 [] := by
  intro (n : Int) hn (b : Int) hb hp
  obtain ⟨rfl, h0, h1⟩ : P356 n b := hp _ rfl
  intro imm w vs hok hgl hargs
  obtain ⟨v1, vs1, rfl, hv1, v2, vs2, rfl, hv2, rfl⟩ := hargs
  obtain rfl : v1 = .int .u64 n := hv1
  obtain rfl : v2 = .int .i64 10 := hv2
  obtain ⟨u, rfl⟩ : ∃ u : Nat, n = u := ⟨n.toNat, by omega⟩
  refine (Tryd.fmtU u (by omega) w hgl.2.tab).mono ?_
  rintro e w' ⟨rfl, k, os, rfl⟩
  exact pf_done (rts := [9]) (S356 u 10) hok (bel_grow w k os) rfl
theorem ok356 : Ok356 := con_okP (C := C0) run356
end Go.Rx
/-! row.Texts, with the builder of the library. -/
namespace Go.Proofs
open Go.Shelf Go.RowKit Go.Sort Go.Lib
theorem bAt_grow {T e : TypeId} {B b : Nat} {p : Value} {bs : List Value} {w : World} (h : Lib.BuilderAt T e B b p bs w) (k : Nat) (os : Array Obj) : Lib.BuilderAt T e B b p bs (grow (w.drewN k) os) := by
  obtain ⟨hB, v, hb, ho, hn⟩ := h
  refine ⟨hB, v, ?_, Lib.ownsRow_grow ho k os, hn⟩
  show (w.heap ++ os)[b]? = _
  rw [Array.getElem?_append_left (Array.getElem?_eq_some_iff.1 hb).1]
  exact hb
theorem isB_grow {T e : TypeId} {B b : Nat} {bs : List Value} {w : World} (h : Lib.IsBuilder T e B b bs w) (k : Nat) (os : Array Obj) : Lib.IsBuilder T e B b bs (grow (w.drewN k) os) :=
  h.elim (fun h => .inl (bAt_grow h k os)) (fun h => .inr (bAt_grow h k os))
theorem Tryd.wstr (B b : Nat) (bs : List Value) (s : ByteArray) (w : World) (h : Lib.IsBuilder 65 5 B b bs w) (hlen : bs.length + s.size ≤ 140737488355328) (hBw : B ≤ w.heap.size) :
    Calls Tryd.prog 32 #[.pointer (some ⟨b, 0, none⟩), .string s] w fun e w' => e = .returned (.tuple #[.int .i64 s.size, .nilIface]) ∧ Lib.IsBuilder 65 5 B b (bs ++ Lib.strCells s) w' ∧ Below B w w' :=
  (Any.Builder_WriteString Tryd.lays166 Tryd.Builder_Extra_166 B b bs s w h hlen hBw).mono fun _ _ hh => ⟨hh.1, .inr hh.2.1, hh.2.2⟩
theorem Tryd.wbyte (B b : Nat) (bs : List Value) (c : Int) (w : World) (h : Lib.IsBuilder 65 5 B b bs w) (hlen : bs.length + 1 ≤ 140737488355328) (hBw : B ≤ w.heap.size) :
    Calls Tryd.prog 34 #[.pointer (some ⟨b, 0, none⟩), .int .u8 c] w fun e w' => e = .returned .nilIface ∧ Lib.IsBuilder 65 5 B b (bs ++ [.int .u8 c]) w' ∧ Below B w w' :=
  (Any.Builder_WriteByte Tryd.lays167 Tryd.Builder_Extra_167 B b bs c w h hlen hBw).mono fun _ _ hh => ⟨hh.1, .inr hh.2.1, hh.2.2⟩
theorem Tryd.bstr (B b : Nat) (l : List UInt8) (w : World) (h : Lib.IsBuilder 65 5 B b (Lib.byteCells l) w) (hBw : B ≤ w.heap.size) :
    Calls Tryd.prog 35 #[.pointer (some ⟨b, 0, none⟩)] w fun e w' => e = .returned (.string ⟨l.toArray⟩) ∧ Below B w w' :=
  Any.Builder_String_any Tryd.lays169 Tryd.Builder_Extra_169 B b l w h hBw
open Go.L21 Go.Rx in
theorem texts_take {xs : List ByteArray} {k : Nat} {y : ByteArray} (h : xs[k]? = some y) : textsL (xs.take (k + 1)) = textsL (xs.take k) ++ textL y := by
  rw [List.take_add_one, h]; simp [textsL]
open Go.L21 Go.Rx in
theorem texts_le (xs : List ByteArray) (k : Nat) : (textsL (xs.take k)).length ≤ (textsL xs).length := by
  conv => rhs; rw [← List.take_append_drop k xs]
  unfold textsL; rw [List.flatMap_append, List.length_append]; omega
open Go.L21 Go.Rx in
theorem texts_num (xs : List ByteArray) : xs.length ≤ (textsL xs).length := by
  induction xs with
  | nil => exact Nat.zero_le _
  | cons x r ih => simp only [textsL, List.flatMap_cons, List.length_append, List.length_cons, textL] at ih ⊢; omega
theorem hidT {p : Prop} (h : p) : Hid p := h
open Go.L21 Go.Rx in
set_option maxHeartbeats 4000000 in
set_option maxRecDepth 100000 in
theorem Tryd.texts_walk (A : Option Addr) (c : Nat) (xs : List ByteArray) (w : World) (hlen : (textsL xs).length ≤ 70368744177664) (htab : Lib.TabIs Tryd.prog w "internal/strconv.uint64pow10" .u64 Lib.pow10Tab)
    (hcells : ∀ (j : Nat) x, xs[j]? = some x → ∃ bk o, A = some ⟨bk, o, none⟩ ∧ bk < w.heap.size ∧ w.cell? ⟨bk, o + j, none⟩ = some (.string x)) :
    Calls Tryd.prog 14 #[.slice A xs.length c] w fun e w' => e = .returned (.string ⟨(textsL xs).toArray⟩) ∧ Below w.heap.size w w' := by
  have HC := hidT hcells
  have HT := hidT htab
  have HL := hidT hlen
  have hxl := texts_num xs
  have hxl2 : xs.length ≤ 70368744177664 := by omega
  clear hcells htab hlen hxl
  go_enter Tryd.func14, Tryd.ntmps14
  go_wp2
  go_loopw [8] (fun i wr => ∃ k : Nat, k ≤ xs.length ∧ i = .int .i64 k ∧ Hid (Lib.IsBuilder 65 5 w.heap.size w.heap.size (Lib.byteCells (textsL (xs.take k))) wr) ∧ Hid (Below w.heap.size w wr)) (fun i _ => xs.length - (RowKit.intOf i).toNat)
  case atStart => exact ⟨0, Nat.zero_le _, rfl, hidT (Lib.fresh_isBuilder 65 5 w), hidT ((Below.refl _ w).alloc (Nat.le_refl _) _)⟩
  case round =>
    obtain ⟨k, hk, rfl, HB, HW⟩ := hrel
    by_cases hkr : k < xs.length
    · obtain ⟨y, hy⟩ : ∃ y, xs[k]? = some y := ⟨xs[k], List.getElem?_eq_getElem hkr⟩
      obtain ⟨bk, o, rfl, hbk, hcy⟩ := HC.out k y hy
      have hcy : wr.cell? ⟨bk, o + k, none⟩ = some (.string y) := by
        rw [HW.out.cell (p := ⟨bk, o + k, none⟩) hbk]; exact hcy
      have hBw : w.heap.size ≤ wr.heap.size := HW.out.size
      have hnext : Lib.byteCells (textsL (xs.take k)) ++ Lib.strCells ⟨(Lib.itoa y.size).toArray⟩ ++ [Value.int .u8 58] ++ Lib.strCells y = Lib.byteCells (textsL (xs.take (k + 1))) := by
        rw [texts_take hy, Lib.strCells_eq, Lib.strCells_eq, Lib.byteCells_append, textL, Lib.byteCells_append]
        simp [Lib.byteCells]
      have hl := texts_le xs (k + 1)
      have hl2 := HL.out
      rw [texts_take hy, textL] at hl
      simp only [List.length_append, List.length_cons, ← Lib.size_eq] at hl
      have hl0 : (Lib.byteCells (textsL (xs.take k))).length = (textsL (xs.take k)).length := Lib.byteCells_length _
      have hi0 : (⟨(Lib.itoa y.size).toArray⟩ : ByteArray).size = (Lib.itoa y.size).length := List.size_toArray
      generalize (textsL (xs.take k)).length = J at hl0 hl
      generalize (Lib.itoa y.size).length = I at hi0 hl
      have hys : y.size ≤ 70368744177664 := by omega
      have htr := var_ge HW.out.block HT.out
      have Hn := hidT hnext
      have Hl := hidT hl
      have Hl2 := hidT hl2
      clear hnext hy hl hl2
      go_wp2_with (go_at_call 33; refine (Any.strconv_Itoa Tryd.laysM171 (y.size : Int) (by omega) (by omega) wr htr).mono ?_)
      rintro e w1 ⟨rfl, q, os, rfl⟩
      have HB1 := hidT (isB_grow HB.out q os)
      have HW1 := hidT (HW.out.trans (Rx.bel_grow wr q os |>.mono hBw))
      generalize grow (wr.drewN q) os = W1 at HB1 HW1 ⊢
      have hBw1 : w.heap.size ≤ W1.heap.size := HW1.out.size
      go_wp2_with (go_at_call 32; refine (Tryd.wstr w.heap.size w.heap.size _ _ W1 HB1.out (by rw [hl0, hi0]; have := Hl.out; have := Hl2.out; omega) hBw1).mono ?_)
      rintro e W2 ⟨rfl, HB2, hb2⟩
      have HB2 := hidT HB2
      have HW2 := hidT (HW1.out.trans hb2)
      have hBw2 : w.heap.size ≤ W2.heap.size := HW2.out.size
      clear hb2
      go_wp2_with (go_at_call 34; refine (Tryd.wbyte w.heap.size w.heap.size _ 58 W2 HB2.out (by rw [List.length_append, hl0, Lib.strCells_length, hi0]; have := Hl.out; have := Hl2.out; omega) hBw2).mono ?_)
      rintro e W3 ⟨rfl, HB3, hb3⟩
      have HB3 := hidT HB3
      have HW3 := hidT (HW2.out.trans hb3)
      have hBw3 : w.heap.size ≤ W3.heap.size := HW3.out.size
      clear hb3
      go_wp2_with (go_at_call 32; refine (Tryd.wstr w.heap.size w.heap.size _ y W3 HB3.out (by rw [List.length_append, List.length_append, hl0, Lib.strCells_length, hi0]; have := Hl.out; have := Hl2.out; simp; omega) hBw3).mono ?_)
      rintro e W4 ⟨rfl, HB4, hb4⟩
      rw [Hn.out] at HB4
      have HB4 := hidT HB4
      have HW4 := hidT (HW3.out.trans hb4)
      clear hb4
      go_wp2
      exact ⟨⟨k + 1, by omega, by go_num, HB4, HW4⟩, by simp [RowKit.intOf]; omega⟩
    · have hke : k = xs.length := by omega
      subst hke
      have hB' := HB.out
      rw [List.take_length] at hB'
      have hBw : w.heap.size ≤ wr.heap.size := HW.out.size
      go_wp2_with (go_at_call 35; refine (Tryd.bstr w.heap.size w.heap.size _ wr hB' hBw).mono ?_)
      rintro e w5 ⟨rfl, hb5⟩
      have Hb5 := hidT (HW.out.trans hb5)
      clear hb5 hB'
      go_wp2
      go_ret
      exact ⟨rfl, Hb5.out⟩
end Go.Proofs
namespace Go.Rx
open Go.Ab Go.L21 Go.Proofs Go.RowKit
set_option maxRecDepth 100000
theorem cell_strs {imm : Imm} {w : World} {x : List ByteArray} {v : Value} (hok : ImmOk imm w) (h : sliceH (S.E 9) x imm v) : ∃ A c, v = .slice A x.length c ∧ ∀ (j : Nat) y, x[j]? = some y → ∃ bk o, A = some ⟨bk, o, none⟩ ∧ bk < w.heap.size ∧ w.cell? ⟨bk, o + j, none⟩ = some (.string y) := by
  obtain ⟨A, c, h1, h2, h3, h4, h5⟩ := h
  refine ⟨A, c, h1, fun j y hy => ?_⟩
  obtain ⟨b, o, e, h6⟩ := h5 (fun e => by rw [e] at hy; cases hy)
  obtain ⟨vs, h7, h8⟩ := h6 j y hy
  obtain ⟨v, vs', rfl, h9, _, h10⟩ := h7
  have h9 : v = .string y := h9
  have := hok _ _ _ (h8 0 v rfl)
  have e2 : o + j * (S.E 9).sz + 0 = o + j := by show o + j * 1 + 0 = o + j; omega
  rw [e2] at this
  refine ⟨b, o, e, ?_, by rw [this, h9]⟩
  unfold World.cell? at this
  split at this
  · rename_i c _ _ hq; exact (Array.getElem?_eq_some_iff.1 hq).1
  · cases this
abbrev W314 : CT S [9] [22] := (fun x0 => (some (P314 x0), S314 x0))
abbrev Ok314 : Prop := ConOk P7 14 (ctr P7 [22] [9] W314) ∧ ConMon (ctr P7 [22] [9] W314)
theorem run314 : RunP C0 14 [9] [22] W314 [] := by
  intro (x : List ByteArray) hx hp
  have h0 : (textsL x).length ≤ 70368744177664 := hp _ rfl
  intro imm w vs hok hgl hargs
  obtain ⟨v1, vs1, rfl, hv1, rfl⟩ := hargs
  obtain ⟨A, c, rfl, hcell⟩ := cell_strs hok (show sliceH (S.E 9) x imm v1 from hv1)
  refine (Tryd.texts_walk A c x w h0 hgl.2.tab hcell).mono ?_
  rintro e w' ⟨rfl, hb⟩
  exact pf_done (rts := [9]) (S314 x) hok hb rfl
theorem ok314 : Ok314 := con_okP (C := C0) run314
end Go.Rx
namespace Go.Rx
open Go.Ab Go.L21
set_option maxRecDepth 100000
set_option maxHeartbeats 20000000
set_option linter.unusedVariables false
/-- interregnum/row.Split -/
noncomputable def C315 : Cfg S := { P := P7, inl := [], K := [(33, ctr P7 [3] [9] (fun x0 => (some (P333 x0), S333 x0))), (37, ctr P7 [9] [3, 67] (fun x0 => (some (P337 x0), S337 x0))), (65, ctr P7 [9, 9] [3] (fun x0 x1 => (some (P365 x0 x1), S365 x0 x1)))], ann := [(15, [(3, .loop [(.sl 4, .own 9), (.sl 5, .str)])])] }
abbrev W315 : CT S [22, 4] [9] := (fun x0 => (some (P315 x0), S315 x0))
abbrev Ok315 : Prop := ConOk P7 15 (ctr P7 [9] [22, 4] W315) ∧ ConMon (ctr P7 [9] [22, 4] W315)
theorem q315 (x0 : ByteArray) (v : HR S [22, 4]) : (Xf C315 6 (emp 0) 15 (argsA C315 [⟨9, x0⟩]) (emp 0) (fun r _ => isR C315.P [22, 4] v r) (fun _ _ => False))
 = (LOOP (fun (h : List ByteArray × ByteArray) (J : List ByteArray × ByteArray → Prop) => bif !h.snd.toList == (ByteArray.mk #[]).toList then nat_lit 1 =
 nat_lit 1 ∧ bif decide ((0 : Int) ≤ S365 h.snd (ByteArray.mk #[(58 : UInt8)])) then ((0 : Int) ≤ (0 : Int) ∧ (0 : Int) ≤ S365 h.snd (ByteArray.mk #[(58 :
 UInt8)]) ∧ S365 h.snd (ByteArray.mk #[(58 : UInt8)]) ≤ (↑h.snd.size : Int)) ∧ ((0 : Int) ≤ IntKind.i64.wrap (S365 h.snd (ByteArray.mk #[(58 : UInt8)]) +
 (↑(nat_lit 1) : Int)) ∧ IntKind.i64.wrap (S365 h.snd (ByteArray.mk #[(58 : UInt8)]) + (↑(nat_lit 1) : Int)) ≤ (↑h.snd.size : Int) ∧ (↑h.snd.size : Int) ≤
 (↑h.snd.size : Int)) ∧ (h.snd.extract (nat_lit 0) (S365 h.snd (ByteArray.mk #[(58 : UInt8)])).toNat).size.le (nat_lit 281474976710656) ∧ bif (S337
 (h.snd.extract (nat_lit 0) (S365 h.snd (ByteArray.mk #[(58 : UInt8)])).toNat)).snd || decide ((S337 (h.snd.extract (nat_lit 0) (S365 h.snd (ByteArray.mk #[(58
 : UInt8)])).toNat)).fst < (0 : Int)) || decide ((↑(h.snd.extract (IntKind.i64.wrap (S365 h.snd (ByteArray.mk #[(58 : UInt8)]) + (↑(nat_lit 1) : Int))).toNat
 (↑h.snd.size : Int).toNat).size : Int) < (S337 (h.snd.extract (nat_lit 0) (S365 h.snd (ByteArray.mk #[(58 : UInt8)])).toNat)).fst) then ([], false) = v else
 ((-9223372036854775808 : Int) ≤ (S337 (h.snd.extract (nat_lit 0) (S365 h.snd (ByteArray.mk #[(58 : UInt8)])).toNat)).fst ∧ (S337 (h.snd.extract (nat_lit 0)
 (S365 h.snd (ByteArray.mk #[(58 : UInt8)])).toNat)).fst ≤ (9223372036854775807 : Int)) ∧ bif !(S333 (S337 (h.snd.extract (nat_lit 0) (S365 h.snd (ByteArray.mk
 #[(58 : UInt8)])).toNat)).fst).toList == (h.snd.extract (nat_lit 0) (S365 h.snd (ByteArray.mk #[(58 : UInt8)])).toNat).toList then ([], false) = v else ((0 :
 Int) ≤ (0 : Int) ∧ (0 : Int) ≤ (S337 (h.snd.extract (nat_lit 0) (S365 h.snd (ByteArray.mk #[(58 : UInt8)])).toNat)).fst ∧ (S337 (h.snd.extract (nat_lit 0)
 (S365 h.snd (ByteArray.mk #[(58 : UInt8)])).toNat)).fst ≤ (↑(h.snd.extract (IntKind.i64.wrap (S365 h.snd (ByteArray.mk #[(58 : UInt8)]) + (↑(nat_lit 1) :
 Int))).toNat (↑h.snd.size : Int).toNat).size : Int)) ∧ (h.fst.length = h.fst.length ∧ (h.fst.length + [(h.snd.extract (IntKind.i64.wrap (S365 h.snd
 (ByteArray.mk #[(58 : UInt8)]) + (↑(nat_lit 1) : Int))).toNat (↑h.snd.size : Int).toNat).extract (nat_lit 0) (S337 (h.snd.extract (nat_lit 0) (S365 h.snd
 (ByteArray.mk #[(58 : UInt8)])).toNat)).fst.toNat].length) * nat_lit 16 ≤ nat_lit 140737488355328) ∧ ∀ (y : List (ByteArray)), y = h.fst ++ [(h.snd.extract
 (IntKind.i64.wrap (S365 h.snd (ByteArray.mk #[(58 : UInt8)]) + (↑(nat_lit 1) : Int))).toNat (↑h.snd.size : Int).toNat).extract (nat_lit 0) (S337
 (h.snd.extract (nat_lit 0) (S365 h.snd (ByteArray.mk #[(58 : UInt8)])).toNat)).fst.toNat] → ((0 : Int) ≤ (S337 (h.snd.extract (nat_lit 0) (S365 h.snd
 (ByteArray.mk #[(58 : UInt8)])).toNat)).fst ∧ (S337 (h.snd.extract (nat_lit 0) (S365 h.snd (ByteArray.mk #[(58 : UInt8)])).toNat)).fst ≤ (↑(h.snd.extract
 (IntKind.i64.wrap (S365 h.snd (ByteArray.mk #[(58 : UInt8)]) + (↑(nat_lit 1) : Int))).toNat (↑h.snd.size : Int).toNat).size : Int) ∧ (↑(h.snd.extract
 (IntKind.i64.wrap (S365 h.snd (ByteArray.mk #[(58 : UInt8)]) + (↑(nat_lit 1) : Int))).toNat (↑h.snd.size : Int).toNat).size : Int) ≤ (↑(h.snd.extract
 (IntKind.i64.wrap (S365 h.snd (ByteArray.mk #[(58 : UInt8)]) + (↑(nat_lit 1) : Int))).toNat (↑h.snd.size : Int).toNat).size : Int)) ∧ y.length = y.length ∧ J
 (y, (h.snd.extract (IntKind.i64.wrap (S365 h.snd (ByteArray.mk #[(58 : UInt8)]) + (↑(nat_lit 1) : Int))).toNat (↑h.snd.size : Int).toNat).extract (S337
 (h.snd.extract (nat_lit 0) (S365 h.snd (ByteArray.mk #[(58 : UInt8)])).toNat)).fst.toNat (↑(h.snd.extract (IntKind.i64.wrap (S365 h.snd (ByteArray.mk #[(58 :
 UInt8)]) + (↑(nat_lit 1) : Int))).toNat (↑h.snd.size : Int).toNat).size : Int).toNat) else h.snd.size.le (nat_lit 281474976710656) ∧ ([], false) = v else
 (h.fst, true) = v) ([], x0)) := by kernel_rfl
end Go.Rx
/-! row.Split. -/
namespace Go.Rx
open Go.Ab Go.L21
set_option linter.unusedVariables false
set_option maxRecDepth 100000
theorem wrap64 {n : Int} (h : -9223372036854775808 ≤ n ∧ n ≤ 9223372036854775807) : IntKind.i64.wrap n = n := wrap64_id h
/-- What is handed back, with out's parts ahead. -/
def finS (out : List ByteArray) : Option (List (List UInt8)) → List ByteArray × Bool
  | none => ([], false)
  | some t => (out ++ t.map bs, true)
theorem finS_nil (l : List UInt8) (x : ByteArray) (h : l = x.data.toList) : finS [] (splitL l) = S315 x := by
  subst h; unfold S315
  cases splitL x.data.toList <;> rfl
theorem finS_some {l x r : List UInt8} {out : List ByteArray} (h : split1 l = some (x, r)) : finS out (splitL l) = finS (out ++ [bs x]) (splitL r) := by
  rw [splitL_some h]
  cases splitL r with
  | none => rfl
  | some t => show (out ++ (x :: t).map bs, true) = _; simp [finS]
/-- The text up to the colon. -/
abbrev tw (l : List UInt8) : List UInt8 := l.takeWhile (· != 58)
theorem tw_le (l : List UInt8) : (tw l).length ≤ l.length := by
  induction l with
  | nil => exact Nat.le_refl _
  | cons c r ih => unfold tw at *; rw [List.takeWhile_cons]; split <;> simp; omega
theorem tw_take (l : List UInt8) : tw l = l.take (tw l).length := by
  induction l with
  | nil => rfl
  | cons c r ih =>
    unfold tw at *; rw [List.takeWhile_cons]; split
    · rw [List.length_cons, List.take_succ_cons, ← ih]
    · rfl
theorem idx58 (l : List UInt8) : Lib.indexByte l 58 = if (tw l).length < l.length then ((tw l).length : Int) else -1 := by
  induction l with
  | nil => rfl
  | cons c r ih =>
    unfold tw at *
    rw [Lib.indexByte, List.takeWhile_cons]
    by_cases hc : c = 58
    · subst hc; rfl
    · have h1 : (c == 58) = false := by simpa using hc
      have h2 : (c != 58) = true := by simpa using hc
      rw [h1, h2]
      simp only [if_true, Bool.false_eq_true, if_false, List.length_cons]
      rw [ih]
      by_cases hl : (r.takeWhile (· != 58)).length < r.length
      · rw [if_pos hl, if_pos (Nat.succ_lt_succ hl), if_neg (by simp only [beq_iff_eq]; omega)]
        omega
      · rw [if_neg hl, if_neg (fun h => hl (Nat.lt_of_succ_lt_succ h))]; rfl
theorem split1_is (l : List UInt8) : split1 l = if (tw l).length < l.length ∧ tw l = Lib.decDigits (valL (tw l)) ∧ valL (tw l) ≤ (l.drop ((tw l).length + 1)).length then some ((l.drop ((tw l).length + 1)).take (valL (tw l)), (l.drop ((tw l).length + 1)).drop (valL (tw l))) else none := by
  unfold split1
  simp only []
  split
  · rename_i h
    obtain ⟨h1, h2, h3⟩ := h
    have e2 : (tw l == Lib.decDigits (valL (tw l))) = true := beq_iff_eq.2 h2
    rw [show decide ((l.takeWhile (· != 58)).length < l.length) = true from decide_eq_true h1, show (l.takeWhile (· != 58) == Lib.decDigits (valL (l.takeWhile (· != 58)))) = true from e2, show decide (valL (l.takeWhile (· != 58)) ≤ (l.drop ((l.takeWhile (· != 58)).length + 1)).length) = true from decide_eq_true h3]
    rfl
  · rename_i h
    cases hb : (decide ((l.takeWhile (· != 58)).length < l.length) && (l.takeWhile (· != 58) == Lib.decDigits (valL (l.takeWhile (· != 58)))) && decide (valL (l.takeWhile (· != 58)) ≤ (l.drop ((l.takeWhile (· != 58)).length + 1)).length)) with
    | false => rfl
    | true =>
      rw [Bool.and_eq_true, Bool.and_eq_true, decide_eq_true_eq, decide_eq_true_eq, beq_iff_eq] at hb
      exact absurd ⟨hb.1.1, hb.1.2, hb.2⟩ h
theorem ext0 (s : ByteArray) (k : Nat) : (s.extract 0 k).data.toList = s.data.toList.take k := by
  rw [Lib.extract_data]; rfl
theorem extE (s : ByteArray) (k : Nat) : (s.extract k s.size).data.toList = s.data.toList.drop k := by
  rw [Lib.extract_data, List.take_of_length_le]
  rw [List.length_drop, ← Lib.size_eq]; omega
theorem s337_dec {s : ByteArray} {v : Nat} (h : s.data.toList = Lib.decDigits v) (hv : v < 9223372036854775808) : S337 s = ((v : Int), false) := by
  unfold S337
  rw [h, atoi_dec v hv]; rfl
/-- The four ways of a round. -/
theorem round15 {l : List UInt8} {k : Nat} {sz bh : ByteArray} (hl : l.length ≤ 1099511627776) (hk : (tw l).length = k) (hkl : k < l.length) (hs : sz.data.toList = tw l) (hb : bh.data.toList = l.drop (k + 1)) :
    (((S337 sz).2 || decide ((S337 sz).1 < 0) || decide ((bh.size : Int) < (S337 sz).1)) = true → split1 l = none) ∧
    (((S337 sz).2 || decide ((S337 sz).1 < 0) || decide ((bh.size : Int) < (S337 sz).1)) = false → (0 ≤ (S337 sz).1 ∧ (S337 sz).1 ≤ bh.size) ∧
      ((!((S333 (S337 sz).1).toList == sz.toList)) = true → split1 l = none) ∧
      ((!((S333 (S337 sz).1).toList == sz.toList)) = false → split1 l = some ((bh.extract 0 (S337 sz).1.toNat).data.toList, (bh.extract (S337 sz).1.toNat bh.size).data.toList))) := by
  have hbl : bh.size = (l.drop (k + 1)).length := by rw [Lib.size_eq, hb]
  have hbl2 : (l.drop (k + 1)).length ≤ l.length := by rw [List.length_drop]; omega
  have yes : ∀ {p}, split1 l = some p → ∃ v : Nat, tw l = Lib.decDigits v ∧ v ≤ bh.size ∧ S337 sz = ((v : Int), false) := by
    intro p hp
    rw [split1_is] at hp
    split at hp
    · rename_i h
      obtain ⟨_, h2, h3⟩ := h
      rw [hk] at h3
      refine ⟨_, h2, by rw [hbl]; exact h3, s337_dec (by rw [hs]; exact h2) (by omega)⟩
    · cases hp
  refine ⟨fun hc => ?_, fun hc => ?_⟩
  · cases hp : split1 l with
    | none => rfl
    | some p =>
      obtain ⟨v, h1, h2, h3⟩ := yes hp
      rw [h3] at hc
      simp at hc
      omega
  · have hc' : (S337 sz).2 = false ∧ 0 ≤ (S337 sz).1 ∧ (S337 sz).1 ≤ bh.size := by
      revert hc
      cases (S337 sz).2 <;> simp
    obtain ⟨_, h0, h1⟩ := hc'
    refine ⟨⟨h0, h1⟩, fun hd => ?_, fun hd => ?_⟩
    · cases hp : split1 l with
      | none => rfl
      | some p =>
        obtain ⟨v, e1, _, e3⟩ := yes hp
        rw [e3] at hd
        have : (S333 (v : Int)).toList = sz.toList := by
          rw [Lib.toList_data, Lib.toList_data, hs, e1, S333, data_bs, Lib.itoa_nonneg]
        rw [this] at hd
        simp at hd
    · generalize (S337 sz).1 = n at *
      obtain ⟨u, rfl⟩ : ∃ u : Nat, n = (u : Int) := ⟨n.toNat, by omega⟩
      have hd : (S333 (u : Int)).toList = sz.toList := by simpa using hd
      rw [Lib.toList_data, Lib.toList_data, hs, S333, data_bs, Lib.itoa_nonneg] at hd
      have hv : valL (tw l) = u := by rw [← hd]; exact val_dec u
      rw [split1_is, if_pos ⟨by omega, by rw [hv]; exact hd.symm, by rw [hv, hk]; omega⟩, hv, hk, Int.toNat_natCast, ext0, extE, hb]
theorem run315 : RunC C315 6 15 [22, 4] [9] W315 [] := by
  intro (x : ByteArray) hx hp
  have hp : x.size ≤ 1099511627776 := hp _ rfl
  refine of_eq (q315 x _) ?_
  refine LOOP.of (fun y => finS y.1 (splitL y.2.data.toList) = S315 x ∧ y.1.length + y.2.size ≤ x.size) (fun y => y.2.size) ⟨finS_nil _ x rfl, by simp⟩ ?_
  rintro ⟨out, rest⟩ ⟨h1, h2⟩ J hJ
  have h1 : finS out (splitL rest.data.toList) = S315 x := h1
  have h2 : out.length + rest.size ≤ x.size := h2
  have hrl : rest.data.toList.length = rest.size := (Lib.size_eq rest).symm
  dsimp only
  refine bif_of (fun hne => ⟨rfl, ?_⟩) (fun he => ?_)
  · have hne : rest.data.toList ≠ [] := by
      intro e
      rw [Lib.toList_data, Lib.toList_data, e] at hne
      exact absurd hne (by decide)
    have hi : S365 rest (ByteArray.mk #[58]) = if (tw rest.data.toList).length < rest.data.toList.length then ((tw rest.data.toList).length : Int) else -1 := idx58 _
    have nn : split1 rest.data.toList = none → (([], false) : List ByteArray × Bool) = S315 x := fun h => by
      rw [← h1, splitL_none hne h]; rfl
    by_cases hk : (tw rest.data.toList).length < rest.data.toList.length
    · rw [if_pos hk] at hi
      generalize hkk : (tw rest.data.toList).length = k at hi hk
      have hw : IntKind.i64.wrap ((k : Int) + ((nat_lit 1 : Nat) : Int)) = ((k + 1 : Nat) : Int) := by
        rw [show ((nat_lit 1 : Nat) : Int) = 1 from rfl, wrap64 (by omega)]; omega
      simp only [hi, hw, Int.toNat_natCast]
      obtain ⟨r1, r2⟩ := round15 (l := rest.data.toList) (k := k) (sz := rest.extract 0 k) (bh := rest.extract (k + 1) rest.size) (by omega) hkk hk (by rw [ext0, ← hkk]; exact (tw_take _).symm) (extE _ _)
      have hbs : (rest.extract (k + 1) rest.size).size + (k + 1) = rest.size := by
        rw [Lib.size_eq, extE, List.length_drop]; omega
      refine bif_of (fun _ => ⟨⟨Int.le_refl _, by omega, by omega⟩, ⟨by omega, by omega, Int.le_refl _⟩, ?_, bif_of (fun hc => nn (r1 hc)) (fun hc => ?_)⟩) (fun hn => absurd (decide_eq_false_iff_not.1 hn) (by omega))
      · show (rest.extract 0 k).size ≤ 281474976710656
        rw [Lib.size_eq, ext0, List.length_take]; omega
      · obtain ⟨⟨b0, b1⟩, c1, c2⟩ := r2 hc
        refine ⟨⟨by omega, by omega⟩, bif_of (fun hd => nn (c1 hd)) (fun hd => ?_)⟩
        have hs := c2 hd
        refine ⟨⟨Int.le_refl _, b0, b1⟩, ⟨trivial, ?_⟩, ?_⟩
        · show (out.length + 1) * 16 ≤ 140737488355328
          omega
        · intro y hy
          have hy : y = out ++ [(rest.extract (k + 1) rest.size).extract 0 (S337 (rest.extract 0 k)).1.toNat] := hy
          have hf := finS_some (out := out) hs
          rw [bs_data, h1, ← hy] at hf
          refine ⟨⟨b0, b1, Int.le_refl _⟩, trivial, hJ _ ⟨hf.symm, ?_⟩ ?_⟩
          · show y.length + (ByteArray.extract _ _ _).size ≤ x.size
            have e1 : y.length = out.length + 1 := by rw [hy]; simp
            have e2 : ((rest.extract (k + 1) rest.size).extract (S337 (rest.extract 0 k)).1.toNat (rest.extract (k + 1) rest.size).size).size ≤ (rest.extract (k + 1) rest.size).size := by
              rw [Lib.size_eq, extE, List.length_drop, ← Lib.size_eq]; omega
            exact Nat.le_trans (Nat.add_le_add (Nat.le_of_eq e1) e2) (by omega)
          · show (ByteArray.extract _ _ _).size < rest.size
            have e2 : ((rest.extract (k + 1) rest.size).extract (S337 (rest.extract 0 k)).1.toNat (rest.extract (k + 1) rest.size).size).size ≤ (rest.extract (k + 1) rest.size).size := by
              rw [Lib.size_eq, extE, List.length_drop, ← Lib.size_eq]; omega
            exact Nat.lt_of_le_of_lt e2 (by omega)
    · rw [if_neg hk] at hi
      simp only [hi]
      refine bif_of (fun hn => absurd (of_decide_eq_true hn) (by omega)) (fun _ => ⟨by show rest.size ≤ 281474976710656; omega, nn ?_⟩)
      rw [split1_is, if_neg (fun h => hk h.1)]
  · have he : rest.data.toList = [] := by
      rw [Lib.toList_data, Lib.toList_data] at he
      simpa using he
    rw [he, splitL_nil] at h1
    show (out, true) = _
    rw [← h1]; simp [finS]
theorem ok315 : Ok315 := con_ok (C := C315) (kok_cons ok333 (kok_cons ok337 (kok_cons ok365 kok_nil))) mx7 (by kernel_rfl) run315
end Go.Rx
namespace Go.Rx
open Go.Ab Go.L21
set_option maxRecDepth 100000
set_option maxHeartbeats 20000000
set_option linter.unusedVariables false
/-- interregnum/interregnumref11.Split -/
noncomputable def C316 : Cfg S := { P := P7, inl := [], K := [], ann := [(16, [(5, .loop [(.sl 6, .int .i64), (.sl 7, .int .i64)]), (3, .loop [(.sl 4, .own 9), (.sl 5, .int .i64)])])] }
abbrev W316 : CT S [22, 4] [9] := (fun x0 => (some (P316 x0), S316 x0))
abbrev Ok316 : Prop := ConOk P7 16 (ctr P7 [9] [22, 4] W316) ∧ ConMon (ctr P7 [9] [22, 4] W316)
theorem q316 (x0 : ByteArray) (v : HR S [22, 4]) : (Xf C316 6 (emp 0) 16 (argsA C316 [⟨9, x0⟩]) (emp 0) (fun r _ => isR C316.P [22, 4] v r) (fun _ _ => False))
 = (LOOP (fun (h : List ByteArray × Int) (J : List ByteArray × Int → Prop) => bif decide (h.snd < (↑x0.size : Int)) then LOOP (fun (h_1 : Int × Int) (J_1 : Int
 × Int → Prop) => (decide (h_1.snd < (↑x0.size : Int)) = true → (0 : Int) ≤ h_1.snd ∧ h_1.snd < (↑x0.size : Int)) ∧ ((decide (h_1.snd < (↑x0.size : Int)) &&
 decide ((48 : Int) ≤ (↑(x0.data.toList.getD h_1.snd.toNat (0 : UInt8)).toNat : Int))) = true → (0 : Int) ≤ h_1.snd ∧ h_1.snd < (↑x0.size : Int)) ∧ bif decide
 (h_1.snd < (↑x0.size : Int)) && decide ((48 : Int) ≤ (↑(x0.data.toList.getD h_1.snd.toNat (0 : UInt8)).toNat : Int)) && decide ((↑(x0.data.toList.getD
 h_1.snd.toNat (0 : UInt8)).toNat : Int) ≤ (57 : Int)) && decide (h_1.fst < (1099511627776 : Int)) then ((0 : Int) ≤ h_1.snd ∧ h_1.snd < (↑x0.size : Int)) ∧
 J_1 (IntKind.i64.wrap (IntKind.i64.wrap (h_1.fst * (10 : Int)) + IntKind.i64.wrap (IntKind.u8.wrap ((↑(x0.data.toList.getD h_1.snd.toNat (0 : UInt8)).toNat :
 Int) - (48 : Int)))), IntKind.i64.wrap (h_1.snd + (1 : Int))) else ((decide (h_1.snd = h.snd) || decide ((↑x0.size : Int) ≤ h_1.snd)) = false → (0 : Int) ≤
 h_1.snd ∧ h_1.snd < (↑x0.size : Int)) ∧ ((decide (h_1.snd = h.snd) || decide ((↑x0.size : Int) ≤ h_1.snd) || !decide ((↑(x0.data.toList.getD h_1.snd.toNat (0
 : UInt8)).toNat : Int) = (58 : Int))) = false → decide ((1 : Int) < IntKind.i64.wrap (h_1.snd - h.snd)) = true → (0 : Int) ≤ h.snd ∧ h.snd < (↑x0.size : Int))
 ∧ bif decide (h_1.snd = h.snd) || decide ((↑x0.size : Int) ≤ h_1.snd) || !decide ((↑(x0.data.toList.getD h_1.snd.toNat (0 : UInt8)).toNat : Int) = (58 : Int))
 || decide ((1 : Int) < IntKind.i64.wrap (h_1.snd - h.snd)) && decide ((↑(x0.data.toList.getD h.snd.toNat (0 : UInt8)).toNat : Int) = (48 : Int)) || decide
 (IntKind.i64.wrap (IntKind.i64.wrap ((↑x0.size : Int) - h_1.snd) - (1 : Int)) < h_1.fst) then ([], false) = v else ((0 : Int) ≤ IntKind.i64.wrap (h_1.snd + (1
 : Int)) ∧ IntKind.i64.wrap (h_1.snd + (1 : Int)) ≤ IntKind.i64.wrap (IntKind.i64.wrap (h_1.snd + (1 : Int)) + h_1.fst) ∧ IntKind.i64.wrap (IntKind.i64.wrap
 (h_1.snd + (1 : Int)) + h_1.fst) ≤ (↑x0.size : Int)) ∧ (h.fst.length = h.fst.length ∧ (h.fst.length + [x0.extract (IntKind.i64.wrap (h_1.snd + (1 :
 Int))).toNat (IntKind.i64.wrap (IntKind.i64.wrap (h_1.snd + (1 : Int)) + h_1.fst)).toNat].length) * nat_lit 16 ≤ nat_lit 140737488355328) ∧ ∀ (y : List
 (ByteArray)), y = h.fst ++ [x0.extract (IntKind.i64.wrap (h_1.snd + (1 : Int))).toNat (IntKind.i64.wrap (IntKind.i64.wrap (h_1.snd + (1 : Int)) +
 h_1.fst)).toNat] → y.length = y.length ∧ J (y, IntKind.i64.wrap (IntKind.i64.wrap (h_1.snd + (1 : Int)) + h_1.fst))) ((0 : Int), h.snd) else (h.fst, true) =
 v) ([], (0 : Int))) := by kernel_rfl
end Go.Rx
/-! ref11.Split. -/
namespace Go.Rx
open Go.Ab Go.L21
set_option linter.unusedVariables false
set_option maxRecDepth 100000
theorem valF_snoc (l : List UInt8) (c : UInt8) (a : Nat) : valF a (l ++ [c]) = valF a l * 10 + (c.toNat - 48) := by
  unfold valF; rw [List.foldl_append]; rfl
theorem valF_mono (l r : List UInt8) (a : Nat) : valF a l ≤ valF a (l ++ r) := by
  unfold valF; rw [List.foldl_append]; exact valF_ge r _
theorem head_dec (u : Nat) (h : 1 ≤ u) : ((Lib.decDigits u).getD 0 0).toNat ≠ 48 := by
  induction u using Nat.strongRecOn with
  | _ u ih =>
    rw [Lib.decDigits]
    split
    · show (UInt8.ofNat (48 + u)).toNat ≠ 48
      rw [toNat_dig (by omega)]; omega
    · have := ih (u / 10) (by omega) (by omega)
      have hn := dec_ne (u / 10)
      revert this hn
      generalize Lib.decDigits (u / 10) = l
      intro h1 h2
      cases l with
      | nil => exact absurd rfl h2
      | cons c r => exact h1
theorem len_dec {u : Nat} (h : 1 < (Lib.decDigits u).length) : 1 ≤ u := by
  rcases Nat.eq_zero_or_pos u with rfl | h1
  · rw [Lib.decDigits] at h; simp at h
  · exact h1
theorem snoc_ind {p : List UInt8 → Prop} (h0 : p []) (h1 : ∀ l c, p l → p (l ++ [c])) (l : List UInt8) : p l := by
  have : ∀ n (l : List UInt8), l.length = n → p l := by
    intro n
    induction n with
    | zero => intro l hl; rw [List.length_eq_zero_iff.1 hl]; exact h0
    | succ n ih =>
      intro l hl
      have hne : l ≠ [] := fun e => by rw [e] at hl; cases hl
      rw [← List.dropLast_concat_getLast hne]
      exact h1 _ _ (ih _ (by rw [List.length_dropLast]; omega))
  exact this _ l rfl
theorem valF_pos {c : UInt8} {r : List UInt8} (h : 48 < c.toNat) : 1 ≤ valF 0 (c :: r) :=
  Nat.le_trans (by show 1 ≤ 0 * 10 + (c.toNat - 48); omega) (valF_ge r (0 * 10 + (c.toNat - 48)))
theorem canon16 : ∀ l : List UInt8, Digs l → l ≠ [] → (1 < l.length → (l.getD 0 0).toNat ≠ 48) → Lib.decDigits (valF 0 l) = l := by
  refine snoc_ind (fun _ h _ => absurd rfl h) ?_
  intro l c ih hd _ hz
  have hc := hd c (by simp)
  have hl : Digs l := fun x hx => hd x (List.mem_append_left _ hx)
  have ec : UInt8.ofNat (48 + (c.toNat - 48)) = c := by
    rw [show 48 + (c.toNat - 48) = c.toNat by omega]; simp
  rw [valF_snoc]
  match l, ih, hl, hz with
  | [], _, _, _ =>
    show Lib.decDigits (0 * 10 + (c.toNat - 48)) = [c]
    rw [Lib.decDigits, dif_pos (by omega), show 0 * 10 + (c.toNat - 48) = c.toNat - 48 by omega, ec]
  | b :: r, ih, hl, hz =>
    have hb := hl b List.mem_cons_self
    have hb48 : b.toNat ≠ 48 := hz (by simp)
    have hp : 1 ≤ valF 0 (b :: r) := valF_pos (by omega)
    have hi := ih hl (by simp) (fun _ => hb48)
    rw [Lib.decDigits, dif_neg (by omega), show (valF 0 (b :: r) * 10 + (c.toNat - 48)) / 10 = valF 0 (b :: r) by omega, show (valF 0 (b :: r) * 10 + (c.toNat - 48)) % 10 = c.toNat - 48 by omega, hi, ec]
/-- How many digits are read, and what ends them. -/
theorem stop16 {l : List UInt8} {j a : Nat} (hl : l.length ≤ 1099511627776) (hj : j ≤ l.length) (hd : Digs (l.take j)) (ha : valF 0 (l.take j) = a)
    (hx : ¬ (j < l.length ∧ 48 ≤ (l.getD j 0).toNat ∧ (l.getD j 0).toNat ≤ 57 ∧ a < 1099511627776)) {p : List UInt8 × List UInt8} (hp : split1 l = some p) :
    j ≠ 0 ∧ j < l.length ∧ (l.getD j 0).toNat = 58 ∧ (1 < j → (l.getD 0 0).toNat ≠ 48) ∧ a ≤ l.length - j - 1 := by
  rw [split1_is] at hp
  split at hp
  · rename_i h
    obtain ⟨h1, h2, h3⟩ := h
    clear hp
    generalize hv : valL (tw l) = v at *
    have hvl : v < 1099511627776 := by rw [List.length_drop] at h3; omega
    have htd : Digs (tw l) := by rw [h2]; exact digs_dec v
    have ht := tw_take l
    have h58 : l.getD (tw l).length 0 = 58 := by
      have : ∀ l : List UInt8, (tw l).length < l.length → l.getD (tw l).length 0 = 58 := by
        intro l
        induction l with
        | nil => intro h; cases h
        | cons c r ih =>
          unfold tw at *
          rw [List.takeWhile_cons]
          split
          · intro h
            exact ih (by simpa using h)
          · rename_i hc
            intro _
            simpa using hc
      exact this l h1
    have hjt : j ≤ (tw l).length := by
      apply Classical.byContradiction
      intro hn
      have hm : l.getD (tw l).length 0 ∈ l.take j := by
        rw [List.getD_eq_getElem?_getD, List.getElem?_eq_getElem h1, Option.getD_some]
        exact List.mem_take_iff_getElem.2 ⟨(tw l).length, by omega, rfl⟩
      have := hd _ hm
      rw [h58] at this
      exact absurd this (by decide)
    have hpre : l.take (tw l).length = l.take j ++ (l.drop j).take ((tw l).length - j) := by
      rw [← List.take_add, show j + ((tw l).length - j) = (tw l).length by omega]
    have hval : valF 0 (tw l) = v := by rw [h2]; exact val_dec v
    have hav : a ≤ v := by
      rw [← ha, ← hval]
      conv => rhs; rw [ht, hpre]
      exact valF_mono _ _ _
    have hje : j = (tw l).length := by
      apply Classical.byContradiction
      intro hn
      have hm : l.getD j 0 ∈ tw l := by
        rw [ht, List.getD_eq_getElem?_getD, List.getElem?_eq_getElem (by omega), Option.getD_some]
        exact List.mem_take_iff_getElem.2 ⟨j, by omega, rfl⟩
      have := htd _ hm
      exact hx ⟨by omega, this.1, this.2, by omega⟩
    have hne : (tw l).length ≠ 0 := by
      rw [h2]; exact fun e => dec_ne v (List.length_eq_zero_iff.1 e)
    refine ⟨by omega, by omega, by rw [hje, h58]; rfl, fun h1j => ?_, ?_⟩
    · have hh : (tw l).getD 0 0 = l.getD 0 0 := by
        rw [ht, List.getD_eq_getElem?_getD, List.getD_eq_getElem?_getD, List.getElem?_take, if_pos (by omega)]
      rw [← hh, h2]
      exact head_dec v (len_dec (by rw [← h2]; omega))
    · rw [List.length_drop] at h3; omega
  · cases hp
theorem go16 {l : List UInt8} {j a : Nat} (hj : j ≠ 0) (hjl : j < l.length) (hd : Digs (l.take j)) (ha : valF 0 (l.take j) = a) (h58 : (l.getD j 0).toNat = 58) (hz : 1 < j → (l.getD 0 0).toNat ≠ 48) (hn : a ≤ l.length - j - 1) :
    split1 l = some ((l.drop (j + 1)).take a, (l.drop (j + 1)).drop a) := by
  have hlj : (l.take j).length = j := by rw [List.length_take]; omega
  have ec : l.getD j 0 = 58 := by
    apply UInt8.toNat_inj.1; rw [h58]; rfl
  have hsp : l = l.take j ++ 58 :: l.drop (j + 1) := by
    conv => lhs; rw [← List.take_append_drop j l, List.drop_eq_getElem_cons hjl]
    rw [List.getD_eq_getElem?_getD, List.getElem?_eq_getElem hjl, Option.getD_some] at ec
    rw [ec]
  have htw : tw l = l.take j := by
    conv => lhs; rw [hsp]
    exact take58 (digs58 hd)
  have hcan : Lib.decDigits a = l.take j := by
    rw [← ha]
    refine canon16 _ hd (fun e => by rw [e] at hlj; exact hj hlj.symm) fun h => ?_
    rw [hlj] at h
    have := hz h
    rwa [List.getD_eq_getElem?_getD, List.getElem?_take, if_pos (by omega), ← List.getD_eq_getElem?_getD]
  have hva : valL (tw l) = a := by rw [htw]; exact ha
  rw [split1_is, if_pos ⟨by rw [htw, hlj]; exact hjl, by rw [hva, hcan, htw], by rw [hva, htw, hlj, List.length_drop]; omega⟩, hva, htw, hlj]
theorem drop_getD (l : List UInt8) (i j : Nat) : (l.drop i).getD j 0 = l.getD (i + j) 0 := by
  rw [List.getD_eq_getElem?_getD, List.getD_eq_getElem?_getD, List.getElem?_drop]
theorem wrap8 (n : Int) : IntKind.u8.wrap n = n % 256 := rfl
theorem run316 : RunC C316 6 16 [22, 4] [9] W316 [] := by
  intro (x : ByteArray) hx hp
  have hp : x.size ≤ 1099511627776 := hp _ rfl
  have hL : x.data.toList.length = x.size := (Lib.size_eq x).symm
  refine of_eq (q316 x _) ?_
  refine LOOP.of (fun y => ∃ i : Nat, y.2 = (i : Int) ∧ i ≤ x.size ∧ finS y.1 (splitL (x.data.toList.drop i)) = S316 x ∧ y.1.length ≤ i) (fun y => x.size - y.2.toNat) ⟨0, rfl, by omega, finS_nil _ x rfl, Nat.le_refl _⟩ ?_
  rintro ⟨out, ii⟩ ⟨i, e, hi, h1, h2⟩ J hJ
  have e : ii = (i : Int) := e
  subst e
  have h1 : finS out (splitL (x.data.toList.drop i)) = S316 x := h1
  have h2 : out.length ≤ i := h2
  dsimp only
  refine bif_of (fun hlt => ?_) (fun he => ?_)
  · have hlt : i < x.size := by have := of_decide_eq_true hlt; omega
    have hll : (x.data.toList.drop i).length = x.size - i := by rw [List.length_drop, hL]
    have hne : x.data.toList.drop i ≠ [] := fun e => by rw [e] at hll; simp at hll; omega
    have nn : split1 (x.data.toList.drop i) = none → (([], false) : List ByteArray × Bool) = S316 x := fun h => by
      rw [← h1, splitL_none hne h]; rfl
    refine LOOP.of (fun y => ∃ a j : Nat, y = ((a : Int), ((i + j : Nat) : Int)) ∧ i + j ≤ x.size ∧ Digs ((x.data.toList.drop i).take j) ∧ valF 0 ((x.data.toList.drop i).take j) = a ∧ a < 17592186044416) (fun y => x.size - y.2.toNat) ⟨0, 0, rfl, by omega, (fun c hc => by cases hc), rfl, by omega⟩ ?_
    rintro _ ⟨a, j, rfl, hj, hd, ha, hal⟩ J1 hJ1
    dsimp only
    simp only [Int.toNat_natCast]
    have ej : x.data.toList.getD (i + j) 0 = (x.data.toList.drop i).getD j 0 := (drop_getD _ _ _).symm
    have e0 : x.data.toList.getD i 0 = (x.data.toList.drop i).getD 0 0 := by rw [drop_getD, Nat.add_zero]
    have ws : IntKind.i64.wrap (((i + j : Nat) : Int) - (i : Int)) = (j : Int) := by rw [wrap64 (by omega)]; omega
    have wl : IntKind.i64.wrap (IntKind.i64.wrap ((x.size : Int) - ((i + j : Nat) : Int)) - 1) = (x.size : Int) - (i + j : Nat) - 1 := by
      rw [wrap64 (n := (x.size : Int) - ((i + j : Nat) : Int)) (by omega), wrap64 (by omega)]
    have wk : IntKind.i64.wrap (((i + j : Nat) : Int) + 1) = ((i + j + 1 : Nat) : Int) := by rw [wrap64 (by omega)]; omega
    have wa : IntKind.i64.wrap (((i + j + 1 : Nat) : Int) + (a : Int)) = ((i + j + 1 + a : Nat) : Int) := by rw [wrap64 (by omega)]; omega
    simp only [ej, e0, ws, wl, wk, wa]
    generalize hl : x.data.toList.drop i = l at *
    have g1 : ∀ {p : Prop}, decide (((i + j : Nat) : Int) < (x.size : Int)) = true → 0 ≤ ((i + j : Nat) : Int) ∧ ((i + j : Nat) : Int) < (x.size : Int) := fun h => ⟨by omega, of_decide_eq_true h⟩
    refine ⟨fun h => ⟨by omega, of_decide_eq_true h⟩, fun h => ⟨by omega, of_decide_eq_true (Bool.and_eq_true _ _ ▸ h).1⟩, bif_of (fun hc => ?_) (fun hc => ?_)⟩
    · simp only [Bool.and_eq_true, decide_eq_true_eq] at hc
      obtain ⟨⟨⟨c1, c2⟩, c3⟩, c4⟩ := hc
      have hjl : j < l.length := by omega
      refine ⟨⟨by omega, c1⟩, hJ1 _ ⟨a * 10 + ((l.getD j 0).toNat - 48), j + 1, ?_, by omega, ?_, ?_, by omega⟩ ?_⟩
      · refine Prod.ext ?_ rfl
        show IntKind.i64.wrap (IntKind.i64.wrap ((a : Int) * 10) + IntKind.i64.wrap (IntKind.u8.wrap (((l.getD j 0).toNat : Int) - 48))) = _
        rw [wrap8, wrap64 (n := (a : Int) * 10) (by omega), wrap64 (n := (((l.getD j 0).toNat : Int) - 48) % 256) (by omega), wrap64 (by omega)]
        omega
      · intro c hc
        rw [List.take_add_one, List.mem_append] at hc
        rcases hc with hc | hc
        · exact hd c hc
        · rw [List.getElem?_eq_getElem hjl] at hc
          have hc := List.mem_singleton.1 hc
          rw [List.getD_eq_getElem?_getD, List.getElem?_eq_getElem hjl, Option.getD_some] at c2 c3
          rw [hc]; omega
      · rw [List.take_add_one, List.getElem?_eq_getElem hjl]
        show valF 0 (l.take j ++ [l[j]]) = _
        rw [valF_snoc, ha, List.getD_eq_getElem?_getD, List.getElem?_eq_getElem hjl, Option.getD_some]
      · show x.size - ((i + j + 1 : Nat) : Int).toNat < x.size - ((i + j : Nat) : Int).toNat
        omega
    · have hx : ¬ (j < l.length ∧ 48 ≤ (l.getD j 0).toNat ∧ (l.getD j 0).toNat ≤ 57 ∧ a < 1099511627776) := by
        rintro ⟨d1, d2, d3, d4⟩
        have hc2 : (decide (((i + j : Nat) : Int) < (x.size : Int)) && decide ((48 : Int) ≤ ((l.getD j 0).toNat : Int)) && decide (((l.getD j 0).toNat : Int) ≤ 57) && decide ((a : Int) < 1099511627776)) = true := by
          simp only [Bool.and_eq_true, decide_eq_true_eq]; omega
        rw [hc2] at hc; cases hc
      refine ⟨fun h => ?_, fun h h' => ⟨by omega, by omega⟩, bif_of (fun hb => ?_) (fun hb => ?_)⟩
      · simp only [Bool.or_eq_false_iff, decide_eq_false_iff_not] at h
        omega
      · refine nn ?_
        cases hp1 : split1 l with
        | none => rfl
        | some p =>
          obtain ⟨s1, s2, s3, s4, s5⟩ := stop16 (by omega) (by omega) hd ha hx hp1
          simp only [Bool.or_eq_true, Bool.and_eq_true, Bool.not_eq_true', decide_eq_true_eq, decide_eq_false_iff_not] at hb
          omega
      · simp only [Bool.or_eq_false_iff, Bool.and_eq_false_iff, Bool.not_eq_false', decide_eq_true_eq, decide_eq_false_iff_not] at hb
        obtain ⟨⟨⟨⟨b1, b2⟩, b3⟩, b4⟩, b5⟩ := hb
        have hs := go16 (l := l) (j := j) (a := a) (by omega) (by omega) hd ha (by omega) (by omega) (by omega)
        have hex : (x.extract (i + j + 1) (i + j + 1 + a)).data.toList = (l.drop (j + 1)).take a := by
          rw [Lib.extract_data, ← hl, List.drop_drop]
          congr 1; omega
        refine ⟨⟨by omega, by omega, by omega⟩, ⟨trivial, ?_⟩, ?_⟩
        · show (out.length + 1) * 16 ≤ 140737488355328
          omega
        · intro y hy
          have hy : y = out ++ [x.extract (i + j + 1) (i + j + 1 + a)] := hy
          have hf := finS_some (out := out) hs
          rw [← hex, bs_data, h1, ← hy] at hf
          refine ⟨trivial, hJ _ ⟨i + j + 1 + a, rfl, by omega, ?_, ?_⟩ ?_⟩
          · rw [hf, ← hl, List.drop_drop, List.drop_drop]
            show finS y _ = finS y _
            congr 3; omega
          · show y.length ≤ _
            rw [hy]; simp; omega
          · show x.size - ((i + j + 1 + a : Nat) : Int).toNat < x.size - ((i : Nat) : Int).toNat
            omega
  · have he : ¬ (i : Int) < (x.size : Int) := of_decide_eq_false he
    have : x.data.toList.drop i = [] := List.drop_eq_nil_of_le (by omega)
    rw [this, splitL_nil] at h1
    show (out, true) = _
    rw [← h1]; simp [finS]
theorem ok316 : Ok316 := con_ok (C := C316) kok_nil mx7 (by kernel_rfl) run316
end Go.Rx
namespace Go.Rx
open Go.Ab Go.L21
set_option maxRecDepth 100000
set_option maxHeartbeats 20000000
set_option linter.unusedVariables false
noncomputable def C355 (k : Nat) : Cfg S := { P := P7, inl := [], K := [(55, ctr P7 [59] [9] (fun x0 => (some (DB k x0), S355 x0)))], ann := [] }
abbrev WD (k : Nat) : CT S [9] [59] := (fun x0 => (some (DB k x0), S355 x0))
abbrev OkD (k : Nat) : Prop := ConOk P7 55 (ctr P7 [59] [9] (WD k)) ∧ ConMon (ctr P7 [59] [9] (WD k))
theorem q355 (k : Nat) (x0 : Int) (v : HR S [9]) : (Xf (C355 k) 6 (emp 0) 55 (argsA (C355 k) [⟨59, x0⟩]) (emp 0) (fun r _ => isR (C355 k).P [9] v r) (fun _ _
 => False)) = (bif decide (x0 < (10 : Int)) then bsOf (List.map (fun (x : Int) => x) [IntKind.u8.wrap ((48 : Int) + IntKind.u8.wrap x0)]) = v else DB k
 (IntKind.u64.wrap (x0.tdiv (10 : Int))) ∧ (S355 (IntKind.u64.wrap (x0.tdiv (10 : Int)))).size + (bsOf (List.map (fun (x : Int) => x) [IntKind.u8.wrap ((48 :
 Int) + IntKind.u8.wrap (x0.tmod (10 : Int)))])).size ≤ nat_lit 9223372036854775807 ∧ S355 (IntKind.u64.wrap (x0.tdiv (10 : Int))) ++ bsOf (List.map (fun (x :
 Int) => x) [IntKind.u8.wrap ((48 : Int) + IntKind.u8.wrap (x0.tmod (10 : Int)))]) = v) := by kernel_rfl
end Go.Rx
namespace Go.Rx
open Go.Ab Go.L21
set_option maxRecDepth 100000
set_option maxHeartbeats 20000000
set_option linter.unusedVariables false
/-- interregnum/interregnumref11.Dec -/
noncomputable def C338 : Cfg S := { P := P7, inl := [], K := [(55, ctr P7 [59] [9] (fun x0 => (some (P355 x0), S355 x0)))], ann := [] }
abbrev W338 : CT S [9] [3] := (fun x0 => (some (P338 x0), S338 x0))
abbrev Ok338 : Prop := ConOk P7 38 (ctr P7 [3] [9] W338) ∧ ConMon (ctr P7 [3] [9] W338)
theorem q338 (x0 : Int) (v : HR S [9]) : (Xf C338 6 (emp 0) 38 (argsA C338 [⟨3, x0⟩]) (emp 0) (fun r _ => isR C338.P [9] v r) (fun _ _ => False)) = (bif decide
 (x0 < (0 : Int)) then DB (nat_lit 20) (IntKind.u64.wrap (IntKind.u64.wrap (IntKind.i64.wrap ((0 : Int) - IntKind.i64.wrap (x0 + (1 : Int)))) + (1 : Int))) ∧
 nat_lit 1 + (S355 (IntKind.u64.wrap (IntKind.u64.wrap (IntKind.i64.wrap ((0 : Int) - IntKind.i64.wrap (x0 + (1 : Int)))) + (1 : Int)))).size ≤ nat_lit
 9223372036854775807 ∧ ByteArray.mk #[(45 : UInt8)] ++ S355 (IntKind.u64.wrap (IntKind.u64.wrap (IntKind.i64.wrap ((0 : Int) - IntKind.i64.wrap (x0 + (1 :
 Int)))) + (1 : Int))) = v else DB (nat_lit 20) (IntKind.u64.wrap x0) ∧ S355 (IntKind.u64.wrap x0) = v) := by kernel_rfl
end Go.Rx
namespace Go.Rx
open Go.Ab Go.L21
set_option maxRecDepth 100000
set_option maxHeartbeats 20000000
set_option linter.unusedVariables false
/-- interregnum/interregnumref11.Texts -/
noncomputable def C317 : Cfg S := { P := P7, inl := [], K := [(38, ctr P7 [3] [9] (fun x0 => (some (P338 x0), S338 x0)))], ann := [(17, [(3, .loop [(.sl 3, .str), (.sl 4, .int .i64)])])] }
abbrev W317 : CT S [9] [22] := (fun x0 => (some (P317 x0), S317 x0))
abbrev Ok317 : Prop := ConOk P7 17 (ctr P7 [22] [9] W317) ∧ ConMon (ctr P7 [22] [9] W317)
theorem q317 (x0 : List ByteArray) (v : HR S [9]) : (Xf C317 6 (emp 0) 17 (argsA C317 [⟨22, x0⟩]) (emp 0) (fun r _ => isR C317.P [9] v r) (fun _ _ => False)) =
 (LOOP (fun (h : ByteArray × Int) (J : ByteArray × Int → Prop) => bif decide (h.snd < (↑x0.length : Int)) then ((0 : Int) ≤ h.snd ∧ h.snd < (↑x0.length : Int))
 ∧ ((0 : Int) ≤ h.snd ∧ h.snd < (↑x0.length : Int)) ∧ ((-9223372036854775808 : Int) ≤ (↑(ix x0 h.snd).size : Int) ∧ (↑(ix x0 h.snd).size : Int) ≤
 (9223372036854775807 : Int)) ∧ h.fst.size + (S338 (↑(ix x0 h.snd).size : Int)).size ≤ nat_lit 9223372036854775807 ∧ (h.fst ++ S338 (↑(ix x0 h.snd).size :
 Int)).size + nat_lit 1 ≤ nat_lit 9223372036854775807 ∧ (h.fst ++ S338 (↑(ix x0 h.snd).size : Int) ++ ByteArray.mk #[(58 : UInt8)]).size + (ix x0 h.snd).size ≤
 nat_lit 9223372036854775807 ∧ J (h.fst ++ S338 (↑(ix x0 h.snd).size : Int) ++ ByteArray.mk #[(58 : UInt8)] ++ ix x0 h.snd, IntKind.i64.wrap (h.snd + (1 :
 Int))) else h.fst = v) (ByteArray.mk #[], (0 : Int))) := by kernel_rfl
end Go.Rx
namespace Go.Rx
open Go.Ab Go.L21
set_option maxRecDepth 100000
set_option maxHeartbeats 20000000
set_option linter.unusedVariables false
/-- interregnum/interregnumlaw21.few -/
noncomputable def C312 : Cfg S := { P := P7, inl := [], K := [], ann := [(12, [(3, .loop [(.sl 3, .int .i64), (.sl 4, .int .i64)])])] }
abbrev W312 : CT S [4] [22] := (fun x0 => (some (P312 x0), S312 x0))
abbrev Ok312 : Prop := ConOk P7 12 (ctr P7 [22] [4] W312) ∧ ConMon (ctr P7 [22] [4] W312)
theorem q312 (x0 : List ByteArray) (v : HR S [4]) : (Xf C312 6 (emp 0) 12 (argsA C312 [⟨22, x0⟩]) (emp 0) (fun r _ => isR C312.P [4] v r) (fun _ _ => False)) =
 (LOOP (fun (h : Int × Int) (J : Int × Int → Prop) => bif decide (h.snd < (↑x0.length : Int)) && decide (h.fst < (10000 : Int)) then ((0 : Int) ≤ h.snd ∧ h.snd
 < (↑x0.length : Int)) ∧ J (IntKind.i64.wrap (h.fst + (↑(ix x0 h.snd).size : Int)), IntKind.i64.wrap (h.snd + (1 : Int))) else decide (h.fst < (10000 : Int)) =
 v) ((↑x0.length : Int), (0 : Int))) := by kernel_rfl
end Go.Rx
namespace Go.Rx
open Go.Ab Go.L21
set_option maxRecDepth 100000
set_option maxHeartbeats 20000000
set_option linter.unusedVariables false
/-- interregnum/interregnumlaw21.same -/
noncomputable def C318 : Cfg S := { P := P7, inl := [], K := [], ann := [(18, [(4, .loop [(.sl 5, .int .i64)])])] }
abbrev W318 : CT S [4] [22, 22] := (fun x0 x1 => (some (P318 x0 x1), S318 x0 x1))
abbrev Ok318 : Prop := ConOk P7 18 (ctr P7 [22, 22] [4] W318) ∧ ConMon (ctr P7 [22, 22] [4] W318)
theorem q318 (x0 : List ByteArray) (x1 : List ByteArray) (v : HR S [4]) : (Xf C318 6 (emp 0) 18 (argsA C318 [⟨22, x0⟩, ⟨22, x1⟩]) (emp 0) (fun r _ => isR
 C318.P [4] v r) (fun _ _ => False)) = (bif !decide ((↑x0.length : Int) = (↑x1.length : Int)) then false = v else LOOP (fun (h : Int) (J : Int → Prop) => bif
 decide (h < (↑x0.length : Int)) then ((0 : Int) ≤ h ∧ h < (↑x0.length : Int)) ∧ ((0 : Int) ≤ h ∧ h < (↑x1.length : Int)) ∧ bif !(ix x0 h).toList == (ix x1
 h).toList then false = v else J (IntKind.i64.wrap (h + (1 : Int))) else true = v) (0 : Int)) := by kernel_rfl
end Go.Rx
namespace Go.Rx
open Go.Ab Go.L21
set_option maxRecDepth 100000
set_option maxHeartbeats 20000000
set_option linter.unusedVariables false
/-- interregnum/row.addr -/
noncomputable def C339 : Cfg S := { P := P7, inl := [], K := [(56, ctr P7 [59, 3] [9] (fun x0 x1 => (some (P356 x0 x1), S356 x0 x1)))], ann := [] }
abbrev W339 : CT S [9] [31] := (fun x0 => (some (P339 x0), S339 x0))
abbrev Ok339 : Prop := ConOk P7 39 (ctr P7 [31] [9] W339) ∧ ConMon (ctr P7 [31] [9] W339)
theorem q339 (x0 : Int) (v : HR S [9]) : (Xf C339 6 (emp 0) 39 (argsA C339 [⟨31, x0⟩]) (emp 0) (fun r _ => isR C339.P [9] v r) (fun _ _ => False)) = (((10 :
 Int) = (10 : Int) ∧ (0 : Int) ≤ IntKind.u64.wrap x0 ∧ IntKind.u64.wrap x0 < (18446744073709551616 : Int)) ∧ S356 (IntKind.u64.wrap x0) (10 : Int) = v) := by
 kernel_rfl
end Go.Rx
namespace Go.Rx
open Go.Ab Go.L21
set_option maxRecDepth 100000
set_option maxHeartbeats 20000000
set_option linter.unusedVariables false
/-- interregnum/row.num -/
noncomputable def C340 : Cfg S := { P := P7, inl := [], K := [(33, ctr P7 [3] [9] (fun x0 => (some (P333 x0), S333 x0)))], ann := [] }
abbrev W340 : CT S [9] [3] := (fun x0 => (some (P340 x0), S340 x0))
abbrev Ok340 : Prop := ConOk P7 40 (ctr P7 [3] [9] W340) ∧ ConMon (ctr P7 [3] [9] W340)
theorem q340 (x0 : Int) (v : HR S [9]) : (Xf C340 6 (emp 0) 40 (argsA C340 [⟨3, x0⟩]) (emp 0) (fun r _ => isR C340.P [9] v r) (fun _ _ => False)) =
 (((-9223372036854775808 : Int) ≤ x0 ∧ x0 ≤ (9223372036854775807 : Int)) ∧ S333 x0 = v) := by kernel_rfl
end Go.Rx
namespace Go.Rx
open Go.Ab Go.L21
set_option maxRecDepth 100000
set_option maxHeartbeats 20000000
set_option linter.unusedVariables false
/-- interregnum/row.Hop -/
noncomputable def C319 : Cfg S := { P := P7, inl := [], K := [(14, ctr P7 [22] [9] (fun x0 => (some (P314 x0), S314 x0))), (39, ctr P7 [31] [9] (fun x0 => (some (P339 x0), S339 x0))), (40, ctr P7 [3] [9] (fun x0 => (some (P340 x0), S340 x0)))], ann := [] }
abbrev W319 : CT S [9] [35] := (fun x0 => (some (P319 x0), S319 x0))
abbrev Ok319 : Prop := ConOk P7 19 (ctr P7 [35] [9] W319) ∧ ConMon (ctr P7 [35] [9] W319)
theorem q319 (x0 : api_Hop) (v : HR S [9]) : (Xf C319 6 (emp 0) 19 (argsA C319 [⟨35, x0⟩]) (emp 0) (fun r _ => isR C319.P [9] v r) (fun _ _ => False)) = (((0 :
 Int) ≤ x0.fPrefix.fAddr ∧ x0.fPrefix.fAddr ≤ (4294967295 : Int)) ∧ ((-9223372036854775808 : Int) ≤ x0.fPrefix.fLen ∧ x0.fPrefix.fLen ≤ (9223372036854775807 :
 Int)) ∧ ((0 : Int) ≤ x0.fNext ∧ x0.fNext ≤ (4294967295 : Int)) ∧ ((-9223372036854775808 : Int) ≤ x0.fPeer ∧ x0.fPeer ≤ (9223372036854775807 : Int)) ∧
 ((-9223372036854775808 : Int) ≤ x0.fStale ∧ x0.fStale ≤ (9223372036854775807 : Int)) ∧ (textsL [S339 x0.fPrefix.fAddr, S340 x0.fPrefix.fLen, S339 x0.fNext,
 S340 x0.fPeer, S340 x0.fStale]).length.le (nat_lit 70368744177664) ∧ S314 [S339 x0.fPrefix.fAddr, S340 x0.fPrefix.fLen, S339 x0.fNext, S340 x0.fPeer, S340
 x0.fStale] = v) := by kernel_rfl
end Go.Rx
namespace Go.Rx
open Go.Ab Go.L21
set_option maxRecDepth 100000
set_option maxHeartbeats 20000000
set_option linter.unusedVariables false
/-- interregnum/interregnumref11.Hop -/
noncomputable def C321 : Cfg S := { P := P7, inl := [], K := [(38, ctr P7 [3] [9] (fun x0 => (some (P338 x0), S338 x0))), (17, ctr P7 [22] [9] (fun x0 => (some (P317 x0), S317 x0)))], ann := [] }
abbrev W321 : CT S [9] [35] := (fun x0 => (some (P321 x0), S321 x0))
abbrev Ok321 : Prop := ConOk P7 21 (ctr P7 [35] [9] W321) ∧ ConMon (ctr P7 [35] [9] W321)
theorem q321 (x0 : api_Hop) (v : HR S [9]) : (Xf C321 6 (emp 0) 21 (argsA C321 [⟨35, x0⟩]) (emp 0) (fun r _ => isR C321.P [9] v r) (fun _ _ => False)) =
 (((-9223372036854775808 : Int) ≤ IntKind.i64.wrap x0.fPrefix.fAddr ∧ IntKind.i64.wrap x0.fPrefix.fAddr ≤ (9223372036854775807 : Int)) ∧ ((-9223372036854775808
 : Int) ≤ x0.fPrefix.fLen ∧ x0.fPrefix.fLen ≤ (9223372036854775807 : Int)) ∧ ((-9223372036854775808 : Int) ≤ IntKind.i64.wrap x0.fNext ∧ IntKind.i64.wrap
 x0.fNext ≤ (9223372036854775807 : Int)) ∧ ((-9223372036854775808 : Int) ≤ x0.fPeer ∧ x0.fPeer ≤ (9223372036854775807 : Int)) ∧ ((-9223372036854775808 : Int) ≤
 x0.fStale ∧ x0.fStale ≤ (9223372036854775807 : Int)) ∧ (textsL [S338 (IntKind.i64.wrap x0.fPrefix.fAddr), S338 x0.fPrefix.fLen, S338 (IntKind.i64.wrap
 x0.fNext), S338 x0.fPeer, S338 x0.fStale]).length.le (nat_lit 70368744177664) ∧ S317 [S338 (IntKind.i64.wrap x0.fPrefix.fAddr), S338 x0.fPrefix.fLen, S338
 (IntKind.i64.wrap x0.fNext), S338 x0.fPeer, S338 x0.fStale] = v) := by kernel_rfl
end Go.Rx
/-! Numbers of the reference; small functions. -/
namespace Go.Rx
open Go.Ab Go.L21
set_option linter.unusedVariables false
set_option maxRecDepth 100000
theorem wrapU {n : Int} (h : 0 ≤ n ∧ n < 18446744073709551616) : IntKind.u64.wrap n = n := by
  rw [IntKind.wrap_u64]; omega
theorem kk1 {P : Program} {f : Nat} {W : Con S.A} (h : ConOk P f W ∧ ConMon W) : KOk P [(f, W)] := kok_cons h kok_nil
theorem bsOf_one {d : Nat} (h : d < 10) : bsOf (List.map (fun (x : Int) => x) [IntKind.u8.wrap ((48 : Int) + IntKind.u8.wrap (d : Int))]) = bs [UInt8.ofNat (48 + d)] := by
  have e : IntKind.u8.wrap ((48 : Int) + IntKind.u8.wrap (d : Int)) = ((48 + d : Nat) : Int) := by
    rw [wrap8, wrap8]; omega
  rw [e]
  rfl
theorem dec_len {u : Nat} (h : ¬ u < 10) : (Lib.decDigits u).length = (Lib.decDigits (u / 10)).length + 1 := by
  rw [Lib.decDigits, dif_neg h]; simp
theorem bs_app (a b : List UInt8) : bs a ++ bs b = bs (a ++ b) := by
  apply ByteArray.ext
  simp [bs]
theorem okD (k : Nat) : OkD k := by
  induction k with
  | zero => exact con_okP (C := C0) (fun x hx hp => by
      obtain ⟨_, _, h⟩ : DB 0 x := hp _ rfl
      exact absurd (List.length_eq_zero_iff.1 (Nat.le_zero.1 h)) (dec_ne _))
  | succ k ih =>
    refine con_ok (C := C355 k) (n := 6) (kk1 ih) mx7 (by kernel_rfl) ?_
    intro (x : Int) hx hp
    obtain ⟨h0, h1, h2⟩ : DB (k + 1) x := hp _ rfl
    refine of_eq (q355 k x _) ?_
    obtain ⟨u, rfl⟩ : ∃ u : Nat, x = (u : Int) := ⟨x.toNat, by omega⟩
    rw [Int.toNat_natCast] at h2
    have hS : S355 (u : Int) = bs (Lib.decDigits u) := by unfold S355; rw [Int.toNat_natCast]
    refine bif_of (fun hc => ?_) (fun hc => ?_)
    · have hc : u < 10 := by have := of_decide_eq_true hc; omega
      rw [bsOf_one hc]
      show _ = S355 (u : Int)
      rw [hS, Lib.decDigits, dif_pos hc]
    · have hc : ¬ u < 10 := by have := of_decide_eq_false hc; omega
      have e1 : IntKind.u64.wrap ((u : Int).tdiv 10) = ((u / 10 : Nat) : Int) := by
        rw [show ((u : Int).tdiv 10) = ((u / 10 : Nat) : Int) from rfl, wrapU (by omega)]
      have e2 : ((u : Int).tmod 10) = ((u % 10 : Nat) : Int) := rfl
      have e3 : S355 ((u / 10 : Nat) : Int) = bs (Lib.decDigits (u / 10)) := by unfold S355; rw [Int.toNat_natCast]
      have hl := dec_len hc
      rw [e1, e2, bsOf_one (show u % 10 < 10 by omega), e3]
      refine ⟨⟨by omega, by omega, by rw [Int.toNat_natCast]; omega⟩, ?_, ?_⟩
      · rw [size_bs, size_bs]
        have : (Lib.decDigits u).length ≤ 20 := by
          have h := Lib.numDigits_eq u (by omega) (by omega)
          rw [Lib.decDigits_length]; split at h <;> omega
        show _ + 1 ≤ 9223372036854775807
        omega
      · rw [bs_app]
        show _ = S355 (u : Int)
        rw [hS]
        conv => rhs; rw [Lib.decDigits, dif_neg hc]
abbrev W355 : CT S [9] [59] := WD 20
abbrev Ok355 : Prop := OkD 20
theorem ok355 : Ok355 := okD 20
theorem db20 (u : Nat) (h : u < 18446744073709551616) : DB 20 (u : Int) := by
  refine ⟨by omega, by omega, ?_⟩
  rw [Int.toNat_natCast]
  rcases Nat.eq_zero_or_pos u with rfl | h1
  · rw [Lib.decDigits]; decide
  · have h := Lib.numDigits_eq u h1 h
    rw [Lib.decDigits_length]; split at h <;> omega
theorem len20 (u : Nat) (h : u < 18446744073709551616) : (Lib.decDigits u).length ≤ 20 := by
  obtain ⟨_, _, h⟩ := db20 u h
  rwa [Int.toNat_natCast] at h
theorem s355 (u : Nat) : S355 (u : Int) = bs (Lib.decDigits u) := by unfold S355; rw [Int.toNat_natCast]
theorem run338 : RunC C338 6 38 [9] [3] W338 [] := by
  intro (n : Int) hn hp
  obtain ⟨h0, h1⟩ : P333 n := hp _ rfl
  refine of_eq (q338 n _) (bif_of (fun hc => ?_) (fun hc => ?_))
  · have hc := of_decide_eq_true hc
    obtain ⟨u, rfl⟩ : ∃ u : Nat, n = -(u : Int) := ⟨n.natAbs, by omega⟩
    have e : IntKind.u64.wrap (IntKind.u64.wrap (IntKind.i64.wrap ((0 : Int) - IntKind.i64.wrap (-(u : Int) + 1))) + 1) = (u : Int) := by
      rw [wrap64 (n := -(u : Int) + 1) (by omega), wrap64 (by omega), wrapU (n := 0 - (-(u : Int) + 1)) (by omega), wrapU (by omega)]; omega
    rw [e, s355]
    refine ⟨db20 u (by omega), ?_, ?_⟩
    · have := len20 u (by omega)
      rw [size_bs]
      show 1 + _ ≤ 9223372036854775807
      omega
    · show bs [45] ++ _ = bs (Lib.itoa _)
      rw [bs_app, Lib.itoa_neg u (by omega)]; rfl
  · have hc := of_decide_eq_false hc
    obtain ⟨u, rfl⟩ : ∃ u : Nat, n = (u : Int) := ⟨n.toNat, by omega⟩
    rw [wrapU (by omega), s355]
    refine ⟨db20 u (by omega), ?_⟩
    show _ = bs (Lib.itoa _)
    rw [Lib.itoa_nonneg]
theorem ok338 : Ok338 := con_ok (C := C338) (kk1 ok355) mx7 (by kernel_rfl) run338
theorem ix_get {l : List ByteArray} {k : Nat} {y : ByteArray} (h : l[k]? = some y) : ix l (k : Int) = y := by
  unfold ix
  rw [Int.toNat_natCast, List.getD_eq_getElem?_getD, h]; rfl
theorem run317 : RunC C317 6 17 [9] [22] W317 [] := by
  intro (x : List ByteArray) hx hp
  have hp : (textsL x).length ≤ 70368744177664 := hp _ rfl
  have hn := Proofs.texts_num x
  refine of_eq (q317 x _) ?_
  refine LOOP.of (fun y => ∃ k : Nat, y = (bs (textsL (x.take k)), (k : Int)) ∧ k ≤ x.length) (fun y => x.length - y.2.toNat) ⟨0, rfl, by omega⟩ ?_
  rintro _ ⟨k, rfl, hk⟩ J hJ
  dsimp only
  refine bif_of (fun hc => ?_) (fun hc => ?_)
  · have hc := of_decide_eq_true hc
    have hkl : k < x.length := by omega
    have hy : x[k]? = some x[k] := List.getElem?_eq_getElem hkl
    generalize x[k] = y at hy
    have hl := Proofs.texts_le x (k + 1)
    rw [Proofs.texts_take hy, textL] at hl
    simp only [List.length_append, List.length_cons, ← Lib.size_eq] at hl
    rw [ix_get hy]
    have hS : S338 (y.size : Int) = bs (Lib.itoa y.size) := rfl
    have h1 : bs (textsL (x.take k)) ++ bs (Lib.itoa y.size) = bs (textsL (x.take k) ++ Lib.itoa y.size) := bs_app _ _
    have h2 : bs (textsL (x.take k) ++ Lib.itoa y.size) ++ ByteArray.mk #[58] = bs (textsL (x.take k) ++ Lib.itoa y.size ++ [58]) := bs_app _ [58]
    rw [hS, h1, h2]
    simp only [size_bs]
    refine ⟨⟨by omega, hc⟩, ⟨by omega, hc⟩, ⟨by omega, by omega⟩, ?_, ?_, ?_, hJ _ ⟨k + 1, Prod.ext ?_ ?_, by omega⟩ ?_⟩
    · show _ ≤ 9223372036854775807; omega
    · show _ + 1 ≤ 9223372036854775807; rw [List.length_append]; omega
    · show _ ≤ 9223372036854775807; simp only [List.length_append, List.length_singleton]; omega
    · show bs _ ++ bs y.data.toList = bs _
      rw [bs_app, Proofs.texts_take hy, textL]; simp
    · exact (wrap64 (by omega)).trans (by show (k : Int) + 1 = ((k + 1 : Nat) : Int); omega)
    · show x.length - (IntKind.i64.wrap ((k : Int) + 1)).toNat < x.length - ((k : Nat) : Int).toNat
      rw [wrap64 (by omega)]; omega
  · have hc := of_decide_eq_false hc
    have : k = x.length := by omega
    rw [this, List.take_length]
    rfl
theorem ok317 : Ok317 := con_ok (C := C317) (kk1 ok338) mx7 (by kernel_rfl) run317
theorem run339 : RunC C339 6 39 [9] [31] W339 [] := by
  intro (n : Int) hn hp
  obtain ⟨h0, h1⟩ : P339 n := hp _ rfl
  refine of_eq (q339 n _) ?_
  rw [wrapU (by omega)]
  exact ⟨⟨rfl, h0, by omega⟩, rfl⟩
theorem ok339 : Ok339 := con_ok (C := C339) (kk1 ok356) mx7 (by kernel_rfl) run339
theorem run340 : RunC C340 6 40 [9] [3] W340 [] := by
  intro (n : Int) hn hp
  have hp : P333 n := hp _ rfl
  exact of_eq (q340 n _) ⟨hp, rfl⟩
theorem ok340 : Ok340 := con_ok (C := C340) (kk1 ok333) mx7 (by kernel_rfl) run340
theorem itoa_len {n : Int} (h : P333 n) : (Lib.itoa n).length ≤ 21 := by
  by_cases hn : n < 0
  · obtain ⟨u, rfl⟩ : ∃ u : Nat, n = -(u : Int) := ⟨n.natAbs, by omega⟩
    have := h.1
    have := len20 u (by omega)
    rw [Lib.itoa_neg u (by omega), List.length_cons]; omega
  · obtain ⟨u, rfl⟩ : ∃ u : Nat, n = (u : Int) := ⟨n.toNat, by omega⟩
    have := h.2
    have := len20 u (by omega)
    rw [Lib.itoa_nonneg]; omega
theorem p333 {n : Int} (h : 0 ≤ n ∧ n ≤ 4294967295) : P333 n := ⟨by omega, by omega⟩
theorem text_len {n : Int} (h : P333 n) : (textL (S333 n)).length ≤ 43 := by
  have h1 := itoa_len h
  rw [textL, List.length_append, List.length_cons, S333, data_bs, size_bs]
  have := itoa_len (n := ((Lib.itoa n).length : Int)) ⟨by omega, by omega⟩
  omega
theorem hop_len {h : api_Hop} (hh : okHop h) : (textsL (hopL h)).length ≤ 215 := by
  obtain ⟨h1, h2, h3, h4, h5⟩ := hh
  have h1 := text_len (p333 h1)
  have h2 := text_len h2
  have h3 := text_len (p333 h3)
  have h4 := text_len h4
  have h5 := text_len h5
  simp only [textsL, hopL, List.flatMap_cons, List.flatMap_nil, List.length_append, List.length_nil]
  omega
theorem run319 : RunC C319 6 19 [9] [35] W319 [] := by
  intro (h : api_Hop) hx hp
  have hp : okHop h := hp _ rfl
  have hl := hop_len hp
  obtain ⟨h1, h2, h3, h4, h5⟩ := hp
  refine of_eq (q319 h _) ⟨h1, h2, h3, h4, h5, ?_, rfl⟩
  show (textsL (hopL h)).length ≤ 70368744177664
  omega
theorem ok319 : Ok319 := by
  refine con_ok (C := C319) ?_ mx7 (by kernel_rfl) run319
  exact kok_cons ok314 (kok_cons ok339 (kok_cons ok340 kok_nil))
theorem run321 : RunC C321 6 21 [9] [35] W321 [] := by
  intro (h : api_Hop) hx hp
  have hp : okHop h := hp _ rfl
  have hl := hop_len hp
  obtain ⟨h1, h2, h3, h4, h5⟩ := hp
  refine of_eq (q321 h _) ?_
  rw [wrap64 (n := h.fPrefix.fAddr) (by omega), wrap64 (n := h.fNext) (by omega)]
  refine ⟨p333 h1, h2, p333 h3, h4, h5, ?_, rfl⟩
  show (textsL (hopL h)).length ≤ 70368744177664
  omega
theorem ok321 : Ok321 := by
  refine con_ok (C := C321) ?_ mx7 (by kernel_rfl) run321
  exact kok_cons ok338 (kok_cons ok317 kok_nil)
end Go.Rx
namespace Go.Rx
open Go.Ab Go.L21
set_option maxRecDepth 100000
set_option maxHeartbeats 20000000
set_option linter.unusedVariables false
/-- interregnum/interregnumlaw24.hex -/
noncomputable def C331 : Cfg S := { P := P7, inl := [], K := [], ann := [(31, [(4, .loop [(.sl 4, .own 5), (.sl 5, .int .i64)])])] }
abbrev W331 : CT S [9] [9] := (fun x0 => (some (P331 x0), S331 x0))
abbrev Ok331 : Prop := ConOk P7 31 (ctr P7 [9] [9] W331) ∧ ConMon (ctr P7 [9] [9] W331)
theorem q331 (x0 : ByteArray) (v : HR S [9]) : (Xf C331 6 (emp 0) 31 (argsA C331 [⟨9, x0⟩]) (emp 0) (fun r _ => isR C331.P [9] v r) (fun _ _ => False)) = (LOOP
 (fun (h : List Int × Int) (J : List Int × Int → Prop) => bif decide (h.snd < (↑x0.size : Int)) then ((0 : Int) ≤ h.snd ∧ h.snd < (↑x0.size : Int)) ∧ ((0 :
 Int) ≤ IntKind.u8.wrap ((↑(x0.data.toList.getD h.snd.toNat (0 : UInt8)).toNat : Int).tdiv (16 : Int)) ∧ IntKind.u8.wrap ((↑(x0.data.toList.getD h.snd.toNat (0
 : UInt8)).toNat : Int).tdiv (16 : Int)) < (↑(nat_lit 16) : Int)) ∧ ((0 : Int) ≤ h.snd ∧ h.snd < (↑x0.size : Int)) ∧ ((0 : Int) ≤ (↑(x0.data.toList.getD
 h.snd.toNat (0 : UInt8)).toNat : Int).tmod (16 : Int) ∧ (↑(x0.data.toList.getD h.snd.toNat (0 : UInt8)).toNat : Int).tmod (16 : Int) < (↑(nat_lit 16) : Int))
 ∧ (h.fst.length = h.fst.length ∧ (h.fst.length + [(↑([(48 : UInt8), (49 : UInt8), (50 : UInt8), (51 : UInt8), (52 : UInt8), (53 : UInt8), (54 : UInt8), (55 :
 UInt8), (56 : UInt8), (57 : UInt8), (97 : UInt8), (98 : UInt8), (99 : UInt8), (100 : UInt8), (101 : UInt8), (102 : UInt8)].getD (IntKind.u8.wrap
 ((↑(x0.data.toList.getD h.snd.toNat (0 : UInt8)).toNat : Int).tdiv (16 : Int))).toNat (0 : UInt8)).toNat : Int), (↑([(48 : UInt8), (49 : UInt8), (50 : UInt8),
 (51 : UInt8), (52 : UInt8), (53 : UInt8), (54 : UInt8), (55 : UInt8), (56 : UInt8), (57 : UInt8), (97 : UInt8), (98 : UInt8), (99 : UInt8), (100 : UInt8),
 (101 : UInt8), (102 : UInt8)].getD ((↑(x0.data.toList.getD h.snd.toNat (0 : UInt8)).toNat : Int).tmod (16 : Int)).toNat (0 : UInt8)).toNat : Int)].length) *
 nat_lit 1 ≤ nat_lit 140737488355328) ∧ ∀ (y : List (Int)), y = h.fst ++ [(↑([(48 : UInt8), (49 : UInt8), (50 : UInt8), (51 : UInt8), (52 : UInt8), (53 :
 UInt8), (54 : UInt8), (55 : UInt8), (56 : UInt8), (57 : UInt8), (97 : UInt8), (98 : UInt8), (99 : UInt8), (100 : UInt8), (101 : UInt8), (102 : UInt8)].getD
 (IntKind.u8.wrap ((↑(x0.data.toList.getD h.snd.toNat (0 : UInt8)).toNat : Int).tdiv (16 : Int))).toNat (0 : UInt8)).toNat : Int), (↑([(48 : UInt8), (49 :
 UInt8), (50 : UInt8), (51 : UInt8), (52 : UInt8), (53 : UInt8), (54 : UInt8), (55 : UInt8), (56 : UInt8), (57 : UInt8), (97 : UInt8), (98 : UInt8), (99 :
 UInt8), (100 : UInt8), (101 : UInt8), (102 : UInt8)].getD ((↑(x0.data.toList.getD h.snd.toNat (0 : UInt8)).toNat : Int).tmod (16 : Int)).toNat (0 :
 UInt8)).toNat : Int)] → y.length = y.length ∧ J (y, IntKind.i64.wrap (h.snd + (1 : Int))) else bsOf (List.map (fun (x : Int) => x) h.fst) = v) ([], (0 :
 Int))) := by kernel_rfl
end Go.Rx
namespace Go.Rx
open Go.Ab Go.L21
set_option maxRecDepth 100000
set_option maxHeartbeats 20000000
set_option linter.unusedVariables false
/-- interregnum/script.Hex -/
noncomputable def C359 : Cfg S := { P := P7, inl := [], K := [], ann := [(59, [(3, .loop [(.sl 3, .own 5), (.sl 8, .int .i64)])])] }
abbrev W359 : CT S [9] [9] := (fun x0 => (some (P359 x0), S359 x0))
abbrev Ok359 : Prop := ConOk P7 59 (ctr P7 [9] [9] W359) ∧ ConMon (ctr P7 [9] [9] W359)
theorem q359 (x0 : ByteArray) (v : HR S [9]) : (Xf C359 6 (emp 0) 59 (argsA C359 [⟨9, x0⟩]) (emp 0) (fun r _ => isR C359.P [9] v r) (fun _ _ => False)) =
 (nat_lit 1 = nat_lit 1 ∧ LOOP (fun (h : List Int × Int) (J : List Int × Int → Prop) => bif decide (h.snd < (↑x0.size : Int)) then ((0 : Int) ≤ h.snd ∧ h.snd <
 (↑x0.size : Int)) ∧ ((0 : Int) ≤ (↑(x0.data.toList.getD h.snd.toNat (0 : UInt8)).toNat : Int).fdiv ((2 : Int) ^ nat_lit 4) ∧ (↑(x0.data.toList.getD
 h.snd.toNat (0 : UInt8)).toNat : Int).fdiv ((2 : Int) ^ nat_lit 4) < (↑(nat_lit 16) : Int)) ∧ ((0 : Int) ≤ h.snd ∧ h.snd < (↑x0.size : Int)) ∧ ((0 : Int) ≤
 iand IntKind.u8 (↑(x0.data.toList.getD h.snd.toNat (0 : UInt8)).toNat : Int) (15 : Int) ∧ iand IntKind.u8 (↑(x0.data.toList.getD h.snd.toNat (0 :
 UInt8)).toNat : Int) (15 : Int) < (↑(nat_lit 16) : Int)) ∧ (h.fst.length = h.fst.length ∧ (h.fst.length + [(↑([(48 : UInt8), (49 : UInt8), (50 : UInt8), (51 :
 UInt8), (52 : UInt8), (53 : UInt8), (54 : UInt8), (55 : UInt8), (56 : UInt8), (57 : UInt8), (97 : UInt8), (98 : UInt8), (99 : UInt8), (100 : UInt8), (101 :
 UInt8), (102 : UInt8)].getD ((↑(x0.data.toList.getD h.snd.toNat (0 : UInt8)).toNat : Int).fdiv ((2 : Int) ^ nat_lit 4)).toNat (0 : UInt8)).toNat : Int),
 (↑([(48 : UInt8), (49 : UInt8), (50 : UInt8), (51 : UInt8), (52 : UInt8), (53 : UInt8), (54 : UInt8), (55 : UInt8), (56 : UInt8), (57 : UInt8), (97 : UInt8),
 (98 : UInt8), (99 : UInt8), (100 : UInt8), (101 : UInt8), (102 : UInt8)].getD (iand IntKind.u8 (↑(x0.data.toList.getD h.snd.toNat (0 : UInt8)).toNat : Int)
 (15 : Int)).toNat (0 : UInt8)).toNat : Int)].length) * nat_lit 1 ≤ nat_lit 140737488355328) ∧ ∀ (y : List (Int)), y = h.fst ++ [(↑([(48 : UInt8), (49 :
 UInt8), (50 : UInt8), (51 : UInt8), (52 : UInt8), (53 : UInt8), (54 : UInt8), (55 : UInt8), (56 : UInt8), (57 : UInt8), (97 : UInt8), (98 : UInt8), (99 :
 UInt8), (100 : UInt8), (101 : UInt8), (102 : UInt8)].getD ((↑(x0.data.toList.getD h.snd.toNat (0 : UInt8)).toNat : Int).fdiv ((2 : Int) ^ nat_lit 4)).toNat (0
 : UInt8)).toNat : Int), (↑([(48 : UInt8), (49 : UInt8), (50 : UInt8), (51 : UInt8), (52 : UInt8), (53 : UInt8), (54 : UInt8), (55 : UInt8), (56 : UInt8), (57
 : UInt8), (97 : UInt8), (98 : UInt8), (99 : UInt8), (100 : UInt8), (101 : UInt8), (102 : UInt8)].getD (iand IntKind.u8 (↑(x0.data.toList.getD h.snd.toNat (0 :
 UInt8)).toNat : Int) (15 : Int)).toNat (0 : UInt8)).toNat : Int)] → y.length = y.length ∧ J (y, IntKind.i64.wrap (h.snd + (1 : Int))) else bsOf (List.map (fun
 (x : Int) => x) h.fst) = v) ([(120 : Int)], (0 : Int))) := by kernel_rfl
end Go.Rx
/-! Bytes as digits. -/
namespace Go.Rx
open Go.Ab Go.L21
set_option linter.unusedVariables false
set_option maxRecDepth 100000
def toI (l : List UInt8) : List Int := l.map fun c => (c.toNat : Int)
theorem bsOf_push : ∀ (l : List UInt8) (r : ByteArray), (toI l).foldl (fun r n => r.push (UInt8.ofNat n.toNat)) r = ⟨r.data ++ l.toArray⟩
  | [], r => by simp [toI]
  | c :: l, r => by
    show (toI l).foldl _ (r.push (UInt8.ofNat ((c.toNat : Int)).toNat)) = _
    rw [bsOf_push l, Int.toNat_natCast, show UInt8.ofNat c.toNat = c from UInt8.ofNat_toNat]
    apply ByteArray.ext
    show (r.data.push c) ++ l.toArray = r.data ++ (c :: l).toArray
    simp
theorem bsOf_toI (l : List UInt8) : bsOf (toI l) = bs l := by
  unfold bsOf
  rw [bsOf_push]
  apply ByteArray.ext
  show ByteArray.empty.data ++ l.toArray = l.toArray
  simp
theorem bsOf_map (l : List UInt8) : bsOf (List.map (fun (x : Int) => x) (toI l)) = bs l := by
  rw [List.map_id' (toI l)]; exact bsOf_toI l
theorem hexT1 : ∀ c : Fin 256, IntKind.u8.wrap (((c.val : Nat) : Int).tdiv 16) = ((c.val / 16 : Nat) : Int) ∧ ((c.val : Nat) : Int).tmod 16 = ((c.val % 16 : Nat) : Int) ∧ ((c.val : Nat) : Int).fdiv (2 ^ 4) = ((c.val / 16 : Nat) : Int) ∧ iand .u8 ((c.val : Nat) : Int) 15 = ((c.val % 16 : Nat) : Int) := by decide +kernel
theorem hexT2 : ∀ d : Fin 16, ([(48 : UInt8), (49 : UInt8), (50 : UInt8), (51 : UInt8), (52 : UInt8), (53 : UInt8), (54 : UInt8), (55 : UInt8), (56 : UInt8), (57 : UInt8), (97 : UInt8), (98 : UInt8), (99 : UInt8), (100 : UInt8), (101 : UInt8), (102 : UInt8)].getD d.val 0) = hexDg d.val := by decide +kernel
theorem dig_at {d : Nat} (h : d < 16) : ([(48 : UInt8), (49 : UInt8), (50 : UInt8), (51 : UInt8), (52 : UInt8), (53 : UInt8), (54 : UInt8), (55 : UInt8), (56 : UInt8), (57 : UInt8), (97 : UInt8), (98 : UInt8), (99 : UInt8), (100 : UInt8), (101 : UInt8), (102 : UInt8)].getD ((d : Nat) : Int).toNat 0) = hexDg d := by
  rw [Int.toNat_natCast]; exact hexT2 ⟨d, h⟩
theorem hex_b (c : UInt8) : IntKind.u8.wrap ((c.toNat : Int).tdiv 16) = ((c.toNat / 16 : Nat) : Int) ∧ (c.toNat : Int).tmod 16 = ((c.toNat % 16 : Nat) : Int) ∧ (c.toNat : Int).fdiv (2 ^ 4) = ((c.toNat / 16 : Nat) : Int) ∧ iand .u8 (c.toNat : Int) 15 = ((c.toNat % 16 : Nat) : Int) := hexT1 ⟨c.toNat, c.toNat_lt⟩
theorem hexL_app (a b : List UInt8) : hexL (a ++ b) = hexL a ++ hexL b := List.flatMap_append
theorem hexL_len (l : List UInt8) : (hexL l).length = 2 * l.length := by
  induction l with
  | nil => rfl
  | cons c r ih =>
    have e : hexL (c :: r) = [hexDg (c.toNat / 16), hexDg (c.toNat % 16)] ++ hexL r := rfl
    rw [e, List.length_append, ih]
    simp only [List.length_cons, List.length_nil]
    omega
theorem hexL_take {l : List UInt8} {k : Nat} {c : UInt8} (h : l[k]? = some c) : hexL (l.take (k + 1)) = hexL (l.take k) ++ [hexDg (c.toNat / 16), hexDg (c.toNat % 16)] := by
  rw [List.take_add_one, h, Option.toList_some, hexL_app]; rfl
theorem getD_get {l : List UInt8} {k : Nat} {c : UInt8} (h : l[k]? = some c) : l.getD k 0 = c := by rw [List.getD_eq_getElem?_getD, h]; rfl
theorem toI_app (a b : List UInt8) : toI (a ++ b) = toI a ++ toI b := List.map_append
theorem toI_len (l : List UInt8) : (toI l).length = l.length := List.length_map ..
theorem run331 : RunC C331 6 31 [9] [9] W331 [] := by
  intro (x : ByteArray) hx hp
  have hs : x.size ≤ 1099511627776 := hp _ rfl
  have hsz : x.size = x.data.toList.length := Lib.size_eq x
  refine of_eq (q331 x _) ?_
  refine LOOP.of (fun y => ∃ k : Nat, y = (toI (hexL (x.data.toList.take k)), (k : Int)) ∧ k ≤ x.size) (fun y => x.size - y.2.toNat) ⟨0, rfl, by omega⟩ ?_
  rintro _ ⟨k, rfl, hk⟩ J hJ
  dsimp only
  refine bif_of (fun hc => ?_) (fun hc => ?_)
  · have hc := of_decide_eq_true hc
    have hkl : k < x.size := by omega
    obtain ⟨c, hy⟩ : ∃ c, x.data.toList[k]? = some c := ⟨_, List.getElem?_eq_getElem (by omega)⟩
    obtain ⟨b1, b2, _, _⟩ := hex_b c
    have hc256 := c.toNat_lt
    rw [Int.toNat_natCast, getD_get hy, b1, b2, dig_at (by omega), dig_at (by omega)]
    refine ⟨⟨by omega, hc⟩, ⟨by omega, by omega⟩, ⟨by omega, hc⟩, ⟨by omega, by omega⟩, ⟨rfl, ?_⟩, fun y hyy => ⟨rfl, hJ _ ⟨k + 1, ?_, hkl⟩ ?_⟩⟩
    · rw [toI_len, hexL_len, List.length_take]
      show (_ + 2) * 1 ≤ _
      omega
    · rw [hyy, wrap64 (by omega), hexL_take hy, toI_app]; rfl
    · show x.size - (IntKind.i64.wrap ((k : Int) + 1)).toNat < x.size - ((k : Nat) : Int).toNat
      rw [wrap64 (by omega)]; omega
  · have hc := of_decide_eq_false hc
    obtain rfl : k = x.size := by omega
    rw [bsOf_map, hsz, List.take_length]
    rfl
theorem ok331 : Ok331 := con_ok (C := C331) kok_nil mx7 (by kernel_rfl) run331
theorem run359 : RunC C359 6 59 [9] [9] W359 [] := by
  intro (x : ByteArray) hx hp
  have hs : x.size ≤ 1099511627776 := hp _ rfl
  have hsz : x.size = x.data.toList.length := Lib.size_eq x
  refine of_eq (q359 x _) ⟨rfl, ?_⟩
  refine LOOP.of (fun y => ∃ k : Nat, y = (toI (120 :: hexL (x.data.toList.take k)), (k : Int)) ∧ k ≤ x.size) (fun y => x.size - y.2.toNat) ⟨0, rfl, by omega⟩ ?_
  rintro _ ⟨k, rfl, hk⟩ J hJ
  dsimp only
  refine bif_of (fun hc => ?_) (fun hc => ?_)
  · have hc := of_decide_eq_true hc
    have hkl : k < x.size := by omega
    obtain ⟨c, hy⟩ : ∃ c, x.data.toList[k]? = some c := ⟨_, List.getElem?_eq_getElem (by omega)⟩
    obtain ⟨_, _, b1, b2⟩ := hex_b c
    have hc256 := c.toNat_lt
    rw [Int.toNat_natCast, getD_get hy, b1, b2, dig_at (by omega), dig_at (by omega)]
    refine ⟨⟨by omega, hc⟩, ⟨by omega, by omega⟩, ⟨by omega, hc⟩, ⟨by omega, by omega⟩, ⟨rfl, ?_⟩, fun y hyy => ⟨rfl, hJ _ ⟨k + 1, ?_, hkl⟩ ?_⟩⟩
    · rw [toI_len, List.length_cons, hexL_len, List.length_take]
      show (_ + 2) * 1 ≤ _
      omega
    · rw [hyy, wrap64 (by omega), hexL_take hy, ← List.cons_append, toI_app]; rfl
    · show x.size - (IntKind.i64.wrap ((k : Int) + 1)).toNat < x.size - ((k : Nat) : Int).toNat
      rw [wrap64 (by omega)]; omega
  · have hc := of_decide_eq_false hc
    obtain rfl : k = x.size := by omega
    rw [bsOf_map, hsz, List.take_length]
    rfl
theorem ok359 : Ok359 := con_ok (C := C359) kok_nil mx7 (by kernel_rfl) run359
end Go.Rx
/-! Two hex digits, as the library reads them. -/
namespace Go.Proofs
open Go.Shelf Go.RowKit
variable {P : Program} {ρ : Ren}
def endX (t : TypeId) : Option Nat → Value
  | some u => .tuple #[.int .u64 u, .nilIface]
  | none => .tuple #[.int .u64 0, .iface t (.int .i64 2)]
theorem lowT : ∀ n : Fin 256, bits .or .u8 ((n.val : Nat) : Int) 32 = ((n.val ||| 32 : Nat) : Int) ∧ (n.val ||| 32) < 256 := by decide +kernel
theorem low_eq (c : UInt8) : bits .or .u8 (c.toNat : Int) 32 = ((c.toNat ||| 32 : Nat) : Int) := (lowT ⟨c.toNat, c.toNat_lt⟩).1
theorem low_lt (c : UInt8) : (c.toNat ||| 32) < 256 := (lowT ⟨c.toNat, c.toNat_lt⟩).2
open Go.L21 in
set_option maxHeartbeats 32000000 in
set_option maxRecDepth 100000 in
theorem parse_x (L : LaysPu.n16 P ρ) (t : ByteArray) (h2 : t.size = 2) (w : World) :
    Calls P (ρ.f 16) #[.string t, .int .i64 16, .int .i64 8] w fun e w' => e = .returned (endX (ρ.t 34) (hexM 0 t.data.toList)) ∧ w' = Lib.bytesWorld w (ρ.t 5) t := by
  have mixed := L.mixed
  have t9 := L.t9; have a9 := L.a9; have z9 := L.z9; have v9 := L.v9
  have t3 := L.t3; have a3 := L.a3; have z3 := L.z3; have v3 := L.v3
  have t22 := L.t22; have a22 := L.a22; have z22 := L.z22; have v22 := L.v22
  have t24 := L.t24; have a24 := L.a24; have z24 := L.z24; have v24 := L.v24
  have t4 := L.t4; have a4 := L.a4; have z4 := L.z4; have v4 := L.v4
  have t34 := L.t34; have a34 := L.a34; have z34 := L.z34; have v34 := L.v34
  have t5 := L.t5; have a5 := L.a5; have z5 := L.z5; have v5 := L.v5
  have t36 := L.t36; have a36 := L.a36; have z36 := L.z36; have v36 := L.v36
  have t37 := L.t37; have a37 := L.a37; have z37 := L.z37; have v37 := L.v37
  have t0 := L.t0; have a0 := L.a0; have z0 := L.z0; have v0 := L.v0
  have e19 : ∀ args w, (callFunc (ρ.f 19) args).run P w = .ok (.enter (ρ.f 19) args) w := enters_of L.f19 (by kernel_rfl) rfl
  have hne : t.size ≠ 0 := by omega
  have hemp : t.toList.isEmpty = false := by
    rw [← decide_eq_emptyBytes]
    exact decide_eq_false (fun h => hne (by rw [h]; rfl))
  have hcv := Lib.run_convert_string_bytes (P := P) w (ρ.t 9) (ρ.t 37) (ρ.t 5) t (u := .string) L.t9 L.t37 L.t5
  have hB : ∀ j, j < t.size → (Lib.bytesWorld w (ρ.t 5) t).cell? ⟨w.heap.size, j, none⟩ = some (.int .u8 (t.data.toList.getD j 0).toNat) := fun j hj => Lib.bytesWorld_cell w (ρ.t 5) t j hj
  obtain ⟨W1, hW1⟩ : ∃ W1, W1 = Lib.bytesWorld w (ρ.t 5) t := ⟨_, rfl⟩
  rw [← hW1] at hcv hB ⊢
  clear hW1
  obtain ⟨bs, hL⟩ : ∃ bs, bs = t.data.toList := ⟨_, rfl⟩
  have hLn : bs.length = t.size := by rw [hL, Lib.size_eq]
  rw [← hL] at hB ⊢
  clear hL
  have hmv : IntKind.u64.wrap (IntKind.u64.wrap 256 - 1) = 255 := by
    rw [IntKind.wrap_u64, IntKind.wrap_u64]
    decide
  have hmax : t.size ≤ 9223372036854775806 := by omega
  go_enter L.f16, BodyPu.n16_ntmps ρ
  go_wp2
  go_loop [12, 13, 101] (fun vu vn vi => ∃ (k acc : Nat) (a : Int), vu = .bool false ∧ vn = .int .u64 a ∧ vi = .int .i64 k ∧ k ≤ t.size ∧ Hid (a = (acc : Int) ∧ acc < 16 ^ k ∧ hexM 0 bs = hexM acc (bs.drop k)))
    (fun _ _ vi => t.size - (intOf vi).toNat)
  case atStart => exact ⟨0, 0, 0, rfl, rfl, rfl, by omega, rfl, by omega, rfl⟩
  case round =>
    obtain ⟨k, acc, a, rfl, rfl, rfl, hk, hh⟩ := hrel
    obtain ⟨ha, hacc, hdec⟩ := hh.out
    clear hh
    by_cases hkn : k < t.size
    · have ha16 : acc < 16 := by
        rcases (show k = 0 ∨ k = 1 by omega) with rfl | rfl <;> omega
      have hnext : ∀ d, d < 16 → acc * 16 + d < 16 ^ (k + 1) := fun d hd => by rw [Nat.pow_succ]; omega
      have a0 : 0 ≤ a := by omega
      have a1 : a < 16 := by omega
      have hc := hB k hkn
      have hdrop : bs.drop k = bs[k]'(by omega) :: bs.drop (k + 1) := List.drop_eq_getElem_cons (by omega)
      have hget : bs.getD k 0 = bs[k]'(by omega) := by simp [List.getD, List.getElem?_eq_getElem (show k < bs.length by omega)]
      rw [hdrop] at hdec
      rw [hget] at hc
      generalize bs[k]'(by omega) = c at hc hdec
      have hc256 : c.toNat < 256 := c.toNat_lt
      have hlow := low_eq c
      have hlow2 := low_lt c
      have hD : hexD c = if 48 ≤ c.toNat ∧ c.toNat ≤ 57 then some (c.toNat - 48) else if 97 ≤ (c.toNat ||| 32) ∧ (c.toNat ||| 32) ≤ 102 then some ((c.toNat ||| 32) - 87) else none := rfl
      clear hB hdrop hget
      by_cases hdig : 48 ≤ c.toNat ∧ c.toNat ≤ 57
      · obtain ⟨hd0, hd1⟩ := hdig
        have hF : hexM acc (c :: bs.drop (k + 1)) = hexM (acc * 16 + (c.toNat - 48)) (bs.drop (k + 1)) := by
          show (match hexD c with | some d => hexM (acc * 16 + d) (bs.drop (k + 1)) | none => none) = _
          rw [hD, if_pos ⟨hd0, hd1⟩]
        have HN : Hid (a * 16 + ((c.toNat : Int) - 48) = ((acc * 16 + (c.toNat - 48) : Nat) : Int) ∧ acc * 16 + (c.toNat - 48) < 16 ^ (k + 1) ∧ hexM 0 bs = hexM (acc * 16 + (c.toNat - 48)) (bs.drop (k + 1))) := Lib.hid ⟨by omega, hnext _ (by omega), hdec.trans hF⟩
        have iov : a * 16 + ((c.toNat : Int) - 48) ≤ 255 := by omega
        clear hacc hF hdec ha hlow hlow2 hD hnext ha16
        go_wp2
        refine ⟨⟨k + 1, acc * 16 + (c.toNat - 48), a * 16 + ((c.toNat : Int) - 48), rfl, (by first | rfl | (congr 1; omega)), (by first | rfl | (congr 1; omega)), by omega, HN⟩, by simp [intOf]; omega⟩
      · by_cases hlet : 97 ≤ (c.toNat ||| 32) ∧ (c.toNat ||| 32) ≤ 102
        · have hF : hexM acc (c :: bs.drop (k + 1)) = hexM (acc * 16 + ((c.toNat ||| 32) - 87)) (bs.drop (k + 1)) := by
            show (match hexD c with | some d => hexM (acc * 16 + d) (bs.drop (k + 1)) | none => none) = _
            rw [hD, if_neg hdig, if_pos hlet]
          have h95 : ((c.toNat : Nat) : Int) ≠ 95 := fun e => by
            have e : c.toNat = 95 := by omega
            rw [e] at hlet
            exact absurd hlet (by decide)
          generalize (c.toNat ||| 32) = q at hlow hlow2 hlet hF
          obtain ⟨hq0, hq1⟩ := hlet
          have HN : Hid (a * 16 + ((q : Int) - 87) = ((acc * 16 + (q - 87) : Nat) : Int) ∧ acc * 16 + (q - 87) < 16 ^ (k + 1) ∧ hexM 0 bs = hexM (acc * 16 + (q - 87)) (bs.drop (k + 1))) := Lib.hid ⟨by omega, hnext _ (by omega), hdec.trans hF⟩
          have iov : a * 16 + ((q : Int) - 87) ≤ 255 := by omega
          clear hacc hF hdec ha hD hnext ha16
          go_wp2_with (go_at_fn (ρ.f 19); refine (AnyPu.internal_strconv_lower { L with } _ _).mono ?_; rintro e w' ⟨rfl, rfl⟩; rw [hlow])
          all_goals first | (refine ⟨⟨k + 1, acc * 16 + (q - 87), a * 16 + ((q : Int) - 87), rfl, (by first | rfl | (congr 1; omega)), (by first | rfl | (congr 1; omega)), by omega, HN⟩, by simp [intOf]; omega⟩) | trace_state
        · have hF : hexM acc (c :: bs.drop (k + 1)) = none := by
            show (match hexD c with | some d => hexM (acc * 16 + d) (bs.drop (k + 1)) | none => none) = _
            rw [hD, if_neg hdig, if_neg hlet]
          rw [hF] at hdec
          clear hacc hF ha hD hnext ha16
          by_cases h95 : c.toNat = 95
          · rw [h95] at hc
            clear hlow hlow2 hlet hdig
            have hlow : bits .or .u8 95 32 = 127 := by decide
            go_wp2_with (go_at_fn (ρ.f 19); refine (AnyPu.internal_strconv_lower { L with } _ _).mono ?_; rintro e w' ⟨rfl, rfl⟩; rw [hlow])
            all_goals go_ret2
            all_goals first | exact ⟨rfl, rfl⟩ | exact ⟨by rw [hdec]; rfl, rfl⟩ | trace_state
          · have h95 : ((c.toNat : Nat) : Int) ≠ 95 := by omega
            generalize (c.toNat ||| 32) = q at hlow hlow2 hlet
            go_wp2_with (go_at_fn (ρ.f 19); refine (AnyPu.internal_strconv_lower { L with } _ _).mono ?_; rintro e w' ⟨rfl, rfl⟩; rw [hlow])
            all_goals go_ret2
            all_goals first | exact ⟨rfl, rfl⟩ | exact ⟨by rw [hdec]; rfl, rfl⟩ | trace_state
    · have hkk : k = t.size := by omega
      subst hkk
      have hF : hexM acc (bs.drop t.size) = some acc := by rw [List.drop_eq_nil_of_le (by omega)]; rfl
      rw [hF] at hdec
      subst ha
      have hacc2 : acc < 256 := by rw [h2] at hacc; omega
      clear hacc
      go_wp2
      go_ret2
      exact ⟨rfl, rfl⟩
end Go.Proofs
/-! strconv.ParseUint of two hex digits. -/
namespace Go.Proofs
open Go.Shelf Go.RowKit
open Go.L21 in
set_option maxHeartbeats 4000000 in
set_option maxRecDepth 100000 in
theorem pubX_ok {P : Program} {ρ : Ren} (L : LaysPu.n14 P ρ) (s : ByteArray) (h2 : s.size = 2) (u : Nat) (h : hexM 0 s.data.toList = some u) (w : World) :
    Calls P (ρ.f 14) #[.string s, .int .i64 16, .int .i64 8] w fun e w' => e = .returned (.tuple #[.int .u64 u, .nilIface]) ∧ w' = Lib.bytesWorld w (ρ.t 5) s := by
  have mixed := L.mixed
  have t9 := L.t9; have a9 := L.a9; have z9 := L.z9; have v9 := L.v9
  have t3 := L.t3; have a3 := L.a3; have z3 := L.z3; have v3 := L.v3
  have t22 := L.t22; have a22 := L.a22; have z22 := L.z22; have v22 := L.v22
  have t24 := L.t24; have a24 := L.a24; have z24 := L.z24; have v24 := L.v24
  have t25 := L.t25; have a25 := L.a25; have z25 := L.z25; have v25 := L.v25
  have t4 := L.t4; have a4 := L.a4; have z4 := L.z4; have v4 := L.v4
  have e16 : ∀ args w, (callFunc (ρ.f 16) args).run P w = .ok (.enter (ρ.f 16) args) w := enters_of L.f16 (by kernel_rfl) rfl
  have hI := parse_x { L with } s h2 w
  rw [h] at hI
  have hI : Calls P (ρ.f 16) #[.string s, .int .i64 16, .int .i64 8] w fun e w' => e = .returned (.tuple #[.int .u64 u, .nilIface]) ∧ w' = Lib.bytesWorld w (ρ.t 5) s := hI
  clear h
  go_enter L.f14, BodyPu.n14_ntmps ρ
  go_wp2_with (go_at_fn (ρ.f 16); refine hI.mono ?_; rintro e W1 ⟨rfl, hW⟩)
  go_wp2
  go_ret2
  exact ⟨rfl, rfl⟩
open Go.L21 in
set_option maxHeartbeats 4000000 in
set_option maxRecDepth 100000 in
theorem pubX_syn {P : Program} {ρ : Ren} (L : LaysPu.n14 P ρ) (s : ByteArray) (h2 : s.size = 2) (h : hexM 0 s.data.toList = none) (ev : Value) (w : World) (hv : w.cell? ⟨(ρ.g 0), 0, none⟩ = some ev) (hev : ev = .nilIface ∨ ∃ te pe, ev = .iface te pe) :
    Calls P (ρ.f 14) #[.string s, .int .i64 16, .int .i64 8] w fun e w' => ∃ te pe, e = .returned (.tuple #[.int .u64 0, .iface te pe]) ∧ Below w.heap.size w w' := by
  have mixed := L.mixed
  have t9 := L.t9; have a9 := L.a9; have z9 := L.z9; have v9 := L.v9
  have t3 := L.t3; have a3 := L.a3; have z3 := L.z3; have v3 := L.v3
  have t22 := L.t22; have a22 := L.a22; have z22 := L.z22; have v22 := L.v22
  have t24 := L.t24; have a24 := L.a24; have z24 := L.z24; have v24 := L.v24
  have t25 := L.t25; have a25 := L.a25; have z25 := L.z25; have v25 := L.v25
  have t4 := L.t4; have a4 := L.a4; have z4 := L.z4; have v4 := L.v4
  have e16 : ∀ args w, (callFunc (ρ.f 16) args).run P w = .ok (.enter (ρ.f 16) args) w := enters_of L.f16 (by kernel_rfl) rfl
  have e17 : ∀ args w, (callFunc (ρ.f 17) args).run P w = .ok (.enter (ρ.f 17) args) w := enters_of L.f17 (by kernel_rfl) rfl
  have hG : (ρ.g 0) < w.heap.size := Lib.lt_of_cell hv
  have hI := parse_x { L with } s h2 w
  rw [h] at hI
  have hI : Calls P (ρ.f 16) #[.string s, .int .i64 16, .int .i64 8] w fun e w' => e = .returned (.tuple #[.int .u64 0, .iface (ρ.t 34) (.int .i64 2)]) ∧ w' = Lib.bytesWorld w (ρ.t 5) s := hI
  have hlim : s.size ≤ 281474976710656 := by omega
  clear h
  go_enter L.f14, BodyPu.n14_ntmps ρ
  go_wp2_with (go_at_fn (ρ.f 16); refine hI.mono ?_)
  rintro e W1 ⟨rfl, hW⟩
  have hb1 : Below w.heap.size w W1 := by
    subst hW
    exact Lib.bytesWorld_below _ _ _
  have hv1 : W1.cell? ⟨(ρ.g 0), 0, none⟩ = some ev := (hb1.cell (show (⟨(ρ.g 0), 0, none⟩ : Addr).block < w.heap.size from hG)).trans hv
  clear hW
  go_wp2_with (go_at_fn (ρ.f 17); refine (AnyPu.strconv_toError_syntax { L with } ⟨#[80, 97, 114, 115, 101, 85, 105, 110, 116]⟩ s 16 8 ev _ hlim ?_ hev).mono ?_)
  · exact hv1
  rintro e W2 ⟨N, rfl, h1, h2, h3⟩
  go_wp2
  go_ret2
  exact ⟨_, _, rfl, hb1.trans (h3.mono hb1.size)⟩
end Go.Proofs
namespace Go.Rx
open Go.Ab Go.L21 Go.Proofs Go.RowKit
set_option linter.unusedVariables false
set_option maxRecDepth 100000
abbrev W457 : CT S [59, 67] [9, 3, 3] := (fun x0 x1 x2 => (some (P457 x0 x1 x2), S457 x0 x1 x2))
abbrev Ok457 : Prop := ConOk P7 57 (ctr P7 [9, 3, 3] [59, 67] W457) ∧ ConMon (ctr P7 [9, 3, 3] [59, 67] W457)
theorem run457 : RunP C0 57 [59, 67] [9, 3, 3] W457 [] := by
  intro (s : ByteArray) hs (b : Int) hb (n : Int) hn hp
  obtain ⟨h2, rfl, rfl⟩ : P457 s b n := hp _ rfl
  intro imm w vs hok hgl hargs
  obtain ⟨v1, vs1, rfl, hv1, v2, vs2, rfl, hv2, v3, vs3, rfl, hv3, rfl⟩ := hargs
  obtain rfl : v1 = .string s := hv1
  obtain rfl : v2 = .int .i64 16 := hv2
  obtain rfl : v3 = .int .i64 8 := hv3
  have hS : S457 s 16 8 = endH (hexM 0 s.data.toList) := lk_eq _ _
  cases h : hexM 0 s.data.toList with
  | some v =>
    refine (pubX_ok Tryd.laysPu14 s h2 v h w).mono ?_
    rintro e w' ⟨rfl, rfl⟩
    refine pf_done (rts := [59, 67]) (S457 s 16 8) hok (Lib.bytesWorld_below _ _ _) ?_
    rw [hS, h]
    exact ⟨_, rfl, _, _, rfl, rfl, _, _, rfl, .inl ⟨rfl, rfl⟩, rfl⟩
  | none =>
    obtain ⟨ts, ps, hsy⟩ := hgl.2.syn
    refine (pubX_syn Tryd.laysPu14 s h2 h _ w hsy (.inr ⟨ts, ps, rfl⟩)).mono ?_
    rintro e w' ⟨te, pe, rfl, hb⟩
    refine pf_done (rts := [59, 67]) (S457 s 16 8) hok hb ?_
    rw [hS, h]
    exact ⟨_, rfl, _, _, rfl, rfl, _, _, rfl, .inr ⟨rfl, _, _, rfl⟩, rfl⟩
theorem ok457 : Ok457 := by
  apply con_okP (C := C0) (f := 57) (ts := [9, 3, 3]) (rts := [59, 67]) (W := W457)
  exact run457
end Go.Rx
namespace Go.Rx
open Go.Ab Go.L21
set_option maxRecDepth 100000
set_option maxHeartbeats 20000000
set_option linter.unusedVariables false
/-- interregnum/script.text -/
noncomputable def C362 : Cfg S := { P := P7, inl := [], K := [(57, ctr P7 [9, 3, 3] [59, 67] (fun x0 x1 x2 => (some (P457 x0 x1 x2), S457 x0 x1 x2)))], ann := [(62, [(5, .loop [(.sl 4, .str), (.sl 6, .own 5)])])] }
abbrev W362 : CT S [9, 4] [9] := (fun x0 => (some (P362 x0), S362 x0))
abbrev Ok362 : Prop := ConOk P7 62 (ctr P7 [9] [9, 4] W362) ∧ ConMon (ctr P7 [9] [9, 4] W362)
theorem q362 (x0 : ByteArray) (v : HR S [9, 4]) : (Xf C362 6 (emp 0) 62 (argsA C362 [⟨9, x0⟩]) (emp 0) (fun r _ => isR C362.P [9, 4] v r) (fun _ _ => False)) =
 ((decide ((↑(nat_lit 1) : Int) ≤ (↑x0.size : Int)) = true → (0 : Int) ≤ (0 : Int) ∧ (0 : Int) ≤ (↑(nat_lit 1) : Int) ∧ (↑(nat_lit 1) : Int) ≤ (↑x0.size :
 Int)) ∧ bif !(decide ((↑(nat_lit 1) : Int) ≤ (↑x0.size : Int)) && (x0.extract (nat_lit 0) (nat_lit 1)).toList == (ByteArray.mk #[(120 : UInt8)]).toList) then
 (ByteArray.mk #[], false) = v else ((0 : Int) ≤ (↑(nat_lit 1) : Int) ∧ (↑(nat_lit 1) : Int) ≤ (↑x0.size : Int) ∧ (↑x0.size : Int) ≤ (↑x0.size : Int)) ∧ bif
 !decide ((↑(x0.extract (nat_lit 1) (↑x0.size : Int).toNat).size : Int).tmod (2 : Int) = (0 : Int)) then (ByteArray.mk #[], false) = v else LOOP (fun (h :
 ByteArray × List Int) (J : ByteArray × List Int → Prop) => bif !h.fst.toList == (ByteArray.mk #[]).toList then ((0 : Int) ≤ (0 : Int) ∧ (0 : Int) ≤ (2 : Int)
 ∧ (2 : Int) ≤ (↑h.fst.size : Int)) ∧ ((h.fst.extract (nat_lit 0) (nat_lit 2)).size = nat_lit 2 ∧ (16 : Int) = (16 : Int) ∧ (8 : Int) = (8 : Int)) ∧ bif (S457
 (h.fst.extract (nat_lit 0) (nat_lit 2)) (16 : Int) (8 : Int)).snd then (ByteArray.mk #[], false) = v else (h.snd.length = h.snd.length ∧ (h.snd.length +
 [IntKind.u8.wrap (S457 (h.fst.extract (nat_lit 0) (nat_lit 2)) (16 : Int) (8 : Int)).fst].length) * nat_lit 1 ≤ nat_lit 140737488355328) ∧ ∀ (y : List (Int)),
 y = h.snd ++ [IntKind.u8.wrap (S457 (h.fst.extract (nat_lit 0) (nat_lit 2)) (16 : Int) (8 : Int)).fst] → ((0 : Int) ≤ (2 : Int) ∧ (2 : Int) ≤ (↑h.fst.size :
 Int) ∧ (↑h.fst.size : Int) ≤ (↑h.fst.size : Int)) ∧ y.length = y.length ∧ J (h.fst.extract (nat_lit 2) (↑h.fst.size : Int).toNat, y) else (bsOf (List.map (fun
 (x : Int) => x) h.snd), true) = v) (x0.extract (nat_lit 1) (↑x0.size : Int).toNat, [])) := by kernel_rfl
end Go.Rx
/-! Bytes out of digits. -/
namespace Go.Rx
open Go.Ab Go.L21
set_option linter.unusedVariables false
set_option maxRecDepth 100000
theorem ba_eq {a b : ByteArray} (h : a.data.toList = b.data.toList) : a = b := by
  apply ByteArray.ext
  exact Array.ext' h
theorem ba_of {a : ByteArray} {l : List UInt8} (h : a.data.toList = l) : a = bs l := ba_eq h
theorem ext_bs (l : List UInt8) (k : Nat) : (bs l).extract 0 k = bs (l.take k) := ba_of (ext0 (bs l) k)
theorem ext_bsE (l : List UInt8) (k : Nat) : (bs l).extract k (((bs l).size : Nat) : Int).toNat = bs (l.drop k) := by
  rw [Int.toNat_natCast]; exact ba_of (extE (bs l) k)
theorem toList_bs (l : List UInt8) : (bs l).toList = l := by rw [Lib.toList_data]; rfl
theorem wrap_of (v : Nat) : IntKind.u8.wrap (v : Int) = ((UInt8.ofNat v).toNat : Int) := by
  rw [wrap8]
  have : (UInt8.ofNat v).toNat = v % 256 := by simp
  omega
theorem s457 (l : List UInt8) : S457 (bs l) 16 8 = endH (hexM 0 l) := lk_eq _ _
theorem s362 (s : ByteArray) : S362 s = hexText s.data.toList := lk_eq _ _
def fin362 (done rest : List UInt8) : ByteArray × Bool := match unhex rest with
  | some t => (bs (done ++ t), true)
  | none => (bs [], false)
theorem beqL (l : List UInt8) : ((bs l).toList == (ByteArray.mk #[]).toList) = l.isEmpty := by
  rw [toList_bs, Lib.toList_data]
  cases l <;> rfl
theorem run362 : RunC C362 6 62 [9, 4] [9] W362 [] := by
  intro (x : ByteArray) hx hp
  have hs : x.size ≤ 1099511627776 := hp _ rfl
  have hS : S362 x = hexText x.data.toList := s362 x
  refine of_eq (q362 x _) ?_
  obtain ⟨l, rfl⟩ : ∃ l, x = bs l := ⟨x.data.toList, rfl⟩
  have hsz : (bs l).size = l.length := size_bs l
  have hS : S362 (bs l) = hexText l := hS
  rw [ext_bs l 1, show ((bs l).extract 1 (((bs l).size : Nat) : Int).toNat) = bs (l.drop 1) from ext_bsE l 1]
  refine ⟨fun h => ⟨by omega, by omega, of_decide_eq_true h⟩, ?_⟩
  cases l with
  | nil =>
    refine bif_of (fun _ => ?_) (fun h => ?_)
    · exact hS.symm
    · have : decide (((1 : Nat) : Int) ≤ (((bs []).size : Nat) : Int)) = false := by rw [size_bs]; rfl
      rw [this] at h
      cases h
  | cons c r =>
    have h1 : decide (((1 : Nat) : Int) ≤ (((bs (c :: r)).size : Nat) : Int)) = true := by rw [size_bs, List.length_cons]; exact decide_eq_true (by omega)
    have h2 : ((bs (List.take 1 (c :: r))).toList == (ByteArray.mk #[(120 : UInt8)]).toList) = (c == 120) := by
      rw [toList_bs, Lib.toList_data]
      show ([c] == [120]) = _
      simp
    rw [h1, h2, Bool.true_and]
    rw [size_bs] at hs
    simp only [List.length_cons] at hs
    have hS : S362 (bs (c :: r)) = bif c == 120 && decide (r.length % 2 = 0) then fin362 [] r else (bs [], false) := hS
    refine bif_of (fun h => ?_) (fun h => ?_)
    · show _ = S362 (bs (c :: r))
      rw [hS, show (c == 120) = false by simpa using h]; rfl
    · have hc : (c == 120) = true := by simpa using h
      rw [hc, Bool.true_and] at hS
      refine ⟨⟨by decide, of_decide_eq_true h1, Int.le_refl _⟩, ?_⟩
      have e1 : List.drop 1 (c :: r) = r := rfl
      have e2 : decide ((((bs r).size : Nat) : Int).tmod 2 = 0) = decide (r.length % 2 = 0) := by
        rw [size_bs]
        refine decide_eq_decide.2 ?_
        have : ((r.length : Int)).tmod 2 = ((r.length % 2 : Nat) : Int) := rfl
        rw [this]; omega
      rw [e1, e2]
      refine bif_of (fun h => ?_) (fun h => ?_)
      · show _ = S362 (bs (c :: r))
        rw [hS, show decide (r.length % 2 = 0) = false by simpa using h]; rfl
      · have hev : decide (r.length % 2 = 0) = true := by simpa using h
        rw [hev] at hS
        have hS : S362 (bs (c :: r)) = fin362 [] r := hS
        refine LOOP.of (fun y => ∃ rest done : List UInt8, y = (bs rest, toI done) ∧ rest.length % 2 = 0 ∧ done.length + rest.length ≤ r.length ∧ fin362 done rest = fin362 [] r) (fun y => y.1.size) ⟨r, [], rfl, of_decide_eq_true hev, by simp, rfl⟩ ?_
        rintro _ ⟨rest, done, rfl, hev2, hlen, hfin⟩ J hJ
        dsimp only
        rw [beqL]
        match rest, hev2, hlen, hfin with
        | [], _, _, hfin =>
          refine bif_of (fun h => by cases h) (fun _ => ?_)
          rw [bsOf_map]
          show _ = S362 (bs (c :: r))
          rw [hS, ← hfin]
          show _ = (bs (done ++ []), true)
          rw [List.append_nil]
        | [a], h, _, _ => simp at h
        | a :: b :: q, hev2, hlen, hfin =>
          refine bif_of (fun _ => ?_) (fun h => by cases h)
          have hz : (bs (a :: b :: q)).size = q.length + 2 := by rw [size_bs]; rfl
          simp only [List.length_cons] at hlen hev2
          rw [ext_bs, ext_bsE]
          refine ⟨⟨by omega, by omega, by omega⟩, ⟨by rw [size_bs]; rfl, rfl, rfl⟩, ?_⟩
          rw [show S457 (bs (List.take 2 (a :: b :: q))) 16 8 = endH (hexM 0 [a, b]) from s457 [a, b]]
          cases hm : hexM 0 [a, b] with
          | none =>
            refine bif_of (fun _ => ?_) (fun h => by cases h)
            show _ = S362 (bs (c :: r))
            rw [hS, ← hfin]
            unfold fin362 unhex
            rw [hm]; rfl
          | some v =>
            refine bif_of (fun h => by cases h) (fun _ => ?_)
            refine ⟨⟨rfl, ?_⟩, fun y hy => ⟨⟨by omega, by omega, by omega⟩, rfl, hJ _ ⟨q, done ++ [UInt8.ofNat v], ?_, by omega, ?_, ?_⟩ ?_⟩⟩
            · rw [toI_len]
              show (_ + 1) * 1 ≤ _
              omega
            · rw [hy, toI_app]
              show (bs q, toI done ++ [IntKind.u8.wrap ((v : Nat) : Int)]) = _
              rw [wrap_of]; rfl
            · rw [List.length_append]; simp only [List.length_cons, List.length_nil]; omega
            · rw [← hfin]
              unfold fin362
              rw [show unhex (a :: b :: q) = (match unhex q with | some t => some (UInt8.ofNat v :: t) | none => none) by rw [unhex, hm]; rfl]
              show (match unhex q with | some t => _ | none => _) = _
              cases unhex q with
              | none => rfl
              | some t => show (bs (done ++ [UInt8.ofNat v] ++ t), true) = (bs (done ++ UInt8.ofNat v :: t), true); rw [List.append_assoc]; rfl
            · show (bs q).size < (bs (a :: b :: q)).size
              rw [hz, size_bs]; omega
theorem ok362 : Ok362 := con_ok (C := C362) (kk1 ok457) mx7 (by kernel_rfl) run362
end Go.Rx
namespace Go.Rx
open Go.Ab Go.L21
set_option maxRecDepth 100000
set_option maxHeartbeats 20000000
set_option linter.unusedVariables false
def R320 (z : List ByteArray × Bool) (x0 : ByteArray) (v : HR S [35, 4]) : Prop := x0.size.le (nat_lit 1099511627776) ∧ bif decide ((↑z.fst.length : Int) = (0
 : Int)) then (nat_lit 0 ≤ nat_lit 281474976710656 ∧ (10 : Int) = (10 : Int) ∧ ((32 : Int) = (32 : Int) ∨ (32 : Int) = (64 : Int))) ∧ bif decide
 ((↑z.fst.length : Int) = (0 : Int)) then Nat.le (nat_lit 0) (nat_lit 281474976710656) ∧ bif decide ((↑z.fst.length : Int) = (0 : Int)) then (nat_lit 0 ≤
 nat_lit 281474976710656 ∧ (10 : Int) = (10 : Int) ∧ ((32 : Int) = (32 : Int) ∨ (32 : Int) = (64 : Int))) ∧ bif decide ((↑z.fst.length : Int) = (0 : Int)) then
 Nat.le (nat_lit 0) (nat_lit 281474976710656) ∧ bif decide ((↑z.fst.length : Int) = (0 : Int)) then Nat.le (nat_lit 0) (nat_lit 281474976710656) ∧ (api_Hop.mk
 (api_Prefix.mk (0 : Int) (0 : Int)) (0 : Int) (0 : Int) (0 : Int), false) = v else ((0 : Int) ≤ (0 : Int) ∧ (0 : Int) < (↑z.fst.length : Int)) ∧ ((0 : Int) ≤
 (1 : Int) ∧ (1 : Int) ≤ (↑z.fst.length : Int) ∧ (↑z.fst.length : Int) ≤ (↑z.fst.length : Int)) ∧ (ix z.fst (0 : Int)).size.le (nat_lit 281474976710656) ∧
 (api_Hop.mk (api_Prefix.mk (0 : Int) (0 : Int)) (0 : Int) (0 : Int) (0 : Int), false) = v else ((0 : Int) ≤ (0 : Int) ∧ (0 : Int) < (↑z.fst.length : Int)) ∧
 ((0 : Int) ≤ (1 : Int) ∧ (1 : Int) ≤ (↑z.fst.length : Int) ∧ (↑z.fst.length : Int) ≤ (↑z.fst.length : Int)) ∧ (ix z.fst (0 : Int)).size.le (nat_lit
 281474976710656) ∧ bif decide ((↑(sub z.fst (1 : Int) (↑z.fst.length : Int)).length : Int) = (0 : Int)) then Nat.le (nat_lit 0) (nat_lit 281474976710656) ∧
 (api_Hop.mk (api_Prefix.mk (0 : Int) (0 : Int)) (0 : Int) (0 : Int) (0 : Int), false) = v else ((0 : Int) ≤ (0 : Int) ∧ (0 : Int) < (↑(sub z.fst (1 : Int)
 (↑z.fst.length : Int)).length : Int)) ∧ ((0 : Int) ≤ (1 : Int) ∧ (1 : Int) ≤ (↑(sub z.fst (1 : Int) (↑z.fst.length : Int)).length : Int) ∧ (↑(sub z.fst (1 :
 Int) (↑z.fst.length : Int)).length : Int) ≤ (↑(sub z.fst (1 : Int) (↑z.fst.length : Int)).length : Int)) ∧ (ix (sub z.fst (1 : Int) (↑z.fst.length : Int)) (0
 : Int)).size.le (nat_lit 281474976710656) ∧ (api_Hop.mk (api_Prefix.mk (0 : Int) (0 : Int)) (0 : Int) (0 : Int) (0 : Int), false) = v else ((0 : Int) ≤ (0 :
 Int) ∧ (0 : Int) < (↑z.fst.length : Int)) ∧ ((0 : Int) ≤ (1 : Int) ∧ (1 : Int) ≤ (↑z.fst.length : Int) ∧ (↑z.fst.length : Int) ≤ (↑z.fst.length : Int)) ∧ ((ix
 z.fst (0 : Int)).size ≤ nat_lit 281474976710656 ∧ (10 : Int) = (10 : Int) ∧ ((32 : Int) = (32 : Int) ∨ (32 : Int) = (64 : Int))) ∧ bif decide ((↑(sub z.fst (1
 : Int) (↑z.fst.length : Int)).length : Int) = (0 : Int)) then Nat.le (nat_lit 0) (nat_lit 281474976710656) ∧ bif decide ((↑(sub z.fst (1 : Int) (↑z.fst.length
 : Int)).length : Int) = (0 : Int)) then Nat.le (nat_lit 0) (nat_lit 281474976710656) ∧ (api_Hop.mk (api_Prefix.mk (0 : Int) (0 : Int)) (0 : Int) (0 : Int) (0
 : Int), false) = v else ((0 : Int) ≤ (0 : Int) ∧ (0 : Int) < (↑(sub z.fst (1 : Int) (↑z.fst.length : Int)).length : Int)) ∧ ((0 : Int) ≤ (1 : Int) ∧ (1 : Int)
 ≤ (↑(sub z.fst (1 : Int) (↑z.fst.length : Int)).length : Int) ∧ (↑(sub z.fst (1 : Int) (↑z.fst.length : Int)).length : Int) ≤ (↑(sub z.fst (1 : Int)
 (↑z.fst.length : Int)).length : Int)) ∧ (ix (sub z.fst (1 : Int) (↑z.fst.length : Int)) (0 : Int)).size.le (nat_lit 281474976710656) ∧ (api_Hop.mk
 (api_Prefix.mk (0 : Int) (0 : Int)) (0 : Int) (0 : Int) (0 : Int), false) = v else ((0 : Int) ≤ (0 : Int) ∧ (0 : Int) < (↑(sub z.fst (1 : Int) (↑z.fst.length
 : Int)).length : Int)) ∧ ((0 : Int) ≤ (1 : Int) ∧ (1 : Int) ≤ (↑(sub z.fst (1 : Int) (↑z.fst.length : Int)).length : Int) ∧ (↑(sub z.fst (1 : Int)
 (↑z.fst.length : Int)).length : Int) ≤ (↑(sub z.fst (1 : Int) (↑z.fst.length : Int)).length : Int)) ∧ (ix (sub z.fst (1 : Int) (↑z.fst.length : Int)) (0 :
 Int)).size.le (nat_lit 281474976710656) ∧ bif decide ((↑(sub (sub z.fst (1 : Int) (↑z.fst.length : Int)) (1 : Int) (↑(sub z.fst (1 : Int) (↑z.fst.length :
 Int)).length : Int)).length : Int) = (0 : Int)) then Nat.le (nat_lit 0) (nat_lit 281474976710656) ∧ (api_Hop.mk (api_Prefix.mk (0 : Int) (0 : Int)) (0 : Int)
 (0 : Int) (0 : Int), false) = v else ((0 : Int) ≤ (0 : Int) ∧ (0 : Int) < (↑(sub (sub z.fst (1 : Int) (↑z.fst.length : Int)) (1 : Int) (↑(sub z.fst (1 : Int)
 (↑z.fst.length : Int)).length : Int)).length : Int)) ∧ ((0 : Int) ≤ (1 : Int) ∧ (1 : Int) ≤ (↑(sub (sub z.fst (1 : Int) (↑z.fst.length : Int)) (1 : Int)
 (↑(sub z.fst (1 : Int) (↑z.fst.length : Int)).length : Int)).length : Int) ∧ (↑(sub (sub z.fst (1 : Int) (↑z.fst.length : Int)) (1 : Int) (↑(sub z.fst (1 :
 Int) (↑z.fst.length : Int)).length : Int)).length : Int) ≤ (↑(sub (sub z.fst (1 : Int) (↑z.fst.length : Int)) (1 : Int) (↑(sub z.fst (1 : Int) (↑z.fst.length
 : Int)).length : Int)).length : Int)) ∧ (ix (sub (sub z.fst (1 : Int) (↑z.fst.length : Int)) (1 : Int) (↑(sub z.fst (1 : Int) (↑z.fst.length : Int)).length :
 Int)) (0 : Int)).size.le (nat_lit 281474976710656) ∧ (api_Hop.mk (api_Prefix.mk (0 : Int) (0 : Int)) (0 : Int) (0 : Int) (0 : Int), false) = v else ((0 : Int)
 ≤ (0 : Int) ∧ (0 : Int) < (↑z.fst.length : Int)) ∧ ((0 : Int) ≤ (1 : Int) ∧ (1 : Int) ≤ (↑z.fst.length : Int) ∧ (↑z.fst.length : Int) ≤ (↑z.fst.length : Int))
 ∧ (ix z.fst (0 : Int)).size.le (nat_lit 281474976710656) ∧ bif decide ((↑(sub z.fst (1 : Int) (↑z.fst.length : Int)).length : Int) = (0 : Int)) then (nat_lit
 0 ≤ nat_lit 281474976710656 ∧ (10 : Int) = (10 : Int) ∧ ((32 : Int) = (32 : Int) ∨ (32 : Int) = (64 : Int))) ∧ bif decide ((↑(sub z.fst (1 : Int)
 (↑z.fst.length : Int)).length : Int) = (0 : Int)) then Nat.le (nat_lit 0) (nat_lit 281474976710656) ∧ bif decide ((↑(sub z.fst (1 : Int) (↑z.fst.length :
 Int)).length : Int) = (0 : Int)) then Nat.le (nat_lit 0) (nat_lit 281474976710656) ∧ (api_Hop.mk (api_Prefix.mk (0 : Int) (0 : Int)) (0 : Int) (0 : Int) (0 :
 Int), false) = v else ((0 : Int) ≤ (0 : Int) ∧ (0 : Int) < (↑(sub z.fst (1 : Int) (↑z.fst.length : Int)).length : Int)) ∧ ((0 : Int) ≤ (1 : Int) ∧ (1 : Int) ≤
 (↑(sub z.fst (1 : Int) (↑z.fst.length : Int)).length : Int) ∧ (↑(sub z.fst (1 : Int) (↑z.fst.length : Int)).length : Int) ≤ (↑(sub z.fst (1 : Int)
 (↑z.fst.length : Int)).length : Int)) ∧ (ix (sub z.fst (1 : Int) (↑z.fst.length : Int)) (0 : Int)).size.le (nat_lit 281474976710656) ∧ (api_Hop.mk
 (api_Prefix.mk (0 : Int) (0 : Int)) (0 : Int) (0 : Int) (0 : Int), false) = v else ((0 : Int) ≤ (0 : Int) ∧ (0 : Int) < (↑(sub z.fst (1 : Int) (↑z.fst.length
 : Int)).length : Int)) ∧ ((0 : Int) ≤ (1 : Int) ∧ (1 : Int) ≤ (↑(sub z.fst (1 : Int) (↑z.fst.length : Int)).length : Int) ∧ (↑(sub z.fst (1 : Int)
 (↑z.fst.length : Int)).length : Int) ≤ (↑(sub z.fst (1 : Int) (↑z.fst.length : Int)).length : Int)) ∧ (ix (sub z.fst (1 : Int) (↑z.fst.length : Int)) (0 :
 Int)).size.le (nat_lit 281474976710656) ∧ bif decide ((↑(sub (sub z.fst (1 : Int) (↑z.fst.length : Int)) (1 : Int) (↑(sub z.fst (1 : Int) (↑z.fst.length :
 Int)).length : Int)).length : Int) = (0 : Int)) then Nat.le (nat_lit 0) (nat_lit 281474976710656) ∧ (api_Hop.mk (api_Prefix.mk (0 : Int) (0 : Int)) (0 : Int)
 (0 : Int) (0 : Int), false) = v else ((0 : Int) ≤ (0 : Int) ∧ (0 : Int) < (↑(sub (sub z.fst (1 : Int) (↑z.fst.length : Int)) (1 : Int) (↑(sub z.fst (1 : Int)
 (↑z.fst.length : Int)).length : Int)).length : Int)) ∧ ((0 : Int) ≤ (1 : Int) ∧ (1 : Int) ≤ (↑(sub (sub z.fst (1 : Int) (↑z.fst.length : Int)) (1 : Int)
 (↑(sub z.fst (1 : Int) (↑z.fst.length : Int)).length : Int)).length : Int) ∧ (↑(sub (sub z.fst (1 : Int) (↑z.fst.length : Int)) (1 : Int) (↑(sub z.fst (1 :
 Int) (↑z.fst.length : Int)).length : Int)).length : Int) ≤ (↑(sub (sub z.fst (1 : Int) (↑z.fst.length : Int)) (1 : Int) (↑(sub z.fst (1 : Int) (↑z.fst.length
 : Int)).length : Int)).length : Int)) ∧ (ix (sub (sub z.fst (1 : Int) (↑z.fst.length : Int)) (1 : Int) (↑(sub z.fst (1 : Int) (↑z.fst.length : Int)).length :
 Int)) (0 : Int)).size.le (nat_lit 281474976710656) ∧ (api_Hop.mk (api_Prefix.mk (0 : Int) (0 : Int)) (0 : Int) (0 : Int) (0 : Int), false) = v else ((0 : Int)
 ≤ (0 : Int) ∧ (0 : Int) < (↑(sub z.fst (1 : Int) (↑z.fst.length : Int)).length : Int)) ∧ ((0 : Int) ≤ (1 : Int) ∧ (1 : Int) ≤ (↑(sub z.fst (1 : Int)
 (↑z.fst.length : Int)).length : Int) ∧ (↑(sub z.fst (1 : Int) (↑z.fst.length : Int)).length : Int) ≤ (↑(sub z.fst (1 : Int) (↑z.fst.length : Int)).length :
 Int)) ∧ ((ix (sub z.fst (1 : Int) (↑z.fst.length : Int)) (0 : Int)).size ≤ nat_lit 281474976710656 ∧ (10 : Int) = (10 : Int) ∧ ((32 : Int) = (32 : Int) ∨ (32
 : Int) = (64 : Int))) ∧ bif decide ((↑(sub (sub z.fst (1 : Int) (↑z.fst.length : Int)) (1 : Int) (↑(sub z.fst (1 : Int) (↑z.fst.length : Int)).length :
 Int)).length : Int) = (0 : Int)) then Nat.le (nat_lit 0) (nat_lit 281474976710656) ∧ bif decide ((↑(sub (sub z.fst (1 : Int) (↑z.fst.length : Int)) (1 : Int)
 (↑(sub z.fst (1 : Int) (↑z.fst.length : Int)).length : Int)).length : Int) = (0 : Int)) then Nat.le (nat_lit 0) (nat_lit 281474976710656) ∧ (api_Hop.mk
 (api_Prefix.mk (0 : Int) (0 : Int)) (0 : Int) (0 : Int) (0 : Int), false) = v else ((0 : Int) ≤ (0 : Int) ∧ (0 : Int) < (↑(sub (sub z.fst (1 : Int)
 (↑z.fst.length : Int)) (1 : Int) (↑(sub z.fst (1 : Int) (↑z.fst.length : Int)).length : Int)).length : Int)) ∧ ((0 : Int) ≤ (1 : Int) ∧ (1 : Int) ≤ (↑(sub
 (sub z.fst (1 : Int) (↑z.fst.length : Int)) (1 : Int) (↑(sub z.fst (1 : Int) (↑z.fst.length : Int)).length : Int)).length : Int) ∧ (↑(sub (sub z.fst (1 : Int)
 (↑z.fst.length : Int)) (1 : Int) (↑(sub z.fst (1 : Int) (↑z.fst.length : Int)).length : Int)).length : Int) ≤ (↑(sub (sub z.fst (1 : Int) (↑z.fst.length :
 Int)) (1 : Int) (↑(sub z.fst (1 : Int) (↑z.fst.length : Int)).length : Int)).length : Int)) ∧ (ix (sub (sub z.fst (1 : Int) (↑z.fst.length : Int)) (1 : Int)
 (↑(sub z.fst (1 : Int) (↑z.fst.length : Int)).length : Int)) (0 : Int)).size.le (nat_lit 281474976710656) ∧ (api_Hop.mk (api_Prefix.mk (0 : Int) (0 : Int)) (0
 : Int) (0 : Int) (0 : Int), false) = v else ((0 : Int) ≤ (0 : Int) ∧ (0 : Int) < (↑(sub (sub z.fst (1 : Int) (↑z.fst.length : Int)) (1 : Int) (↑(sub z.fst (1
 : Int) (↑z.fst.length : Int)).length : Int)).length : Int)) ∧ ((0 : Int) ≤ (1 : Int) ∧ (1 : Int) ≤ (↑(sub (sub z.fst (1 : Int) (↑z.fst.length : Int)) (1 :
 Int) (↑(sub z.fst (1 : Int) (↑z.fst.length : Int)).length : Int)).length : Int) ∧ (↑(sub (sub z.fst (1 : Int) (↑z.fst.length : Int)) (1 : Int) (↑(sub z.fst (1
 : Int) (↑z.fst.length : Int)).length : Int)).length : Int) ≤ (↑(sub (sub z.fst (1 : Int) (↑z.fst.length : Int)) (1 : Int) (↑(sub z.fst (1 : Int)
 (↑z.fst.length : Int)).length : Int)).length : Int)) ∧ (ix (sub (sub z.fst (1 : Int) (↑z.fst.length : Int)) (1 : Int) (↑(sub z.fst (1 : Int) (↑z.fst.length :
 Int)).length : Int)) (0 : Int)).size.le (nat_lit 281474976710656) ∧ bif decide ((↑(sub (sub (sub z.fst (1 : Int) (↑z.fst.length : Int)) (1 : Int) (↑(sub z.fst
 (1 : Int) (↑z.fst.length : Int)).length : Int)) (1 : Int) (↑(sub (sub z.fst (1 : Int) (↑z.fst.length : Int)) (1 : Int) (↑(sub z.fst (1 : Int) (↑z.fst.length :
 Int)).length : Int)).length : Int)).length : Int) = (0 : Int)) then Nat.le (nat_lit 0) (nat_lit 281474976710656) ∧ (api_Hop.mk (api_Prefix.mk (0 : Int) (0 :
 Int)) (0 : Int) (0 : Int) (0 : Int), false) = v else ((0 : Int) ≤ (0 : Int) ∧ (0 : Int) < (↑(sub (sub (sub z.fst (1 : Int) (↑z.fst.length : Int)) (1 : Int)
 (↑(sub z.fst (1 : Int) (↑z.fst.length : Int)).length : Int)) (1 : Int) (↑(sub (sub z.fst (1 : Int) (↑z.fst.length : Int)) (1 : Int) (↑(sub z.fst (1 : Int)
 (↑z.fst.length : Int)).length : Int)).length : Int)).length : Int)) ∧ ((0 : Int) ≤ (1 : Int) ∧ (1 : Int) ≤ (↑(sub (sub (sub z.fst (1 : Int) (↑z.fst.length :
 Int)) (1 : Int) (↑(sub z.fst (1 : Int) (↑z.fst.length : Int)).length : Int)) (1 : Int) (↑(sub (sub z.fst (1 : Int) (↑z.fst.length : Int)) (1 : Int) (↑(sub
 z.fst (1 : Int) (↑z.fst.length : Int)).length : Int)).length : Int)).length : Int) ∧ (↑(sub (sub (sub z.fst (1 : Int) (↑z.fst.length : Int)) (1 : Int) (↑(sub
 z.fst (1 : Int) (↑z.fst.length : Int)).length : Int)) (1 : Int) (↑(sub (sub z.fst (1 : Int) (↑z.fst.length : Int)) (1 : Int) (↑(sub z.fst (1 : Int)
 (↑z.fst.length : Int)).length : Int)).length : Int)).length : Int) ≤ (↑(sub (sub (sub z.fst (1 : Int) (↑z.fst.length : Int)) (1 : Int) (↑(sub z.fst (1 : Int)
 (↑z.fst.length : Int)).length : Int)) (1 : Int) (↑(sub (sub z.fst (1 : Int) (↑z.fst.length : Int)) (1 : Int) (↑(sub z.fst (1 : Int) (↑z.fst.length :
 Int)).length : Int)).length : Int)).length : Int)) ∧ (ix (sub (sub (sub z.fst (1 : Int) (↑z.fst.length : Int)) (1 : Int) (↑(sub z.fst (1 : Int) (↑z.fst.length
 : Int)).length : Int)) (1 : Int) (↑(sub (sub z.fst (1 : Int) (↑z.fst.length : Int)) (1 : Int) (↑(sub z.fst (1 : Int) (↑z.fst.length : Int)).length :
 Int)).length : Int)) (0 : Int)).size.le (nat_lit 281474976710656) ∧ (api_Hop.mk (api_Prefix.mk (0 : Int) (0 : Int)) (0 : Int) (0 : Int) (0 : Int), false) = v
 else ((0 : Int) ≤ (0 : Int) ∧ (0 : Int) < (↑z.fst.length : Int)) ∧ ((0 : Int) ≤ (1 : Int) ∧ (1 : Int) ≤ (↑z.fst.length : Int) ∧ (↑z.fst.length : Int) ≤
 (↑z.fst.length : Int)) ∧ ((ix z.fst (0 : Int)).size ≤ nat_lit 281474976710656 ∧ (10 : Int) = (10 : Int) ∧ ((32 : Int) = (32 : Int) ∨ (32 : Int) = (64 : Int)))
 ∧ bif decide ((↑(sub z.fst (1 : Int) (↑z.fst.length : Int)).length : Int) = (0 : Int)) then Nat.le (nat_lit 0) (nat_lit 281474976710656) ∧ bif decide ((↑(sub
 z.fst (1 : Int) (↑z.fst.length : Int)).length : Int) = (0 : Int)) then (nat_lit 0 ≤ nat_lit 281474976710656 ∧ (10 : Int) = (10 : Int) ∧ ((32 : Int) = (32 :
 Int) ∨ (32 : Int) = (64 : Int))) ∧ bif decide ((↑(sub z.fst (1 : Int) (↑z.fst.length : Int)).length : Int) = (0 : Int)) then Nat.le (nat_lit 0) (nat_lit
 281474976710656) ∧ bif decide ((↑(sub z.fst (1 : Int) (↑z.fst.length : Int)).length : Int) = (0 : Int)) then Nat.le (nat_lit 0) (nat_lit 281474976710656) ∧
 (api_Hop.mk (api_Prefix.mk (0 : Int) (0 : Int)) (0 : Int) (0 : Int) (0 : Int), false) = v else ((0 : Int) ≤ (0 : Int) ∧ (0 : Int) < (↑(sub z.fst (1 : Int)
 (↑z.fst.length : Int)).length : Int)) ∧ ((0 : Int) ≤ (1 : Int) ∧ (1 : Int) ≤ (↑(sub z.fst (1 : Int) (↑z.fst.length : Int)).length : Int) ∧ (↑(sub z.fst (1 :
 Int) (↑z.fst.length : Int)).length : Int) ≤ (↑(sub z.fst (1 : Int) (↑z.fst.length : Int)).length : Int)) ∧ (ix (sub z.fst (1 : Int) (↑z.fst.length : Int)) (0
 : Int)).size.le (nat_lit 281474976710656) ∧ (api_Hop.mk (api_Prefix.mk (0 : Int) (0 : Int)) (0 : Int) (0 : Int) (0 : Int), false) = v else ((0 : Int) ≤ (0 :
 Int) ∧ (0 : Int) < (↑(sub z.fst (1 : Int) (↑z.fst.length : Int)).length : Int)) ∧ ((0 : Int) ≤ (1 : Int) ∧ (1 : Int) ≤ (↑(sub z.fst (1 : Int) (↑z.fst.length :
 Int)).length : Int) ∧ (↑(sub z.fst (1 : Int) (↑z.fst.length : Int)).length : Int) ≤ (↑(sub z.fst (1 : Int) (↑z.fst.length : Int)).length : Int)) ∧ (ix (sub
 z.fst (1 : Int) (↑z.fst.length : Int)) (0 : Int)).size.le (nat_lit 281474976710656) ∧ bif decide ((↑(sub (sub z.fst (1 : Int) (↑z.fst.length : Int)) (1 : Int)
 (↑(sub z.fst (1 : Int) (↑z.fst.length : Int)).length : Int)).length : Int) = (0 : Int)) then Nat.le (nat_lit 0) (nat_lit 281474976710656) ∧ (api_Hop.mk
 (api_Prefix.mk (0 : Int) (0 : Int)) (0 : Int) (0 : Int) (0 : Int), false) = v else ((0 : Int) ≤ (0 : Int) ∧ (0 : Int) < (↑(sub (sub z.fst (1 : Int)
 (↑z.fst.length : Int)) (1 : Int) (↑(sub z.fst (1 : Int) (↑z.fst.length : Int)).length : Int)).length : Int)) ∧ ((0 : Int) ≤ (1 : Int) ∧ (1 : Int) ≤ (↑(sub
 (sub z.fst (1 : Int) (↑z.fst.length : Int)) (1 : Int) (↑(sub z.fst (1 : Int) (↑z.fst.length : Int)).length : Int)).length : Int) ∧ (↑(sub (sub z.fst (1 : Int)
 (↑z.fst.length : Int)) (1 : Int) (↑(sub z.fst (1 : Int) (↑z.fst.length : Int)).length : Int)).length : Int) ≤ (↑(sub (sub z.fst (1 : Int) (↑z.fst.length :
 Int)) (1 : Int) (↑(sub z.fst (1 : Int) (↑z.fst.length : Int)).length : Int)).length : Int)) ∧ (ix (sub (sub z.fst (1 : Int) (↑z.fst.length : Int)) (1 : Int)
 (↑(sub z.fst (1 : Int) (↑z.fst.length : Int)).length : Int)) (0 : Int)).size.le (nat_lit 281474976710656) ∧ (api_Hop.mk (api_Prefix.mk (0 : Int) (0 : Int)) (0
 : Int) (0 : Int) (0 : Int), false) = v else ((0 : Int) ≤ (0 : Int) ∧ (0 : Int) < (↑(sub z.fst (1 : Int) (↑z.fst.length : Int)).length : Int)) ∧ ((0 : Int) ≤
 (1 : Int) ∧ (1 : Int) ≤ (↑(sub z.fst (1 : Int) (↑z.fst.length : Int)).length : Int) ∧ (↑(sub z.fst (1 : Int) (↑z.fst.length : Int)).length : Int) ≤ (↑(sub
 z.fst (1 : Int) (↑z.fst.length : Int)).length : Int)) ∧ ((ix (sub z.fst (1 : Int) (↑z.fst.length : Int)) (0 : Int)).size ≤ nat_lit 281474976710656 ∧ (10 :
 Int) = (10 : Int) ∧ ((32 : Int) = (32 : Int) ∨ (32 : Int) = (64 : Int))) ∧ bif decide ((↑(sub (sub z.fst (1 : Int) (↑z.fst.length : Int)) (1 : Int) (↑(sub
 z.fst (1 : Int) (↑z.fst.length : Int)).length : Int)).length : Int) = (0 : Int)) then Nat.le (nat_lit 0) (nat_lit 281474976710656) ∧ bif decide ((↑(sub (sub
 z.fst (1 : Int) (↑z.fst.length : Int)) (1 : Int) (↑(sub z.fst (1 : Int) (↑z.fst.length : Int)).length : Int)).length : Int) = (0 : Int)) then Nat.le (nat_lit
 0) (nat_lit 281474976710656) ∧ (api_Hop.mk (api_Prefix.mk (0 : Int) (0 : Int)) (0 : Int) (0 : Int) (0 : Int), false) = v else ((0 : Int) ≤ (0 : Int) ∧ (0 :
 Int) < (↑(sub (sub z.fst (1 : Int) (↑z.fst.length : Int)) (1 : Int) (↑(sub z.fst (1 : Int) (↑z.fst.length : Int)).length : Int)).length : Int)) ∧ ((0 : Int) ≤
 (1 : Int) ∧ (1 : Int) ≤ (↑(sub (sub z.fst (1 : Int) (↑z.fst.length : Int)) (1 : Int) (↑(sub z.fst (1 : Int) (↑z.fst.length : Int)).length : Int)).length :
 Int) ∧ (↑(sub (sub z.fst (1 : Int) (↑z.fst.length : Int)) (1 : Int) (↑(sub z.fst (1 : Int) (↑z.fst.length : Int)).length : Int)).length : Int) ≤ (↑(sub (sub
 z.fst (1 : Int) (↑z.fst.length : Int)) (1 : Int) (↑(sub z.fst (1 : Int) (↑z.fst.length : Int)).length : Int)).length : Int)) ∧ (ix (sub (sub z.fst (1 : Int)
 (↑z.fst.length : Int)) (1 : Int) (↑(sub z.fst (1 : Int) (↑z.fst.length : Int)).length : Int)) (0 : Int)).size.le (nat_lit 281474976710656) ∧ (api_Hop.mk
 (api_Prefix.mk (0 : Int) (0 : Int)) (0 : Int) (0 : Int) (0 : Int), false) = v else ((0 : Int) ≤ (0 : Int) ∧ (0 : Int) < (↑(sub (sub z.fst (1 : Int)
 (↑z.fst.length : Int)) (1 : Int) (↑(sub z.fst (1 : Int) (↑z.fst.length : Int)).length : Int)).length : Int)) ∧ ((0 : Int) ≤ (1 : Int) ∧ (1 : Int) ≤ (↑(sub
 (sub z.fst (1 : Int) (↑z.fst.length : Int)) (1 : Int) (↑(sub z.fst (1 : Int) (↑z.fst.length : Int)).length : Int)).length : Int) ∧ (↑(sub (sub z.fst (1 : Int)
 (↑z.fst.length : Int)) (1 : Int) (↑(sub z.fst (1 : Int) (↑z.fst.length : Int)).length : Int)).length : Int) ≤ (↑(sub (sub z.fst (1 : Int) (↑z.fst.length :
 Int)) (1 : Int) (↑(sub z.fst (1 : Int) (↑z.fst.length : Int)).length : Int)).length : Int)) ∧ (ix (sub (sub z.fst (1 : Int) (↑z.fst.length : Int)) (1 : Int)
 (↑(sub z.fst (1 : Int) (↑z.fst.length : Int)).length : Int)) (0 : Int)).size.le (nat_lit 281474976710656) ∧ bif decide ((↑(sub (sub (sub z.fst (1 : Int)
 (↑z.fst.length : Int)) (1 : Int) (↑(sub z.fst (1 : Int) (↑z.fst.length : Int)).length : Int)) (1 : Int) (↑(sub (sub z.fst (1 : Int) (↑z.fst.length : Int)) (1
 : Int) (↑(sub z.fst (1 : Int) (↑z.fst.length : Int)).length : Int)).length : Int)).length : Int) = (0 : Int)) then Nat.le (nat_lit 0) (nat_lit
 281474976710656) ∧ (api_Hop.mk (api_Prefix.mk (0 : Int) (0 : Int)) (0 : Int) (0 : Int) (0 : Int), false) = v else ((0 : Int) ≤ (0 : Int) ∧ (0 : Int) < (↑(sub
 (sub (sub z.fst (1 : Int) (↑z.fst.length : Int)) (1 : Int) (↑(sub z.fst (1 : Int) (↑z.fst.length : Int)).length : Int)) (1 : Int) (↑(sub (sub z.fst (1 : Int)
 (↑z.fst.length : Int)) (1 : Int) (↑(sub z.fst (1 : Int) (↑z.fst.length : Int)).length : Int)).length : Int)).length : Int)) ∧ ((0 : Int) ≤ (1 : Int) ∧ (1 :
 Int) ≤ (↑(sub (sub (sub z.fst (1 : Int) (↑z.fst.length : Int)) (1 : Int) (↑(sub z.fst (1 : Int) (↑z.fst.length : Int)).length : Int)) (1 : Int) (↑(sub (sub
 z.fst (1 : Int) (↑z.fst.length : Int)) (1 : Int) (↑(sub z.fst (1 : Int) (↑z.fst.length : Int)).length : Int)).length : Int)).length : Int) ∧ (↑(sub (sub (sub
 z.fst (1 : Int) (↑z.fst.length : Int)) (1 : Int) (↑(sub z.fst (1 : Int) (↑z.fst.length : Int)).length : Int)) (1 : Int) (↑(sub (sub z.fst (1 : Int)
 (↑z.fst.length : Int)) (1 : Int) (↑(sub z.fst (1 : Int) (↑z.fst.length : Int)).length : Int)).length : Int)).length : Int) ≤ (↑(sub (sub (sub z.fst (1 : Int)
 (↑z.fst.length : Int)) (1 : Int) (↑(sub z.fst (1 : Int) (↑z.fst.length : Int)).length : Int)) (1 : Int) (↑(sub (sub z.fst (1 : Int) (↑z.fst.length : Int)) (1
 : Int) (↑(sub z.fst (1 : Int) (↑z.fst.length : Int)).length : Int)).length : Int)).length : Int)) ∧ (ix (sub (sub (sub z.fst (1 : Int) (↑z.fst.length : Int))
 (1 : Int) (↑(sub z.fst (1 : Int) (↑z.fst.length : Int)).length : Int)) (1 : Int) (↑(sub (sub z.fst (1 : Int) (↑z.fst.length : Int)) (1 : Int) (↑(sub z.fst (1
 : Int) (↑z.fst.length : Int)).length : Int)).length : Int)) (0 : Int)).size.le (nat_lit 281474976710656) ∧ (api_Hop.mk (api_Prefix.mk (0 : Int) (0 : Int)) (0
 : Int) (0 : Int) (0 : Int), false) = v else ((0 : Int) ≤ (0 : Int) ∧ (0 : Int) < (↑(sub z.fst (1 : Int) (↑z.fst.length : Int)).length : Int)) ∧ ((0 : Int) ≤
 (1 : Int) ∧ (1 : Int) ≤ (↑(sub z.fst (1 : Int) (↑z.fst.length : Int)).length : Int) ∧ (↑(sub z.fst (1 : Int) (↑z.fst.length : Int)).length : Int) ≤ (↑(sub
 z.fst (1 : Int) (↑z.fst.length : Int)).length : Int)) ∧ (ix (sub z.fst (1 : Int) (↑z.fst.length : Int)) (0 : Int)).size.le (nat_lit 281474976710656) ∧ bif
 decide ((↑(sub (sub z.fst (1 : Int) (↑z.fst.length : Int)) (1 : Int) (↑(sub z.fst (1 : Int) (↑z.fst.length : Int)).length : Int)).length : Int) = (0 : Int))
 then (nat_lit 0 ≤ nat_lit 281474976710656 ∧ (10 : Int) = (10 : Int) ∧ ((32 : Int) = (32 : Int) ∨ (32 : Int) = (64 : Int))) ∧ bif decide ((↑(sub (sub z.fst (1
 : Int) (↑z.fst.length : Int)) (1 : Int) (↑(sub z.fst (1 : Int) (↑z.fst.length : Int)).length : Int)).length : Int) = (0 : Int)) then Nat.le (nat_lit 0)
 (nat_lit 281474976710656) ∧ bif decide ((↑(sub (sub z.fst (1 : Int) (↑z.fst.length : Int)) (1 : Int) (↑(sub z.fst (1 : Int) (↑z.fst.length : Int)).length :
 Int)).length : Int) = (0 : Int)) then Nat.le (nat_lit 0) (nat_lit 281474976710656) ∧ (api_Hop.mk (api_Prefix.mk (0 : Int) (0 : Int)) (0 : Int) (0 : Int) (0 :
 Int), false) = v else ((0 : Int) ≤ (0 : Int) ∧ (0 : Int) < (↑(sub (sub z.fst (1 : Int) (↑z.fst.length : Int)) (1 : Int) (↑(sub z.fst (1 : Int) (↑z.fst.length
 : Int)).length : Int)).length : Int)) ∧ ((0 : Int) ≤ (1 : Int) ∧ (1 : Int) ≤ (↑(sub (sub z.fst (1 : Int) (↑z.fst.length : Int)) (1 : Int) (↑(sub z.fst (1 :
 Int) (↑z.fst.length : Int)).length : Int)).length : Int) ∧ (↑(sub (sub z.fst (1 : Int) (↑z.fst.length : Int)) (1 : Int) (↑(sub z.fst (1 : Int) (↑z.fst.length
 : Int)).length : Int)).length : Int) ≤ (↑(sub (sub z.fst (1 : Int) (↑z.fst.length : Int)) (1 : Int) (↑(sub z.fst (1 : Int) (↑z.fst.length : Int)).length :
 Int)).length : Int)) ∧ (ix (sub (sub z.fst (1 : Int) (↑z.fst.length : Int)) (1 : Int) (↑(sub z.fst (1 : Int) (↑z.fst.length : Int)).length : Int)) (0 :
 Int)).size.le (nat_lit 281474976710656) ∧ (api_Hop.mk (api_Prefix.mk (0 : Int) (0 : Int)) (0 : Int) (0 : Int) (0 : Int), false) = v else ((0 : Int) ≤ (0 :
 Int) ∧ (0 : Int) < (↑(sub (sub z.fst (1 : Int) (↑z.fst.length : Int)) (1 : Int) (↑(sub z.fst (1 : Int) (↑z.fst.length : Int)).length : Int)).length : Int)) ∧
 ((0 : Int) ≤ (1 : Int) ∧ (1 : Int) ≤ (↑(sub (sub z.fst (1 : Int) (↑z.fst.length : Int)) (1 : Int) (↑(sub z.fst (1 : Int) (↑z.fst.length : Int)).length :
 Int)).length : Int) ∧ (↑(sub (sub z.fst (1 : Int) (↑z.fst.length : Int)) (1 : Int) (↑(sub z.fst (1 : Int) (↑z.fst.length : Int)).length : Int)).length : Int)
 ≤ (↑(sub (sub z.fst (1 : Int) (↑z.fst.length : Int)) (1 : Int) (↑(sub z.fst (1 : Int) (↑z.fst.length : Int)).length : Int)).length : Int)) ∧ (ix (sub (sub
 z.fst (1 : Int) (↑z.fst.length : Int)) (1 : Int) (↑(sub z.fst (1 : Int) (↑z.fst.length : Int)).length : Int)) (0 : Int)).size.le (nat_lit 281474976710656) ∧
 bif decide ((↑(sub (sub (sub z.fst (1 : Int) (↑z.fst.length : Int)) (1 : Int) (↑(sub z.fst (1 : Int) (↑z.fst.length : Int)).length : Int)) (1 : Int) (↑(sub
 (sub z.fst (1 : Int) (↑z.fst.length : Int)) (1 : Int) (↑(sub z.fst (1 : Int) (↑z.fst.length : Int)).length : Int)).length : Int)).length : Int) = (0 : Int))
 then Nat.le (nat_lit 0) (nat_lit 281474976710656) ∧ (api_Hop.mk (api_Prefix.mk (0 : Int) (0 : Int)) (0 : Int) (0 : Int) (0 : Int), false) = v else ((0 : Int)
 ≤ (0 : Int) ∧ (0 : Int) < (↑(sub (sub (sub z.fst (1 : Int) (↑z.fst.length : Int)) (1 : Int) (↑(sub z.fst (1 : Int) (↑z.fst.length : Int)).length : Int)) (1 :
 Int) (↑(sub (sub z.fst (1 : Int) (↑z.fst.length : Int)) (1 : Int) (↑(sub z.fst (1 : Int) (↑z.fst.length : Int)).length : Int)).length : Int)).length : Int)) ∧
 ((0 : Int) ≤ (1 : Int) ∧ (1 : Int) ≤ (↑(sub (sub (sub z.fst (1 : Int) (↑z.fst.length : Int)) (1 : Int) (↑(sub z.fst (1 : Int) (↑z.fst.length : Int)).length :
 Int)) (1 : Int) (↑(sub (sub z.fst (1 : Int) (↑z.fst.length : Int)) (1 : Int) (↑(sub z.fst (1 : Int) (↑z.fst.length : Int)).length : Int)).length :
 Int)).length : Int) ∧ (↑(sub (sub (sub z.fst (1 : Int) (↑z.fst.length : Int)) (1 : Int) (↑(sub z.fst (1 : Int) (↑z.fst.length : Int)).length : Int)) (1 : Int)
 (↑(sub (sub z.fst (1 : Int) (↑z.fst.length : Int)) (1 : Int) (↑(sub z.fst (1 : Int) (↑z.fst.length : Int)).length : Int)).length : Int)).length : Int) ≤
 (↑(sub (sub (sub z.fst (1 : Int) (↑z.fst.length : Int)) (1 : Int) (↑(sub z.fst (1 : Int) (↑z.fst.length : Int)).length : Int)) (1 : Int) (↑(sub (sub z.fst (1
 : Int) (↑z.fst.length : Int)) (1 : Int) (↑(sub z.fst (1 : Int) (↑z.fst.length : Int)).length : Int)).length : Int)).length : Int)) ∧ (ix (sub (sub (sub z.fst
 (1 : Int) (↑z.fst.length : Int)) (1 : Int) (↑(sub z.fst (1 : Int) (↑z.fst.length : Int)).length : Int)) (1 : Int) (↑(sub (sub z.fst (1 : Int) (↑z.fst.length :
 Int)) (1 : Int) (↑(sub z.fst (1 : Int) (↑z.fst.length : Int)).length : Int)).length : Int)) (0 : Int)).size.le (nat_lit 281474976710656) ∧ (api_Hop.mk
 (api_Prefix.mk (0 : Int) (0 : Int)) (0 : Int) (0 : Int) (0 : Int), false) = v else ((0 : Int) ≤ (0 : Int) ∧ (0 : Int) < (↑(sub (sub z.fst (1 : Int)
 (↑z.fst.length : Int)) (1 : Int) (↑(sub z.fst (1 : Int) (↑z.fst.length : Int)).length : Int)).length : Int)) ∧ ((0 : Int) ≤ (1 : Int) ∧ (1 : Int) ≤ (↑(sub
 (sub z.fst (1 : Int) (↑z.fst.length : Int)) (1 : Int) (↑(sub z.fst (1 : Int) (↑z.fst.length : Int)).length : Int)).length : Int) ∧ (↑(sub (sub z.fst (1 : Int)
 (↑z.fst.length : Int)) (1 : Int) (↑(sub z.fst (1 : Int) (↑z.fst.length : Int)).length : Int)).length : Int) ≤ (↑(sub (sub z.fst (1 : Int) (↑z.fst.length :
 Int)) (1 : Int) (↑(sub z.fst (1 : Int) (↑z.fst.length : Int)).length : Int)).length : Int)) ∧ ((ix (sub (sub z.fst (1 : Int) (↑z.fst.length : Int)) (1 : Int)
 (↑(sub z.fst (1 : Int) (↑z.fst.length : Int)).length : Int)) (0 : Int)).size ≤ nat_lit 281474976710656 ∧ (10 : Int) = (10 : Int) ∧ ((32 : Int) = (32 : Int) ∨
 (32 : Int) = (64 : Int))) ∧ bif decide ((↑(sub (sub (sub z.fst (1 : Int) (↑z.fst.length : Int)) (1 : Int) (↑(sub z.fst (1 : Int) (↑z.fst.length : Int)).length
 : Int)) (1 : Int) (↑(sub (sub z.fst (1 : Int) (↑z.fst.length : Int)) (1 : Int) (↑(sub z.fst (1 : Int) (↑z.fst.length : Int)).length : Int)).length :
 Int)).length : Int) = (0 : Int)) then Nat.le (nat_lit 0) (nat_lit 281474976710656) ∧ bif decide ((↑(sub (sub (sub z.fst (1 : Int) (↑z.fst.length : Int)) (1 :
 Int) (↑(sub z.fst (1 : Int) (↑z.fst.length : Int)).length : Int)) (1 : Int) (↑(sub (sub z.fst (1 : Int) (↑z.fst.length : Int)) (1 : Int) (↑(sub z.fst (1 :
 Int) (↑z.fst.length : Int)).length : Int)).length : Int)).length : Int) = (0 : Int)) then Nat.le (nat_lit 0) (nat_lit 281474976710656) ∧ (api_Hop.mk
 (api_Prefix.mk (0 : Int) (0 : Int)) (0 : Int) (0 : Int) (0 : Int), false) = v else ((0 : Int) ≤ (0 : Int) ∧ (0 : Int) < (↑(sub (sub (sub z.fst (1 : Int)
 (↑z.fst.length : Int)) (1 : Int) (↑(sub z.fst (1 : Int) (↑z.fst.length : Int)).length : Int)) (1 : Int) (↑(sub (sub z.fst (1 : Int) (↑z.fst.length : Int)) (1
 : Int) (↑(sub z.fst (1 : Int) (↑z.fst.length : Int)).length : Int)).length : Int)).length : Int)) ∧ ((0 : Int) ≤ (1 : Int) ∧ (1 : Int) ≤ (↑(sub (sub (sub
 z.fst (1 : Int) (↑z.fst.length : Int)) (1 : Int) (↑(sub z.fst (1 : Int) (↑z.fst.length : Int)).length : Int)) (1 : Int) (↑(sub (sub z.fst (1 : Int)
 (↑z.fst.length : Int)) (1 : Int) (↑(sub z.fst (1 : Int) (↑z.fst.length : Int)).length : Int)).length : Int)).length : Int) ∧ (↑(sub (sub (sub z.fst (1 : Int)
 (↑z.fst.length : Int)) (1 : Int) (↑(sub z.fst (1 : Int) (↑z.fst.length : Int)).length : Int)) (1 : Int) (↑(sub (sub z.fst (1 : Int) (↑z.fst.length : Int)) (1
 : Int) (↑(sub z.fst (1 : Int) (↑z.fst.length : Int)).length : Int)).length : Int)).length : Int) ≤ (↑(sub (sub (sub z.fst (1 : Int) (↑z.fst.length : Int)) (1
 : Int) (↑(sub z.fst (1 : Int) (↑z.fst.length : Int)).length : Int)) (1 : Int) (↑(sub (sub z.fst (1 : Int) (↑z.fst.length : Int)) (1 : Int) (↑(sub z.fst (1 :
 Int) (↑z.fst.length : Int)).length : Int)).length : Int)).length : Int)) ∧ (ix (sub (sub (sub z.fst (1 : Int) (↑z.fst.length : Int)) (1 : Int) (↑(sub z.fst (1
 : Int) (↑z.fst.length : Int)).length : Int)) (1 : Int) (↑(sub (sub z.fst (1 : Int) (↑z.fst.length : Int)) (1 : Int) (↑(sub z.fst (1 : Int) (↑z.fst.length :
 Int)).length : Int)).length : Int)) (0 : Int)).size.le (nat_lit 281474976710656) ∧ (api_Hop.mk (api_Prefix.mk (0 : Int) (0 : Int)) (0 : Int) (0 : Int) (0 :
 Int), false) = v else ((0 : Int) ≤ (0 : Int) ∧ (0 : Int) < (↑(sub (sub (sub z.fst (1 : Int) (↑z.fst.length : Int)) (1 : Int) (↑(sub z.fst (1 : Int)
 (↑z.fst.length : Int)).length : Int)) (1 : Int) (↑(sub (sub z.fst (1 : Int) (↑z.fst.length : Int)) (1 : Int) (↑(sub z.fst (1 : Int) (↑z.fst.length :
 Int)).length : Int)).length : Int)).length : Int)) ∧ ((0 : Int) ≤ (1 : Int) ∧ (1 : Int) ≤ (↑(sub (sub (sub z.fst (1 : Int) (↑z.fst.length : Int)) (1 : Int)
 (↑(sub z.fst (1 : Int) (↑z.fst.length : Int)).length : Int)) (1 : Int) (↑(sub (sub z.fst (1 : Int) (↑z.fst.length : Int)) (1 : Int) (↑(sub z.fst (1 : Int)
 (↑z.fst.length : Int)).length : Int)).length : Int)).length : Int) ∧ (↑(sub (sub (sub z.fst (1 : Int) (↑z.fst.length : Int)) (1 : Int) (↑(sub z.fst (1 : Int)
 (↑z.fst.length : Int)).length : Int)) (1 : Int) (↑(sub (sub z.fst (1 : Int) (↑z.fst.length : Int)) (1 : Int) (↑(sub z.fst (1 : Int) (↑z.fst.length :
 Int)).length : Int)).length : Int)).length : Int) ≤ (↑(sub (sub (sub z.fst (1 : Int) (↑z.fst.length : Int)) (1 : Int) (↑(sub z.fst (1 : Int) (↑z.fst.length :
 Int)).length : Int)) (1 : Int) (↑(sub (sub z.fst (1 : Int) (↑z.fst.length : Int)) (1 : Int) (↑(sub z.fst (1 : Int) (↑z.fst.length : Int)).length :
 Int)).length : Int)).length : Int)) ∧ (ix (sub (sub (sub z.fst (1 : Int) (↑z.fst.length : Int)) (1 : Int) (↑(sub z.fst (1 : Int) (↑z.fst.length : Int)).length
 : Int)) (1 : Int) (↑(sub (sub z.fst (1 : Int) (↑z.fst.length : Int)) (1 : Int) (↑(sub z.fst (1 : Int) (↑z.fst.length : Int)).length : Int)).length : Int)) (0
 : Int)).size.le (nat_lit 281474976710656) ∧ bif decide ((↑(sub (sub (sub (sub z.fst (1 : Int) (↑z.fst.length : Int)) (1 : Int) (↑(sub z.fst (1 : Int)
 (↑z.fst.length : Int)).length : Int)) (1 : Int) (↑(sub (sub z.fst (1 : Int) (↑z.fst.length : Int)) (1 : Int) (↑(sub z.fst (1 : Int) (↑z.fst.length :
 Int)).length : Int)).length : Int)) (1 : Int) (↑(sub (sub (sub z.fst (1 : Int) (↑z.fst.length : Int)) (1 : Int) (↑(sub z.fst (1 : Int) (↑z.fst.length :
 Int)).length : Int)) (1 : Int) (↑(sub (sub z.fst (1 : Int) (↑z.fst.length : Int)) (1 : Int) (↑(sub z.fst (1 : Int) (↑z.fst.length : Int)).length :
 Int)).length : Int)).length : Int)).length : Int) = (0 : Int)) then Nat.le (nat_lit 0) (nat_lit 281474976710656) ∧ (api_Hop.mk (api_Prefix.mk (0 : Int) (0 :
 Int)) (0 : Int) (0 : Int) (0 : Int), false) = v else ((0 : Int) ≤ (0 : Int) ∧ (0 : Int) < (↑(sub (sub (sub (sub z.fst (1 : Int) (↑z.fst.length : Int)) (1 :
 Int) (↑(sub z.fst (1 : Int) (↑z.fst.length : Int)).length : Int)) (1 : Int) (↑(sub (sub z.fst (1 : Int) (↑z.fst.length : Int)) (1 : Int) (↑(sub z.fst (1 :
 Int) (↑z.fst.length : Int)).length : Int)).length : Int)) (1 : Int) (↑(sub (sub (sub z.fst (1 : Int) (↑z.fst.length : Int)) (1 : Int) (↑(sub z.fst (1 : Int)
 (↑z.fst.length : Int)).length : Int)) (1 : Int) (↑(sub (sub z.fst (1 : Int) (↑z.fst.length : Int)) (1 : Int) (↑(sub z.fst (1 : Int) (↑z.fst.length :
 Int)).length : Int)).length : Int)).length : Int)).length : Int)) ∧ ((0 : Int) ≤ (1 : Int) ∧ (1 : Int) ≤ (↑(sub (sub (sub (sub z.fst (1 : Int) (↑z.fst.length
 : Int)) (1 : Int) (↑(sub z.fst (1 : Int) (↑z.fst.length : Int)).length : Int)) (1 : Int) (↑(sub (sub z.fst (1 : Int) (↑z.fst.length : Int)) (1 : Int) (↑(sub
 z.fst (1 : Int) (↑z.fst.length : Int)).length : Int)).length : Int)) (1 : Int) (↑(sub (sub (sub z.fst (1 : Int) (↑z.fst.length : Int)) (1 : Int) (↑(sub z.fst
 (1 : Int) (↑z.fst.length : Int)).length : Int)) (1 : Int) (↑(sub (sub z.fst (1 : Int) (↑z.fst.length : Int)) (1 : Int) (↑(sub z.fst (1 : Int) (↑z.fst.length :
 Int)).length : Int)).length : Int)).length : Int)).length : Int) ∧ (↑(sub (sub (sub (sub z.fst (1 : Int) (↑z.fst.length : Int)) (1 : Int) (↑(sub z.fst (1 :
 Int) (↑z.fst.length : Int)).length : Int)) (1 : Int) (↑(sub (sub z.fst (1 : Int) (↑z.fst.length : Int)) (1 : Int) (↑(sub z.fst (1 : Int) (↑z.fst.length :
 Int)).length : Int)).length : Int)) (1 : Int) (↑(sub (sub (sub z.fst (1 : Int) (↑z.fst.length : Int)) (1 : Int) (↑(sub z.fst (1 : Int) (↑z.fst.length :
 Int)).length : Int)) (1 : Int) (↑(sub (sub z.fst (1 : Int) (↑z.fst.length : Int)) (1 : Int) (↑(sub z.fst (1 : Int) (↑z.fst.length : Int)).length :
 Int)).length : Int)).length : Int)).length : Int) ≤ (↑(sub (sub (sub (sub z.fst (1 : Int) (↑z.fst.length : Int)) (1 : Int) (↑(sub z.fst (1 : Int)
 (↑z.fst.length : Int)).length : Int)) (1 : Int) (↑(sub (sub z.fst (1 : Int) (↑z.fst.length : Int)) (1 : Int) (↑(sub z.fst (1 : Int) (↑z.fst.length :
 Int)).length : Int)).length : Int)) (1 : Int) (↑(sub (sub (sub z.fst (1 : Int) (↑z.fst.length : Int)) (1 : Int) (↑(sub z.fst (1 : Int) (↑z.fst.length :
 Int)).length : Int)) (1 : Int) (↑(sub (sub z.fst (1 : Int) (↑z.fst.length : Int)) (1 : Int) (↑(sub z.fst (1 : Int) (↑z.fst.length : Int)).length :
 Int)).length : Int)).length : Int)).length : Int)) ∧ (ix (sub (sub (sub (sub z.fst (1 : Int) (↑z.fst.length : Int)) (1 : Int) (↑(sub z.fst (1 : Int)
 (↑z.fst.length : Int)).length : Int)) (1 : Int) (↑(sub (sub z.fst (1 : Int) (↑z.fst.length : Int)) (1 : Int) (↑(sub z.fst (1 : Int) (↑z.fst.length :
 Int)).length : Int)).length : Int)) (1 : Int) (↑(sub (sub (sub z.fst (1 : Int) (↑z.fst.length : Int)) (1 : Int) (↑(sub z.fst (1 : Int) (↑z.fst.length :
 Int)).length : Int)) (1 : Int) (↑(sub (sub z.fst (1 : Int) (↑z.fst.length : Int)) (1 : Int) (↑(sub z.fst (1 : Int) (↑z.fst.length : Int)).length :
 Int)).length : Int)).length : Int)) (0 : Int)).size.le (nat_lit 281474976710656) ∧ bif !z.snd || !decide ((↑z.fst.length : Int) = (5 : Int)) || (S357 (ix
 z.fst (0 : Int)) (10 : Int) (32 : Int)).snd || (S337 (ix (sub z.fst (1 : Int) (↑z.fst.length : Int)) (0 : Int))).snd || (S357 (ix (sub (sub z.fst (1 : Int)
 (↑z.fst.length : Int)) (1 : Int) (↑(sub z.fst (1 : Int) (↑z.fst.length : Int)).length : Int)) (0 : Int)) (10 : Int) (32 : Int)).snd || (S337 (ix (sub (sub
 (sub z.fst (1 : Int) (↑z.fst.length : Int)) (1 : Int) (↑(sub z.fst (1 : Int) (↑z.fst.length : Int)).length : Int)) (1 : Int) (↑(sub (sub z.fst (1 : Int)
 (↑z.fst.length : Int)) (1 : Int) (↑(sub z.fst (1 : Int) (↑z.fst.length : Int)).length : Int)).length : Int)) (0 : Int))).snd || (S337 (ix (sub (sub (sub (sub
 z.fst (1 : Int) (↑z.fst.length : Int)) (1 : Int) (↑(sub z.fst (1 : Int) (↑z.fst.length : Int)).length : Int)) (1 : Int) (↑(sub (sub z.fst (1 : Int)
 (↑z.fst.length : Int)) (1 : Int) (↑(sub z.fst (1 : Int) (↑z.fst.length : Int)).length : Int)).length : Int)) (1 : Int) (↑(sub (sub (sub z.fst (1 : Int)
 (↑z.fst.length : Int)) (1 : Int) (↑(sub z.fst (1 : Int) (↑z.fst.length : Int)).length : Int)) (1 : Int) (↑(sub (sub z.fst (1 : Int) (↑z.fst.length : Int)) (1
 : Int) (↑(sub z.fst (1 : Int) (↑z.fst.length : Int)).length : Int)).length : Int)).length : Int)) (0 : Int))).snd then (api_Hop.mk (api_Prefix.mk (0 : Int) (0
 : Int)) (0 : Int) (0 : Int) (0 : Int), false) = v else (((0 : Int) ≤ IntKind.u32.wrap (S357 (ix z.fst (0 : Int)) (10 : Int) (32 : Int)).fst ∧ IntKind.u32.wrap
 (S357 (ix z.fst (0 : Int)) (10 : Int) (32 : Int)).fst ≤ (4294967295 : Int)) ∧ ((-9223372036854775808 : Int) ≤ (S337 (ix (sub z.fst (1 : Int) (↑z.fst.length :
 Int)) (0 : Int))).fst ∧ (S337 (ix (sub z.fst (1 : Int) (↑z.fst.length : Int)) (0 : Int))).fst ≤ (9223372036854775807 : Int)) ∧ ((0 : Int) ≤ IntKind.u32.wrap
 (S357 (ix (sub (sub z.fst (1 : Int) (↑z.fst.length : Int)) (1 : Int) (↑(sub z.fst (1 : Int) (↑z.fst.length : Int)).length : Int)) (0 : Int)) (10 : Int) (32 :
 Int)).fst ∧ IntKind.u32.wrap (S357 (ix (sub (sub z.fst (1 : Int) (↑z.fst.length : Int)) (1 : Int) (↑(sub z.fst (1 : Int) (↑z.fst.length : Int)).length : Int))
 (0 : Int)) (10 : Int) (32 : Int)).fst ≤ (4294967295 : Int)) ∧ ((-9223372036854775808 : Int) ≤ (S337 (ix (sub (sub (sub z.fst (1 : Int) (↑z.fst.length : Int))
 (1 : Int) (↑(sub z.fst (1 : Int) (↑z.fst.length : Int)).length : Int)) (1 : Int) (↑(sub (sub z.fst (1 : Int) (↑z.fst.length : Int)) (1 : Int) (↑(sub z.fst (1
 : Int) (↑z.fst.length : Int)).length : Int)).length : Int)) (0 : Int))).fst ∧ (S337 (ix (sub (sub (sub z.fst (1 : Int) (↑z.fst.length : Int)) (1 : Int) (↑(sub
 z.fst (1 : Int) (↑z.fst.length : Int)).length : Int)) (1 : Int) (↑(sub (sub z.fst (1 : Int) (↑z.fst.length : Int)) (1 : Int) (↑(sub z.fst (1 : Int)
 (↑z.fst.length : Int)).length : Int)).length : Int)) (0 : Int))).fst ≤ (9223372036854775807 : Int)) ∧ (-9223372036854775808 : Int) ≤ (S337 (ix (sub (sub (sub
 (sub z.fst (1 : Int) (↑z.fst.length : Int)) (1 : Int) (↑(sub z.fst (1 : Int) (↑z.fst.length : Int)).length : Int)) (1 : Int) (↑(sub (sub z.fst (1 : Int)
 (↑z.fst.length : Int)) (1 : Int) (↑(sub z.fst (1 : Int) (↑z.fst.length : Int)).length : Int)).length : Int)) (1 : Int) (↑(sub (sub (sub z.fst (1 : Int)
 (↑z.fst.length : Int)) (1 : Int) (↑(sub z.fst (1 : Int) (↑z.fst.length : Int)).length : Int)) (1 : Int) (↑(sub (sub z.fst (1 : Int) (↑z.fst.length : Int)) (1
 : Int) (↑(sub z.fst (1 : Int) (↑z.fst.length : Int)).length : Int)).length : Int)).length : Int)) (0 : Int))).fst ∧ (S337 (ix (sub (sub (sub (sub z.fst (1 :
 Int) (↑z.fst.length : Int)) (1 : Int) (↑(sub z.fst (1 : Int) (↑z.fst.length : Int)).length : Int)) (1 : Int) (↑(sub (sub z.fst (1 : Int) (↑z.fst.length :
 Int)) (1 : Int) (↑(sub z.fst (1 : Int) (↑z.fst.length : Int)).length : Int)).length : Int)) (1 : Int) (↑(sub (sub (sub z.fst (1 : Int) (↑z.fst.length : Int))
 (1 : Int) (↑(sub z.fst (1 : Int) (↑z.fst.length : Int)).length : Int)) (1 : Int) (↑(sub (sub z.fst (1 : Int) (↑z.fst.length : Int)) (1 : Int) (↑(sub z.fst (1
 : Int) (↑z.fst.length : Int)).length : Int)).length : Int)).length : Int)) (0 : Int))).fst ≤ (9223372036854775807 : Int)) ∧ bif !(S319 (api_Hop.mk
 (api_Prefix.mk (IntKind.u32.wrap (S357 (ix z.fst (0 : Int)) (10 : Int) (32 : Int)).fst) (S337 (ix (sub z.fst (1 : Int) (↑z.fst.length : Int)) (0 : Int))).fst)
 (IntKind.u32.wrap (S357 (ix (sub (sub z.fst (1 : Int) (↑z.fst.length : Int)) (1 : Int) (↑(sub z.fst (1 : Int) (↑z.fst.length : Int)).length : Int)) (0 : Int))
 (10 : Int) (32 : Int)).fst) (S337 (ix (sub (sub (sub z.fst (1 : Int) (↑z.fst.length : Int)) (1 : Int) (↑(sub z.fst (1 : Int) (↑z.fst.length : Int)).length :
 Int)) (1 : Int) (↑(sub (sub z.fst (1 : Int) (↑z.fst.length : Int)) (1 : Int) (↑(sub z.fst (1 : Int) (↑z.fst.length : Int)).length : Int)).length : Int)) (0 :
 Int))).fst (S337 (ix (sub (sub (sub (sub z.fst (1 : Int) (↑z.fst.length : Int)) (1 : Int) (↑(sub z.fst (1 : Int) (↑z.fst.length : Int)).length : Int)) (1 :
 Int) (↑(sub (sub z.fst (1 : Int) (↑z.fst.length : Int)) (1 : Int) (↑(sub z.fst (1 : Int) (↑z.fst.length : Int)).length : Int)).length : Int)) (1 : Int) (↑(sub
 (sub (sub z.fst (1 : Int) (↑z.fst.length : Int)) (1 : Int) (↑(sub z.fst (1 : Int) (↑z.fst.length : Int)).length : Int)) (1 : Int) (↑(sub (sub z.fst (1 : Int)
 (↑z.fst.length : Int)) (1 : Int) (↑(sub z.fst (1 : Int) (↑z.fst.length : Int)).length : Int)).length : Int)).length : Int)) (0 : Int))).fst)).toList ==
 x0.toList then (api_Hop.mk (api_Prefix.mk (0 : Int) (0 : Int)) (0 : Int) (0 : Int) (0 : Int), false) = v else (api_Hop.mk (api_Prefix.mk (IntKind.u32.wrap
 (S357 (ix z.fst (0 : Int)) (10 : Int) (32 : Int)).fst) (S337 (ix (sub z.fst (1 : Int) (↑z.fst.length : Int)) (0 : Int))).fst) (IntKind.u32.wrap (S357 (ix (sub
 (sub z.fst (1 : Int) (↑z.fst.length : Int)) (1 : Int) (↑(sub z.fst (1 : Int) (↑z.fst.length : Int)).length : Int)) (0 : Int)) (10 : Int) (32 : Int)).fst)
 (S337 (ix (sub (sub (sub z.fst (1 : Int) (↑z.fst.length : Int)) (1 : Int) (↑(sub z.fst (1 : Int) (↑z.fst.length : Int)).length : Int)) (1 : Int) (↑(sub (sub
 z.fst (1 : Int) (↑z.fst.length : Int)) (1 : Int) (↑(sub z.fst (1 : Int) (↑z.fst.length : Int)).length : Int)).length : Int)) (0 : Int))).fst (S337 (ix (sub
 (sub (sub (sub z.fst (1 : Int) (↑z.fst.length : Int)) (1 : Int) (↑(sub z.fst (1 : Int) (↑z.fst.length : Int)).length : Int)) (1 : Int) (↑(sub (sub z.fst (1 :
 Int) (↑z.fst.length : Int)) (1 : Int) (↑(sub z.fst (1 : Int) (↑z.fst.length : Int)).length : Int)).length : Int)) (1 : Int) (↑(sub (sub (sub z.fst (1 : Int)
 (↑z.fst.length : Int)) (1 : Int) (↑(sub z.fst (1 : Int) (↑z.fst.length : Int)).length : Int)) (1 : Int) (↑(sub (sub z.fst (1 : Int) (↑z.fst.length : Int)) (1
 : Int) (↑(sub z.fst (1 : Int) (↑z.fst.length : Int)).length : Int)).length : Int)).length : Int)) (0 : Int))).fst, true) = v
end Go.Rx
namespace Go.Rx
open Go.Ab Go.L21
set_option maxRecDepth 100000
set_option maxHeartbeats 20000000
set_option linter.unusedVariables false
/-- interregnum/row.ReadHop -/
noncomputable def C320 : Cfg S := { P := P7, inl := [], K := [(37, ctr P7 [9] [3, 67] (fun x0 => (some (P337 x0), S337 x0))), (57, ctr P7 [9, 3, 3] [59, 67] (fun x0 x1 x2 => (some (P357 x0 x1 x2), S357 x0 x1 x2))), (15, ctr P7 [9] [22, 4] (fun x0 => (some (P315 x0), S315 x0))), (19, ctr P7 [35] [9] (fun x0 => (some (P319 x0), S319 x0)))], ann := [] }
abbrev W320 : CT S [35, 4] [9] := (fun x0 => (some (P320 x0), S320 x0))
abbrev Ok320 : Prop := ConOk P7 20 (ctr P7 [9] [35, 4] W320) ∧ ConMon (ctr P7 [9] [35, 4] W320)
end Go.Rx
namespace Go.Rx
open Go.Ab Go.L21
set_option maxRecDepth 100000
set_option linter.unusedVariables false
theorem q320r (x0 : ByteArray) (v : HR S [35, 4]) : (Xf C320 6 (emp 0) 20 (argsA C320 [⟨9, x0⟩]) (emp 0) (fun r _ => isR C320.P [35, 4] v r) (fun _ _ => False)) = R320 (S315 x0) x0 v := by kernel_rfl
theorem r320 (a b c d e : ByteArray) (x0 : ByteArray) (v : HR S [35, 4]) : R320 ([a, b, c, d, e], true) x0 v = (x0.size.le (nat_lit 1099511627776) ∧ ((0 : Int) ≤ (0 : Int) ∧ (0 : Int) < (5 : Int)) ∧ ((0 : Int) ≤ (1 : Int) ∧ (1 : Int) ≤ (5 : Int) ∧ (5 : Int) ≤ (5 : Int)) ∧ (a.size ≤ nat_lit 281474976710656 ∧ (10 : Int) = (10 : Int) ∧ ((32 : Int) = (32 : Int) ∨ (32 : Int) = (64 : Int))) ∧ ((0 : Int) ≤ (0 : Int) ∧ (0 : Int) < (4 : Int)) ∧ ((0 : Int) ≤ (1 : Int) ∧ (1 : Int) ≤ (4 : Int) ∧ (4 : Int) ≤ (4 : Int)) ∧ b.size.le (nat_lit 281474976710656) ∧ ((0 : Int) ≤ (0 : Int) ∧ (0 : Int) < (3 : Int)) ∧ ((0 : Int) ≤ (1 : Int) ∧ (1 : Int) ≤ (3 : Int) ∧ (3 : Int) ≤ (3 : Int)) ∧ (c.size ≤ nat_lit 281474976710656 ∧ (10 : Int) = (10 : Int) ∧ ((32 : Int) = (32 : Int) ∨ (32 : Int) = (64 : Int))) ∧ ((0 : Int) ≤ (0 : Int) ∧ (0 : Int) < (2 : Int)) ∧ ((0 : Int) ≤ (1 : Int) ∧ (1 : Int) ≤ (2 : Int) ∧ (2 : Int) ≤ (2 : Int)) ∧ d.size.le (nat_lit 281474976710656) ∧ ((0 : Int) ≤ (0 : Int) ∧ (0 : Int) < (1 : Int)) ∧ ((0 : Int) ≤ (1 : Int) ∧ (1 : Int) ≤ (1 : Int) ∧ (1 : Int) ≤ (1 : Int)) ∧ e.size.le (nat_lit 281474976710656) ∧ bif !true || !decide ((5 : Int) = (5 : Int)) || (S357 a (10 : Int) (32 : Int)).snd || (S337 b).snd || (S357 c (10 : Int) (32 : Int)).snd || (S337 d).snd || (S337 e).snd then (api_Hop.mk (api_Prefix.mk (0 : Int) (0 : Int)) (0 : Int) (0 : Int) (0 : Int), false) = v else (((0 : Int) ≤ IntKind.u32.wrap (S357 a (10 : Int) (32 : Int)).fst ∧ IntKind.u32.wrap (S357 a (10 : Int) (32 : Int)).fst ≤ (4294967295 : Int)) ∧ ((-9223372036854775808 : Int) ≤ (S337 b).fst ∧ (S337 b).fst ≤ (9223372036854775807 : Int)) ∧ ((0 : Int) ≤ IntKind.u32.wrap (S357 c (10 : Int) (32 : Int)).fst ∧ IntKind.u32.wrap (S357 c (10 : Int) (32 : Int)).fst ≤ (4294967295 : Int)) ∧ ((-9223372036854775808 : Int) ≤ (S337 d).fst ∧ (S337 d).fst ≤ (9223372036854775807 : Int)) ∧ (-9223372036854775808 : Int) ≤ (S337 e).fst ∧ (S337 e).fst ≤ (9223372036854775807 : Int)) ∧ bif !(S319 (api_Hop.mk (api_Prefix.mk (IntKind.u32.wrap (S357 a (10 : Int) (32 : Int)).fst) (S337 b).fst) (IntKind.u32.wrap (S357 c (10 : Int) (32 : Int)).fst) (S337 d).fst (S337 e).fst)).toList == x0.toList then (api_Hop.mk (api_Prefix.mk (0 : Int) (0 : Int)) (0 : Int) (0 : Int) (0 : Int), false) = v else (api_Hop.mk (api_Prefix.mk (IntKind.u32.wrap (S357 a (10 : Int) (32 : Int)).fst) (S337 b).fst) (IntKind.u32.wrap (S357 c (10 : Int) (32 : Int)).fst) (S337 d).fst (S337 e).fst, true) = v) := by kernel_rfl
end Go.Rx
namespace Go.Rx
open Go.Ab Go.L21
set_option maxRecDepth 100000
set_option maxHeartbeats 20000000
set_option linter.unusedVariables false
/-- interregnum/interregnumlaw21.answers -/
noncomputable def C313 : Cfg S := { P := P7, inl := [], K := [(14, ctr P7 [22] [9] (fun x0 => (some (P314 x0), S314 x0))), (15, ctr P7 [9] [22, 4] (fun x0 => (some (P315 x0), S315 x0))), (19, ctr P7 [35] [9] (fun x0 => (some (P319 x0), S319 x0))), (20, ctr P7 [9] [35, 4] (fun x0 => (some (P320 x0), S320 x0)))], ann := [] }
abbrev W313 : CT S [4] [] := (none, S313)
abbrev Ok313 : Prop := ConOk P7 13 (ctr P7 [] [4] W313) ∧ ConMon (ctr P7 [] [4] W313)
theorem q313 (v : HR S [4]) : (Xf C313 6 (emp 0) 13 (argsA C313 []) (emp 0) (fun r _ => isR C313.P [4] v r) (fun _ _ => False)) = (Nat.le (nat_lit 6) (nat_lit
 1099511627776) ∧ (((0 : Int) ≤ (0 : Int) ∧ (0 : Int) ≤ (4294967295 : Int)) ∧ ((-9223372036854775808 : Int) ≤ (0 : Int) ∧ (0 : Int) ≤ (9223372036854775807 :
 Int)) ∧ ((0 : Int) ≤ (7 : Int) ∧ (7 : Int) ≤ (4294967295 : Int)) ∧ ((-9223372036854775808 : Int) ≤ (0 : Int) ∧ (0 : Int) ≤ (9223372036854775807 : Int)) ∧
 (-9223372036854775808 : Int) ≤ (0 : Int) ∧ (0 : Int) ≤ (9223372036854775807 : Int)) ∧ (∃ (h : api_Hop), (((0 : Int) ≤ h.fPrefix.fAddr ∧ h.fPrefix.fAddr ≤
 (4294967295 : Int)) ∧ ((-9223372036854775808 : Int) ≤ h.fPrefix.fLen ∧ h.fPrefix.fLen ≤ (9223372036854775807 : Int)) ∧ ((0 : Int) ≤ h.fNext ∧ h.fNext ≤
 (4294967295 : Int)) ∧ ((-9223372036854775808 : Int) ≤ h.fPeer ∧ h.fPeer ≤ (9223372036854775807 : Int)) ∧ (-9223372036854775808 : Int) ≤ h.fStale ∧ h.fStale ≤
 (9223372036854775807 : Int)) ∧ S319 (api_Hop.mk (api_Prefix.mk (0 : Int) (0 : Int)) (7 : Int) (0 : Int) (0 : Int)) = S319 h) ∧ (true = true → (0 : Int) ≤ (0 :
 Int) ∧ (0 : Int) < (↑(nat_lit 2) : Int)) ∧ Nat.le (nat_lit 6) (nat_lit 70368744177664) ∧ true = v) := by kernel_rfl
end Go.Rx
namespace Go.Rx
open Go.Ab Go.L21
set_option maxRecDepth 100000
set_option maxHeartbeats 20000000
set_option linter.unusedVariables false
/-- interregnum/interregnumlaw21.RowTexts -/
noncomputable def C303 : Cfg S := { P := P7, inl := [], K := [(14, ctr P7 [22] [9] (fun x0 => (some (P314 x0), S314 x0))), (15, ctr P7 [9] [22, 4] (fun x0 => (some (P315 x0), S315 x0))), (17, ctr P7 [22] [9] (fun x0 => (some (P317 x0), S317 x0))), (16, ctr P7 [9] [22, 4] (fun x0 => (some (P316 x0), S316 x0))), (18, ctr P7 [22, 22] [4] (fun x0 x1 => (some (P318 x0 x1), S318 x0 x1))), (12, ctr P7 [22] [4] (fun x0 => (some (P312 x0), S312 x0))), (13, ctr P7 [] [4] (none, S313))], ann := [] }
abbrev W303 : CT S [4] [22, 9] := (fun x0 x1 => (some (P303 x0 x1), S303 x0 x1))
abbrev Ok303 : Prop := ConOk P7 3 (ctr P7 [22, 9] [4] W303) ∧ ConMon (ctr P7 [22, 9] [4] W303)
theorem q303 (x0 : List ByteArray) (x1 : ByteArray) (v : HR S [4]) : (Xf C303 6 (emp 0) 3 (argsA C303 [⟨22, x0⟩, ⟨9, x1⟩]) (emp 0) (fun r _ => isR C303.P [4] v
 r) (fun _ _ => False)) = ((x0.length ≤ nat_lit 1152921504606846976 ∧ ∀ (x : ByteArray), List.Mem x x0 → x.size ≤ nat_lit 1152921504606846976) ∧ bif !S312 x0
 || decide ((3000 : Int) < (↑x1.size : Int)) then true = v else (textsL x0).length.le (nat_lit 70368744177664) ∧ (S314 x0).size.le (nat_lit 1099511627776) ∧
 x1.size.le (nat_lit 1099511627776) ∧ x1.size.le (nat_lit 1099511627776) ∧ (textsL x0).length.le (nat_lit 70368744177664) ∧ bif (S314 x0).toList == (S317
 x0).toList && (S315 (S314 x0)).snd then x0.length.le (nat_lit 1152921504606846976) ∧ bif S318 x0 (S315 (S314 x0)).fst && decide ((S315 x1).snd = (S316
 x1).snd) then (S315 x1).fst.length.le (nat_lit 1152921504606846976) ∧ S318 (S315 x1).fst (S316 x1).fst = v else false = v else false = v) := by kernel_rfl
end Go.Rx
/-! The law RowTexts, and what answers does. -/
namespace Go.Rx
open Go.Ab Go.L21
set_option linter.unusedVariables false
set_option maxRecDepth 100000
theorem run318 : RunC C318 6 18 [4] [22, 22] W318 [] := by
  intro (a : List ByteArray) hx (b : List ByteArray) hy hp
  have hp : a.length ≤ 1152921504606846976 := hp _ rfl
  refine of_eq (q318 a b _) (bif_of (fun hc => ?_) (fun hc => ?_))
  · have hc : ¬ a.length = b.length := by
      intro e; rw [e] at hc; simp at hc
    show false = S318 a b
    unfold S318
    rw [decide_eq_false (fun e => hc (by rw [e]))]
  · have hc : a.length = b.length := by
      have : decide ((a.length : Int) = (b.length : Int)) = true := by
        cases hd : decide ((a.length : Int) = (b.length : Int)) with
        | true => rfl
        | false => rw [hd] at hc; cases hc
      have := of_decide_eq_true this
      omega
    refine LOOP.of (fun y => ∃ k : Nat, y = (k : Int) ∧ k ≤ a.length ∧ a.take k = b.take k) (fun y => a.length - y.toNat) ⟨0, rfl, by omega, rfl⟩ ?_
    rintro _ ⟨k, rfl, hk, he⟩ J hJ
    dsimp only
    refine bif_of (fun h => ?_) (fun h => ?_)
    · have h := of_decide_eq_true h
      have hka : k < a.length := by omega
      have hkb : k < b.length := by omega
      rw [ix_get (List.getElem?_eq_getElem hka), ix_get (List.getElem?_eq_getElem hkb)]
      refine ⟨⟨by omega, h⟩, ⟨by omega, by omega⟩, bif_of (fun hn => ?_) (fun hn => ?_)⟩
      · show false = S318 a b
        unfold S318
        rw [decide_eq_false]
        intro e
        subst e
        simp at hn
      · have hab : a[k] = b[k] := by
          have hn : a[k].toList = b[k].toList := by simpa using hn
          rw [Lib.toList_data, Lib.toList_data] at hn
          exact congrArg bs hn
        have hw : IntKind.i64.wrap ((k : Int) + 1) = ((k + 1 : Nat) : Int) := by rw [wrap64 (by omega)]; omega
        rw [hw]
        refine hJ _ ⟨k + 1, rfl, by omega, ?_⟩ (by omega)
        rw [List.take_add_one, List.take_add_one, he, List.getElem?_eq_getElem hka, List.getElem?_eq_getElem hkb, hab]
    · have h := of_decide_eq_false h
      have : k = a.length := by omega
      subst this
      rw [List.take_length, hc, List.take_length] at he
      show true = S318 a b
      unfold S318
      rw [decide_eq_true he]
theorem ok318 : Ok318 := con_ok (C := C318) kok_nil mx7 (by kernel_rfl) run318
def sumS (l : List ByteArray) : Nat := (l.map (·.size)).sum
theorem sum_take {l : List ByteArray} {k : Nat} {y : ByteArray} (h : l[k]? = some y) : sumS (l.take (k + 1)) = sumS (l.take k) + y.size := by
  rw [List.take_add_one, h]; simp [sumS]
theorem sum_le (l : List ByteArray) (k : Nat) : sumS (l.take k) ≤ sumS l := by
  conv => rhs; rw [← List.take_append_drop k l]
  simp only [sumS, List.map_append, List.sum_append]; omega
theorem run312 : RunC C312 6 12 [4] [22] W312 [] := by
  intro (a : List ByteArray) hx hp
  obtain ⟨h1, h2⟩ : P312 a := hp _ rfl
  refine of_eq (q312 a _) ?_
  refine LOOP.of (fun y => ∃ k : Nat, y = (((a.length + sumS (a.take k) : Nat) : Int), (k : Int)) ∧ k ≤ a.length ∧ a.length + sumS (a.take k) ≤ 2305843009213703952) (fun y => a.length - y.2.toNat) ⟨0, rfl, by omega, by simp [sumS]; omega⟩ ?_
  rintro _ ⟨k, rfl, hk, hs⟩ J hJ
  dsimp only
  refine bif_of (fun h => ?_) (fun h => ?_)
  · rw [Bool.and_eq_true] at h
    have g1 := of_decide_eq_true h.1
    have g2 := of_decide_eq_true h.2
    have hka : k < a.length := by omega
    have hy := List.getElem?_eq_getElem hka
    have hz := h2 _ (List.getElem_mem hka)
    generalize a[k] = y at hy hz
    have ht := sum_take hy
    rw [ix_get hy, wrap64 (n := ((a.length + sumS (a.take k) : Nat) : Int) + (y.size : Int)) (by omega), wrap64 (n := (k : Int) + 1) (by omega)]
    refine ⟨⟨by omega, g1⟩, hJ _ ⟨k + 1, Prod.ext ?_ ?_, by omega, by omega⟩ ?_⟩
    · show _ = ((_ : Nat) : Int); rw [ht]; omega
    · show (k : Int) + 1 = ((k + 1 : Nat) : Int); omega
    · show a.length - ((k : Int) + 1).toNat < a.length - ((k : Nat) : Int).toNat
      omega
  · have hl := sum_le a k
    show decide _ = S312 a
    unfold S312
    show decide _ = decide (a.length + sumS a < 10000)
    by_cases g2 : ((a.length + sumS (a.take k) : Nat) : Int) < 10000
    · have : k = a.length := by
        have : decide ((k : Int) < (a.length : Int)) = false := by
          rw [decide_eq_true g2, Bool.and_true] at h; exact h
        have := of_decide_eq_false this
        omega
      subst this
      rw [List.take_length] at g2 ⊢
      rw [decide_eq_true g2, decide_eq_true (by omega)]
    · rw [decide_eq_false g2, decide_eq_false (by omega)]
theorem ok312 : Ok312 := con_ok (C := C312) kok_nil mx7 (by kernel_rfl) run312
theorem s357_of {u : Int} (h : 0 ≤ u ∧ u ≤ 4294967295) : S357 (S333 u) 10 32 = (u, false) := by
  obtain ⟨n, rfl⟩ : ∃ n : Nat, u = (n : Int) := ⟨u.toNat, by omega⟩
  unfold S357
  rw [S333, data_bs, Lib.itoa_nonneg, show (32 : Int).toNat = 32 from rfl, uint_dec 32 (by omega) n (by omega)]
  rfl
theorem s337_of {n : Int} (h : P333 n) : S337 (S333 n) = (n, false) := by
  unfold S337
  rw [S333, data_bs, atoi_itoa n h]
  rfl
theorem wrap32 {n : Int} (h : 0 ≤ n ∧ n ≤ 4294967295) : IntKind.u32.wrap n = n := by
  have : IntKind.u32.wrap n = n % 4294967296 := rfl
  rw [this]; omega
theorem size333 {n : Int} (h : P333 n) : (S333 n).size ≤ 281474976710656 := by
  have := itoa_len h
  rw [S333, size_bs]; omega
theorem run320 : RunC C320 6 20 [35, 4] [9] W320 [] := by
  intro (s : ByteArray) hx hp
  obtain ⟨h, hh, rfl⟩ : P320 s := hp _ rfl
  refine of_eq (q320r _ _) ?_
  have e : S315 (S319 h) = ([S333 h.fPrefix.fAddr, S333 h.fPrefix.fLen, S333 h.fNext, S333 h.fPeer, S333 h.fStale], true) := split_texts (hopL h)
  have hl := hop_len hh
  obtain ⟨h1, h2, h3, h4, h5⟩ := hh
  have ev : S320 (S319 h) = (h, true) := by
    unfold S320
    rw [e]
    show (api_Hop.mk ⟨(S357 (S333 h.fPrefix.fAddr) 10 32).1, (S337 (S333 h.fPrefix.fLen)).1⟩ (S357 (S333 h.fNext) 10 32).1 (S337 (S333 h.fPeer)).1 (S337 (S333 h.fStale)).1, true) = _
    rw [s357_of h1, s337_of h2, s357_of h3, s337_of h4, s337_of h5]
  rw [e]
  refine of_eq (r320 _ _ _ _ _ _ _) ?_
  rw [s357_of h1, s337_of h2, s357_of h3, s337_of h4, s337_of h5]
  simp only [wrap32 h1, wrap32 h3]
  refine ⟨?_, ⟨by decide, by decide⟩, ⟨by decide, by decide, by decide⟩, ⟨size333 (p333 h1), trivial, .inl trivial⟩, ⟨by decide, by decide⟩, ⟨by decide, by decide, by decide⟩, size333 h2, ⟨by decide, by decide⟩, ⟨by decide, by decide, by decide⟩, ⟨size333 (p333 h3), trivial, .inl trivial⟩, ⟨by decide, by decide⟩, ⟨by decide, by decide, by decide⟩, size333 h4, ⟨by decide, by decide⟩, ⟨by decide, by decide, by decide⟩, size333 h5, ?_⟩
  · show (bs _).size ≤ 1099511627776
    rw [size_bs]; omega
  · refine bif_of (fun hc => absurd hc (by decide)) (fun _ => ⟨⟨h1, h2, h3, h4, h5⟩, bif_of (fun hc => ?_) (fun _ => ev.symm)⟩)
    simp at hc
theorem ok320 : Ok320 := by
  refine con_ok (C := C320) ?_ mx7 (by kernel_rfl) run320
  exact kok_cons ok337 (kok_cons ok357 (kok_cons ok315 (kok_cons ok319 kok_nil)))
theorem run313 : RunC C313 6 13 [4] [] W313 [] := by
  intro hp
  refine of_eq (q313 _) ⟨show (6 : Nat) ≤ 1099511627776 by decide, ⟨⟨by decide, by decide⟩, ⟨by decide, by decide⟩, ⟨by decide, by decide⟩, ⟨by decide, by decide⟩, by decide, by decide⟩, ⟨_, ⟨⟨by decide, by decide⟩, ⟨by decide, by decide⟩, ⟨by decide, by decide⟩, ⟨by decide, by decide⟩, by decide, by decide⟩, rfl⟩, fun _ => ⟨by decide, by decide⟩, show (6 : Nat) ≤ 70368744177664 by decide, rfl⟩
theorem ok313 : Ok313 := by
  refine con_ok (C := C313) ?_ mx7 (by kernel_rfl) run313
  exact kok_cons ok314 (kok_cons ok315 (kok_cons ok319 (kok_cons ok320 kok_nil)))
theorem texts_few (l : List ByteArray) (h : sumS l < 10000) : (textsL l).length ≤ 22 * l.length + sumS l := by
  induction l with
  | nil => exact Nat.zero_le _
  | cons x r ih =>
    have e : sumS (x :: r) = x.size + sumS r := rfl
    have e2 : textsL (x :: r) = textL x ++ textsL r := rfl
    have := itoa_len (n := (x.size : Int)) ⟨by omega, by omega⟩
    have := ih (by omega)
    rw [e2, List.length_append, textL, List.length_append, List.length_cons, ← Lib.size_eq, List.length_cons]
    omega
theorem splitN_len (n : Nat) (l : List UInt8) {t : List (List UInt8)} (h : splitN n l = some t) : t.length ≤ n := by
  induction n generalizing l t with
  | zero => cases h; exact Nat.le_refl _
  | succ n ih =>
    rw [splitN] at h
    split at h
    · cases h; exact Nat.zero_le _
    · split at h
      · cases h
      · rename_i x r _
        cases hr : splitN n r with
        | none => rw [hr] at h; cases h
        | some u =>
          rw [hr] at h
          cases h
          have := ih r hr
          simp only [List.length_cons]; omega
theorem s315_len (x : ByteArray) : (S315 x).1.length ≤ x.size := by
  unfold S315
  cases h : splitL x.data.toList with
  | none => exact Nat.zero_le _
  | some t =>
    have := splitN_len _ _ h
    rw [← Lib.size_eq] at this
    simpa using this
theorem run303 : RunC C303 6 3 [4] [22, 9] W303 [] := by
  intro (l : List ByteArray) hx (s : ByteArray) hy hp
  have hp : P312 l := hp _ rfl
  refine of_eq (q303 l s _) ⟨hp, bif_of (fun _ => rfl) (fun hc => ?_)⟩
  have hc : S312 l = true ∧ ¬ (3000 : Int) < (s.size : Int) := by
    rw [Bool.or_eq_false_iff] at hc
    refine ⟨by simpa using hc.1, of_decide_eq_false hc.2⟩
  obtain ⟨hf, hs⟩ := hc
  have hf : l.length + sumS l < 10000 := of_decide_eq_true hf
  have ht := texts_few l (by omega)
  have e : S315 (S314 l) = (l, true) := split_texts l
  have hsz : (S314 l).size = (textsL l).length := size_bs _
  have hsl := s315_len s
  rw [e]
  refine ⟨by show _ ≤ 70368744177664; omega, by show _ ≤ 1099511627776; omega, by show _ ≤ 1099511627776; omega, by show _ ≤ 1099511627776; omega, by show _ ≤ 70368744177664; omega, bif_of (fun _ => ⟨hp.1, bif_of (fun _ => ⟨by show _ ≤ 1152921504606846976; omega, ?_⟩) (fun hn => ?_)⟩) (fun hn => ?_)⟩
  · show S318 (S315 s).1 (S315 s).1 = true
    unfold S318; exact decide_eq_true rfl
  · have : (S318 l l && decide ((S315 s).2 = (S316 s).2)) = true := by
      rw [Bool.and_eq_true]
      exact ⟨decide_eq_true rfl, decide_eq_true rfl⟩
    rw [this] at hn; cases hn
  · have : ((S314 l).toList == (S317 l).toList) = true := beq_iff_eq.2 rfl
    rw [this] at hn; cases hn
theorem ok303 : Ok303 := by
  refine con_ok (C := C303) ?_ mx7 (by kernel_rfl) run303
  exact kok_cons ok314 (kok_cons ok315 (kok_cons ok317 (kok_cons ok316 (kok_cons ok318 (kok_cons ok312 (kok_cons ok313 kok_nil))))))
end Go.Rx
namespace Go.Rx
open Go.Ab Go.L21
set_option maxRecDepth 100000
set_option maxHeartbeats 20000000
set_option linter.unusedVariables false
/-- interregnum/interregnumlaw21.RowHops -/
noncomputable def C304 : Cfg S := { P := P7, inl := [], K := [(19, ctr P7 [35] [9] (fun x0 => (some (P319 x0), S319 x0))), (21, ctr P7 [35] [9] (fun x0 => (some (P321 x0), S321 x0))), (20, ctr P7 [9] [35, 4] (fun x0 => (some (P320 x0), S320 x0))), (13, ctr P7 [] [4] (none, S313))], ann := [] }
abbrev W304 : CT S [4] [35] := (fun x0 => (some (P304 x0), S304 x0))
abbrev Ok304 : Prop := ConOk P7 4 (ctr P7 [35] [4] W304) ∧ ConMon (ctr P7 [35] [4] W304)
theorem q304 (x0 : api_Hop) (v : HR S [4]) : (Xf C304 6 (emp 0) 4 (argsA C304 [⟨35, x0⟩]) (emp 0) (fun r _ => isR C304.P [4] v r) (fun _ _ => False)) = ((((0 :
 Int) ≤ x0.fPrefix.fAddr ∧ x0.fPrefix.fAddr ≤ (4294967295 : Int)) ∧ ((-9223372036854775808 : Int) ≤ x0.fPrefix.fLen ∧ x0.fPrefix.fLen ≤ (9223372036854775807 :
 Int)) ∧ ((0 : Int) ≤ x0.fNext ∧ x0.fNext ≤ (4294967295 : Int)) ∧ ((-9223372036854775808 : Int) ≤ x0.fPeer ∧ x0.fPeer ≤ (9223372036854775807 : Int)) ∧
 (-9223372036854775808 : Int) ≤ x0.fStale ∧ x0.fStale ≤ (9223372036854775807 : Int)) ∧ (∃ (h : api_Hop), (((0 : Int) ≤ h.fPrefix.fAddr ∧ h.fPrefix.fAddr ≤
 (4294967295 : Int)) ∧ ((-9223372036854775808 : Int) ≤ h.fPrefix.fLen ∧ h.fPrefix.fLen ≤ (9223372036854775807 : Int)) ∧ ((0 : Int) ≤ h.fNext ∧ h.fNext ≤
 (4294967295 : Int)) ∧ ((-9223372036854775808 : Int) ≤ h.fPeer ∧ h.fPeer ≤ (9223372036854775807 : Int)) ∧ (-9223372036854775808 : Int) ≤ h.fStale ∧ h.fStale ≤
 (9223372036854775807 : Int)) ∧ S319 x0 = S319 h) ∧ (((0 : Int) ≤ x0.fPrefix.fAddr ∧ x0.fPrefix.fAddr ≤ (4294967295 : Int)) ∧ ((-9223372036854775808 : Int) ≤
 x0.fPrefix.fLen ∧ x0.fPrefix.fLen ≤ (9223372036854775807 : Int)) ∧ ((0 : Int) ≤ x0.fNext ∧ x0.fNext ≤ (4294967295 : Int)) ∧ ((-9223372036854775808 : Int) ≤
 x0.fPeer ∧ x0.fPeer ≤ (9223372036854775807 : Int)) ∧ (-9223372036854775808 : Int) ≤ x0.fStale ∧ x0.fStale ≤ (9223372036854775807 : Int)) ∧ ((S319 x0).toList
 == (S321 x0).toList && true && (decide (valU ((S315 (S319 x0)).fst.getD (nat_lit 0) (bs [])) = x0.fPrefix.fAddr) && (decide (valI ((S315 (S319 x0)).fst.getD
 (nat_lit 1) (bs [])) = x0.fPrefix.fLen) && true) && (decide (valU ((S315 (S319 x0)).fst.getD (nat_lit 2) (bs [])) = x0.fNext) && (decide (valI ((S315 (S319
 x0)).fst.getD (nat_lit 3) (bs [])) = x0.fPeer) && (decide (valI ((S315 (S319 x0)).fst.getD (nat_lit 4) (bs [])) = x0.fStale) && true))))) = v) := by kernel_rfl
end Go.Rx
/-! The law RowHops. -/
namespace Go.Rx
open Go.Ab Go.L21
set_option linter.unusedVariables false
set_option maxRecDepth 100000
theorem run304 : RunC C304 6 4 [4] [35] W304 [] := by
  intro (h : api_Hop) hx hp
  have hp : okHop h := hp _ rfl
  have e : S315 (S319 h) = (hopL h, true) := split_texts (hopL h)
  refine of_eq (q304 h _) ⟨hp, ⟨h, hp, rfl⟩, hp, ?_⟩
  obtain ⟨h1, h2, h3, h4, h5⟩ := hp
  rw [e]
  have a1 : valU (S333 h.fPrefix.fAddr) = h.fPrefix.fAddr := by unfold valU; rw [s357_of h1]
  have a2 : valI (S333 h.fPrefix.fLen) = h.fPrefix.fLen := by unfold valI; rw [s337_of h2]
  have a3 : valU (S333 h.fNext) = h.fNext := by unfold valU; rw [s357_of h3]
  have a4 : valI (S333 h.fPeer) = h.fPeer := by unfold valI; rw [s337_of h4]
  have a5 : valI (S333 h.fStale) = h.fStale := by unfold valI; rw [s337_of h5]
  show ((S319 h).toList == (S319 h).toList && true && (decide (valU (S333 h.fPrefix.fAddr) = h.fPrefix.fAddr) && (decide (valI (S333 h.fPrefix.fLen) = h.fPrefix.fLen) && true) && (decide (valU (S333 h.fNext) = h.fNext) && (decide (valI (S333 h.fPeer) = h.fPeer) && (decide (valI (S333 h.fStale) = h.fStale) && true))))) = true
  rw [a1, a2, a3, a4, a5]
  simp
theorem ok304 : Ok304 := by
  refine con_ok (C := C304) ?_ mx7 (by kernel_rfl) run304
  exact kok_cons ok319 (kok_cons ok321 (kok_cons ok320 (kok_cons ok313 kok_nil)))
end Go.Rx
namespace Go.Rx
open Go.Ab Go.L21
set_option maxRecDepth 100000
set_option maxHeartbeats 20000000
set_option linter.unusedVariables false
/-- interregnum/row.rules -/
noncomputable def C345 : Cfg S := { P := P7, inl := [], K := [(39, ctr P7 [31] [9] (fun x0 => (some (P339 x0), S339 x0))), (40, ctr P7 [3] [9] (fun x0 => (some (P340 x0), S340 x0)))], ann := [(45, [(9, .join [(.sl 3, .own 9)]), (8, .join [(.sl 6, .str)]), (3, .loop [(.sl 3, .own 9), (.sl 9, .int .i64)])])] }
abbrev W345 : CT S [22] [40] := (fun x0 => (some (P345 x0), S345 x0))
abbrev Ok345 : Prop := ConOk P7 45 (ctr P7 [40] [22] W345) ∧ ConMon (ctr P7 [40] [22] W345)
theorem q345 (x0 : List api_Rule) (v : HR S [22]) : (Xf C345 6 (emp 0) 45 (argsA C345 [⟨40, x0⟩]) (emp 0) (fun r _ => isR C345.P [22] v r) (fun _ _ => False))
 = (LOOP (fun (h : List ByteArray × Int) (J : List ByteArray × Int → Prop) => bif decide (h.snd < (↑x0.length : Int)) then h.fst.length = h.fst.length ∧ JP
 (fun (h_1 : List ByteArray) => h_1.length = h_1.length ∧ J (h_1, IntKind.i64.wrap (h.snd + (1 : Int)))) fun (J : List ByteArray → Prop) => ((0 : Int) ≤ h.snd
 ∧ h.snd < (↑x0.length : Int)) ∧ JP (fun (h_1 : ByteArray) => ((0 : Int) ≤ (ix x0 h.snd).fPrefix.fAddr ∧ (ix x0 h.snd).fPrefix.fAddr ≤ (4294967295 : Int)) ∧
 ((-9223372036854775808 : Int) ≤ (ix x0 h.snd).fPrefix.fLen ∧ (ix x0 h.snd).fPrefix.fLen ≤ (9223372036854775807 : Int)) ∧ ((-9223372036854775808 : Int) ≤ (ix
 x0 h.snd).fMin ∧ (ix x0 h.snd).fMin ≤ (9223372036854775807 : Int)) ∧ ((-9223372036854775808 : Int) ≤ (ix x0 h.snd).fMax ∧ (ix x0 h.snd).fMax ≤
 (9223372036854775807 : Int)) ∧ ((-9223372036854775808 : Int) ≤ (ix x0 h.snd).fPref ∧ (ix x0 h.snd).fPref ≤ (9223372036854775807 : Int)) ∧ (h.fst.length =
 h.fst.length ∧ (h.fst.length + [S339 (ix x0 h.snd).fPrefix.fAddr, S340 (ix x0 h.snd).fPrefix.fLen, S340 (ix x0 h.snd).fMin, S340 (ix x0 h.snd).fMax, h_1, S340
 (ix x0 h.snd).fPref].length) * nat_lit 16 ≤ nat_lit 140737488355328) ∧ ∀ (y : List (ByteArray)), y = h.fst ++ [S339 (ix x0 h.snd).fPrefix.fAddr, S340 (ix x0
 h.snd).fPrefix.fLen, S340 (ix x0 h.snd).fMin, S340 (ix x0 h.snd).fMax, h_1, S340 (ix x0 h.snd).fPref] → y.length = y.length ∧ J y) fun (J : ByteArray → Prop)
 => bif (ix x0 h.snd).fDeny then J (ByteArray.mk #[(49 : UInt8)]) else J (ByteArray.mk #[(48 : UInt8)]) else h.fst = v) ([], (0 : Int))) := by kernel_rfl
end Go.Rx
namespace Go.Rx
open Go.Ab Go.L21
set_option maxRecDepth 100000
set_option maxHeartbeats 20000000
set_option linter.unusedVariables false
/-- interregnum/row.Peer -/
noncomputable def C322 : Cfg S := { P := P7, inl := [], K := [(14, ctr P7 [22] [9] (fun x0 => (some (P314 x0), S314 x0))), (40, ctr P7 [3] [9] (fun x0 => (some (P340 x0), S340 x0))), (45, ctr P7 [40] [22] (fun x0 => (some (P345 x0), S345 x0)))], ann := [] }
abbrev W322 : CT S [9] [42] := (fun x0 => (some (P322 x0), S322 x0))
abbrev Ok322 : Prop := ConOk P7 22 (ctr P7 [42] [9] W322) ∧ ConMon (ctr P7 [42] [9] W322)
theorem q322 (x0 : api_PeerConf) (v : HR S [9]) : (Xf C322 6 (emp 0) 22 (argsA C322 [⟨42, x0⟩]) (emp 0) (fun r _ => isR C322.P [9] v r) (fun _ _ => False)) =
 (((-9223372036854775808 : Int) ≤ x0.fNum ∧ x0.fNum ≤ (9223372036854775807 : Int)) ∧ ((-9223372036854775808 : Int) ≤ x0.fAS ∧ x0.fAS ≤ (9223372036854775807 :
 Int)) ∧ ((-9223372036854775808 : Int) ≤ (↑x0.fIn.length : Int) ∧ (↑x0.fIn.length : Int) ≤ (9223372036854775807 : Int)) ∧ (x0.fIn.length ≤ nat_lit 8000 ∧ ∀ (r
 : api_Rule), List.Mem r x0.fIn → ((0 : Int) ≤ r.fPrefix.fAddr ∧ r.fPrefix.fAddr ≤ (4294967295 : Int)) ∧ ((-9223372036854775808 : Int) ≤ r.fPrefix.fLen ∧
 r.fPrefix.fLen ≤ (9223372036854775807 : Int)) ∧ ((-9223372036854775808 : Int) ≤ r.fMin ∧ r.fMin ≤ (9223372036854775807 : Int)) ∧ ((-9223372036854775808 : Int)
 ≤ r.fMax ∧ r.fMax ≤ (9223372036854775807 : Int)) ∧ (-9223372036854775808 : Int) ≤ r.fPref ∧ r.fPref ≤ (9223372036854775807 : Int)) ∧ ([S340 x0.fNum, S340
 x0.fAS, S340 (↑x0.fIn.length : Int)].length = [S340 x0.fNum, S340 x0.fAS, S340 (↑x0.fIn.length : Int)].length ∧ ([S340 x0.fNum, S340 x0.fAS, S340
 (↑x0.fIn.length : Int)].length + (S345 x0.fIn).length) * nat_lit 16 ≤ nat_lit 140737488355328) ∧ ∀ (y : List (ByteArray)), y = [S340 x0.fNum, S340 x0.fAS,
 S340 (↑x0.fIn.length : Int)] ++ S345 x0.fIn → (x0.fOut.length ≤ nat_lit 8000 ∧ ∀ (r : api_Rule), List.Mem r x0.fOut → ((0 : Int) ≤ r.fPrefix.fAddr ∧
 r.fPrefix.fAddr ≤ (4294967295 : Int)) ∧ ((-9223372036854775808 : Int) ≤ r.fPrefix.fLen ∧ r.fPrefix.fLen ≤ (9223372036854775807 : Int)) ∧
 ((-9223372036854775808 : Int) ≤ r.fMin ∧ r.fMin ≤ (9223372036854775807 : Int)) ∧ ((-9223372036854775808 : Int) ≤ r.fMax ∧ r.fMax ≤ (9223372036854775807 :
 Int)) ∧ (-9223372036854775808 : Int) ≤ r.fPref ∧ r.fPref ≤ (9223372036854775807 : Int)) ∧ (y.length = y.length ∧ (y.length + (S345 x0.fOut).length) * nat_lit
 16 ≤ nat_lit 140737488355328) ∧ ∀ (y_1 : List (ByteArray)), y_1 = y ++ S345 x0.fOut → (textsL y_1).length.le (nat_lit 70368744177664) ∧ S314 y_1 = v) := by
 kernel_rfl
end Go.Rx
namespace Go.Rx
open Go.Ab Go.L21
set_option maxRecDepth 100000
set_option maxHeartbeats 20000000
set_option linter.unusedVariables false
/-- interregnum/interregnumref11.Peer -/
noncomputable def C325 : Cfg S := { P := P7, inl := [], K := [(38, ctr P7 [3] [9] (fun x0 => (some (P338 x0), S338 x0))), (17, ctr P7 [22] [9] (fun x0 => (some (P317 x0), S317 x0)))], ann := [(25, [(5, .join [(.sl 3, .own 9)]), (9, .join [(.sl 6, .str)]), (4, .loop [(.sl 3, .own 9), (.sl 5, .int .i64)])])] }
abbrev W325 : CT S [9] [42] := (fun x0 => (some (P325 x0), S325 x0))
abbrev Ok325 : Prop := ConOk P7 25 (ctr P7 [42] [9] W325) ∧ ConMon (ctr P7 [42] [9] W325)
theorem q325 (x0 : api_PeerConf) (v : HR S [9]) : (Xf C325 6 (emp 0) 25 (argsA C325 [⟨42, x0⟩]) (emp 0) (fun r _ => isR C325.P [9] v r) (fun _ _ => False)) =
 (((-9223372036854775808 : Int) ≤ x0.fNum ∧ x0.fNum ≤ (9223372036854775807 : Int)) ∧ ((-9223372036854775808 : Int) ≤ x0.fAS ∧ x0.fAS ≤ (9223372036854775807 :
 Int)) ∧ ((-9223372036854775808 : Int) ≤ (↑x0.fIn.length : Int) ∧ (↑x0.fIn.length : Int) ≤ (9223372036854775807 : Int)) ∧ (nat_lit 0 = nat_lit 0 ∧ (nat_lit 0 +
 x0.fIn.length) * nat_lit 48 ≤ nat_lit 140737488355328) ∧ ∀ (y : List (api_Rule)), y = [] ++ x0.fIn → (y.length = y.length ∧ (y.length + x0.fOut.length) *
 nat_lit 48 ≤ nat_lit 140737488355328) ∧ ∀ (y_1 : List (api_Rule)), y_1 = y ++ x0.fOut → [S338 x0.fNum, S338 x0.fAS, S338 (↑x0.fIn.length : Int)].length =
 [S338 x0.fNum, S338 x0.fAS, S338 (↑x0.fIn.length : Int)].length ∧ LOOP (fun (h : List ByteArray × Int) (J : List ByteArray × Int → Prop) => bif decide (h.snd
 < (↑y_1.length : Int)) then h.fst.length = h.fst.length ∧ JP (fun (h_1 : List ByteArray) => h_1.length = h_1.length ∧ J (h_1, IntKind.i64.wrap (h.snd + (1 :
 Int)))) fun (J : List ByteArray → Prop) => JP (fun (h_1 : ByteArray) => ((0 : Int) ≤ h.snd ∧ h.snd < (↑y_1.length : Int)) ∧ ((0 : Int) ≤ h.snd ∧ h.snd <
 (↑y_1.length : Int)) ∧ ((0 : Int) ≤ h.snd ∧ h.snd < (↑y_1.length : Int)) ∧ ((0 : Int) ≤ h.snd ∧ h.snd < (↑y_1.length : Int)) ∧ ((0 : Int) ≤ h.snd ∧ h.snd <
 (↑y_1.length : Int)) ∧ ((-9223372036854775808 : Int) ≤ IntKind.i64.wrap (ix y_1 h.snd).fPrefix.fAddr ∧ IntKind.i64.wrap (ix y_1 h.snd).fPrefix.fAddr ≤
 (9223372036854775807 : Int)) ∧ ((-9223372036854775808 : Int) ≤ (ix y_1 h.snd).fPrefix.fLen ∧ (ix y_1 h.snd).fPrefix.fLen ≤ (9223372036854775807 : Int)) ∧
 ((-9223372036854775808 : Int) ≤ (ix y_1 h.snd).fMin ∧ (ix y_1 h.snd).fMin ≤ (9223372036854775807 : Int)) ∧ ((-9223372036854775808 : Int) ≤ (ix y_1 h.snd).fMax
 ∧ (ix y_1 h.snd).fMax ≤ (9223372036854775807 : Int)) ∧ ((-9223372036854775808 : Int) ≤ (ix y_1 h.snd).fPref ∧ (ix y_1 h.snd).fPref ≤ (9223372036854775807 :
 Int)) ∧ (h.fst.length = h.fst.length ∧ (h.fst.length + [S338 (IntKind.i64.wrap (ix y_1 h.snd).fPrefix.fAddr), S338 (ix y_1 h.snd).fPrefix.fLen, S338 (ix y_1
 h.snd).fMin, S338 (ix y_1 h.snd).fMax, h_1, S338 (ix y_1 h.snd).fPref].length) * nat_lit 16 ≤ nat_lit 140737488355328) ∧ ∀ (y : List (ByteArray)), y = h.fst
 ++ [S338 (IntKind.i64.wrap (ix y_1 h.snd).fPrefix.fAddr), S338 (ix y_1 h.snd).fPrefix.fLen, S338 (ix y_1 h.snd).fMin, S338 (ix y_1 h.snd).fMax, h_1, S338 (ix
 y_1 h.snd).fPref] → y.length = y.length ∧ J y) fun (J : ByteArray → Prop) => ((0 : Int) ≤ h.snd ∧ h.snd < (↑y_1.length : Int)) ∧ bif (ix y_1 h.snd).fDeny then
 J (ByteArray.mk #[(49 : UInt8)]) else J (ByteArray.mk #[(48 : UInt8)]) else (textsL h.fst).length.le (nat_lit 70368744177664) ∧ S317 h.fst = v) ([S338
 x0.fNum, S338 x0.fAS, S338 (↑x0.fIn.length : Int)], (0 : Int))) := by kernel_rfl
end Go.Rx
namespace Go.Rx
open Go.Ab Go.L21
set_option maxRecDepth 100000
set_option maxHeartbeats 20000000
set_option linter.unusedVariables false
/-- interregnum/interregnumref11.SamePeer -/
noncomputable def C323 : Cfg S := { P := P7, inl := [], K := [(25, ctr P7 [42] [9] (fun x0 => (some (P325 x0), S325 x0)))], ann := [] }
abbrev W323 : CT S [4] [42, 42] := (fun x0 x1 => (some (P323 x0 x1), S323 x0 x1))
abbrev Ok323 : Prop := ConOk P7 23 (ctr P7 [42, 42] [4] W323) ∧ ConMon (ctr P7 [42, 42] [4] W323)
theorem q323 (x0 : api_PeerConf) (x1 : api_PeerConf) (v : HR S [4]) : (Xf C323 6 (emp 0) 23 (argsA C323 [⟨42, x0⟩, ⟨42, x1⟩]) (emp 0) (fun r _ => isR C323.P
 [4] v r) (fun _ _ => False)) = (bif decide ((↑x0.fIn.length : Int) = (↑x1.fIn.length : Int)) then OkP x0 ∧ OkP x1 ∧ ((S325 x0).toList == (S325 x1).toList) = v
 else false = v) := by kernel_rfl
end Go.Rx
/-! A peer as text. -/
namespace Go.Rx
open Go.Ab Go.L21
set_option linter.unusedVariables false
set_option maxRecDepth 100000
theorem JP.of {ι : Type} {rest : ι → Prop} {body : (ι → Prop) → Prop} (I : ι → Prop) (hb : ∀ J : ι → Prop, (∀ y, I y → J y) → body J) (hr : ∀ y, I y → rest y) : JP rest body := ⟨hb rest hr⟩
theorem ixR {l : List api_Rule} {k : Nat} {y : api_Rule} (h : l[k]? = some y) : ix l (k : Int) = y := by
  unfold ix
  rw [Int.toNat_natCast, List.getD_eq_getElem?_getD, h]; rfl
theorem rules_take {l : List api_Rule} {k : Nat} {y : api_Rule} (h : l[k]? = some y) : rulesL (l.take (k + 1)) = rulesL (l.take k) ++ ruleL y := by
  rw [List.take_add_one, h]; simp [rulesL]
theorem rules_len (l : List api_Rule) : (rulesL l).length = 6 * l.length := by
  induction l with
  | nil => rfl
  | cons x r ih =>
    have e : rulesL (x :: r) = ruleL x ++ rulesL r := rfl
    rw [e, List.length_append, ih, List.length_cons]
    show 6 + 6 * r.length = _
    omega
theorem rules_app (a b : List api_Rule) : rulesL (a ++ b) = rulesL a ++ rulesL b := List.flatMap_append
theorem run345 : RunC C345 6 45 [22] [40] W345 [] := by
  intro (l : List api_Rule) hx hp
  obtain ⟨h1, h2⟩ : P345 l := hp _ rfl
  refine of_eq (q345 l _) ?_
  refine LOOP.of (fun y => ∃ k : Nat, y = (rulesL (l.take k), (k : Int)) ∧ k ≤ l.length) (fun y => l.length - y.2.toNat) ⟨0, rfl, by omega⟩ ?_
  rintro _ ⟨k, rfl, hk⟩ J hJ
  dsimp only
  refine bif_of (fun hc => ?_) (fun hc => ?_)
  · have hc := of_decide_eq_true hc
    have hkl : k < l.length := by omega
    have hy : l[k]? = some l[k] := List.getElem?_eq_getElem hkl
    obtain ⟨r1, r2, r3, r4, r5⟩ := h2 _ (List.getElem_mem hkl)
    generalize l[k] = y at hy r1 r2 r3 r4 r5
    rw [ixR hy]
    have ht := rules_take hy
    have hl : (rulesL (l.take k)).length = 6 * k := by rw [rules_len, List.length_take]; omega
    refine ⟨rfl, JP.of (fun z => z = rulesL (l.take (k + 1))) (fun J1 hJ1 => ⟨⟨by omega, hc⟩, ?_⟩) ?_⟩
    · refine JP.of (fun z => z = b2 y.fDeny) (fun J2 hJ2 => bif_of (fun h => hJ2 _ ?_) (fun h => hJ2 _ ?_)) ?_
      · rw [h]; rfl
      · rw [h]; rfl
      · rintro z hz
        refine ⟨r1, r2, r3, r4, r5, ⟨rfl, ?_⟩, fun w hw => ⟨rfl, hJ1 _ ?_⟩⟩
        · show (_ + 6) * 16 ≤ 140737488355328
          omega
        · rw [hw, hz, ht]; rfl
    · rintro z hz
      refine ⟨rfl, hJ _ ⟨k + 1, ?_, by omega⟩ ?_⟩
      · rw [hz, wrap64 (by omega)]; rfl
      · show l.length - (IntKind.i64.wrap ((k : Int) + 1)).toNat < l.length - ((k : Nat) : Int).toNat
        rw [wrap64 (by omega)]; omega
  · have hc := of_decide_eq_false hc
    have : k = l.length := by omega
    rw [this, List.take_length]
    rfl
theorem ok345 : Ok345 := by
  refine con_ok (C := C345) ?_ mx7 (by kernel_rfl) run345
  exact kok_cons ok339 (kok_cons ok340 kok_nil)
theorem b2_len (b : Bool) : (textL (b2 b)).length ≤ 43 := by
  cases b
  · show (textL ⟨#[48]⟩).length ≤ 43
    have := itoa_len (n := (1 : Int)) ⟨by omega, by omega⟩
    rw [textL, List.length_append, List.length_cons]
    show (Lib.itoa 1).length + 2 ≤ 43
    omega
  · show (textL ⟨#[49]⟩).length ≤ 43
    have := itoa_len (n := (1 : Int)) ⟨by omega, by omega⟩
    rw [textL, List.length_append, List.length_cons]
    show (Lib.itoa 1).length + 2 ≤ 43
    omega
theorem texts_app (a b : List ByteArray) : textsL (a ++ b) = textsL a ++ textsL b := List.flatMap_append
theorem rules_texts (l : List api_Rule) (h : ∀ r ∈ l, okRule r) : (textsL (rulesL l)).length ≤ 258 * l.length := by
  induction l with
  | nil => exact Nat.zero_le _
  | cons x r ih =>
    have e : rulesL (x :: r) = ruleL x ++ rulesL r := rfl
    have := ih fun y hy => h y (List.mem_cons_of_mem _ hy)
    obtain ⟨h1, h2, h3, h4, h5⟩ := h x List.mem_cons_self
    have h1 := text_len (p333 h1)
    have h2 := text_len h2
    have h3 := text_len h3
    have h4 := text_len h4
    have h5 := text_len h5
    have h6 := b2_len x.fDeny
    rw [e, texts_app, List.length_append, List.length_cons]
    have : (textsL (ruleL x)).length ≤ 258 := by
      simp only [textsL, ruleL, List.flatMap_cons, List.flatMap_nil, List.length_append, List.length_nil]
      omega
    omega
theorem peer_len {p : api_PeerConf} (h : okPeer p) : (textsL (peerL p)).length ≤ 6000000 := by
  obtain ⟨h1, h2, h3, h4, h5, h6⟩ := h
  have a1 := text_len h1
  have a2 := text_len h2
  have a3 := text_len (n := (p.fIn.length : Int)) ⟨by omega, by omega⟩
  have a4 := rules_texts _ h5
  have a5 := rules_texts _ h6
  unfold peerL
  rw [texts_app, texts_app, List.length_append, List.length_append]
  have : (textsL [S333 p.fNum, S333 p.fAS, S333 p.fIn.length]).length ≤ 129 := by
    simp only [textsL, List.flatMap_cons, List.flatMap_nil, List.length_append, List.length_nil]
    omega
  omega
theorem run322 : RunC C322 6 22 [9] [42] W322 [] := by
  intro (p : api_PeerConf) hx hp
  obtain ⟨hp⟩ : OkP p := hp _ rfl
  have hl := peer_len hp
  obtain ⟨h1, h2, h3, h4, h5, h6⟩ := hp
  have l1 : (S345 p.fIn).length = 6 * p.fIn.length := rules_len _
  have l2 : (S345 p.fOut).length = 6 * p.fOut.length := rules_len _
  refine of_eq (q322 p _) ⟨h1, h2, ⟨by omega, by omega⟩, ⟨h3, h5⟩, ⟨rfl, ?_⟩, fun y hy => ⟨⟨h4, h6⟩, ⟨rfl, ?_⟩, fun z hz => ?_⟩⟩
  · show (3 + _) * 16 ≤ 140737488355328
    omega
  · have : y.length = 3 + 6 * p.fIn.length := by rw [hy, List.length_append, l1]; rfl
    show (_ + _) * 16 ≤ 140737488355328
    omega
  · have e : z = peerL p := by rw [hz, hy]; rfl
    subst e
    refine ⟨?_, rfl⟩
    show _ ≤ 70368744177664
    omega
theorem ok322 : Ok322 := by
  refine con_ok (C := C322) ?_ mx7 (by kernel_rfl) run322
  exact kok_cons ok314 (kok_cons ok340 (kok_cons ok345 kok_nil))
theorem run325 : RunC C325 6 25 [9] [42] W325 [] := by
  intro (p : api_PeerConf) hx hp
  obtain ⟨hp⟩ : OkP p := hp _ rfl
  have hpl := peer_len hp
  obtain ⟨h1, h2, h3, h4, h5, h6⟩ := hp
  refine of_eq (q325 p _) ⟨h1, h2, ⟨by omega, by omega⟩, ⟨rfl, by show (0 + _) * 48 ≤ 140737488355328; omega⟩, fun y hy => ?_⟩
  have hy : y = p.fIn := hy
  subst hy
  refine ⟨⟨rfl, by show (_ + _) * 48 ≤ 140737488355328; omega⟩, fun l hl => ⟨rfl, ?_⟩⟩
  have hll : l.length ≤ 16000 := by rw [hl, List.length_append]; omega
  have hlo : ∀ r ∈ l, okRule r := fun r hr => by
    rw [hl] at hr
    exact (List.mem_append.1 hr).elim (h5 r) (h6 r)
  refine LOOP.of (fun y => ∃ k : Nat, y = ([S333 p.fNum, S333 p.fAS, S333 p.fIn.length] ++ rulesL (l.take k), (k : Int)) ∧ k ≤ l.length) (fun y => l.length - y.2.toNat) ⟨0, rfl, by omega⟩ ?_
  rintro _ ⟨k, rfl, hk⟩ J hJ
  dsimp only
  refine bif_of (fun hc => ?_) (fun hc => ?_)
  · have hc := of_decide_eq_true hc
    have hkl : k < l.length := by omega
    have hy : l[k]? = some l[k] := List.getElem?_eq_getElem hkl
    obtain ⟨r1, r2, r3, r4, r5⟩ := hlo _ (List.getElem_mem hkl)
    generalize l[k] = y at hy r1 r2 r3 r4 r5
    rw [ixR hy, wrap64 (n := y.fPrefix.fAddr) (by omega)]
    have ht := rules_take hy
    have hl : (rulesL (l.take k)).length = 6 * k := by rw [rules_len, List.length_take]; omega
    have hb : (0 : Int) ≤ (k : Int) ∧ (k : Int) < (l.length : Int) := ⟨by omega, hc⟩
    refine ⟨rfl, JP.of (fun z => z = [S333 p.fNum, S333 p.fAS, S333 p.fIn.length] ++ rulesL (l.take (k + 1))) (fun J1 hJ1 => ?_) ?_⟩
    · refine JP.of (fun z => z = b2 y.fDeny) (fun J2 hJ2 => ⟨hb, bif_of (fun h => hJ2 _ ?_) (fun h => hJ2 _ ?_)⟩) ?_
      · rw [h]; rfl
      · rw [h]; rfl
      · rintro z hz
        refine ⟨hb, hb, hb, hb, hb, p333 r1, r2, r3, r4, r5, ⟨rfl, ?_⟩, fun w hw => ⟨rfl, hJ1 _ ?_⟩⟩
        · rw [List.length_append, hl]
          show (3 + 6 * k + 6) * 16 ≤ 140737488355328
          omega
        · rw [hw, hz, ht, ← List.append_assoc]; rfl
    · rintro z hz
      refine ⟨rfl, hJ _ ⟨k + 1, ?_, by omega⟩ ?_⟩
      · rw [hz, wrap64 (by omega)]; rfl
      · show l.length - (IntKind.i64.wrap ((k : Int) + 1)).toNat < l.length - ((k : Nat) : Int).toNat
        rw [wrap64 (by omega)]; omega
  · have hc := of_decide_eq_false hc
    have : k = l.length := by omega
    have e : [S333 p.fNum, S333 p.fAS, S333 p.fIn.length] ++ rulesL (l.take k) = peerL p := by
      rw [this, List.take_length, hl, rules_app, ← List.append_assoc]; rfl
    rw [e]
    refine ⟨?_, rfl⟩
    show _ ≤ 70368744177664
    omega
theorem ok325 : Ok325 := by
  refine con_ok (C := C325) ?_ mx7 (by kernel_rfl) run325
  exact kok_cons ok338 (kok_cons ok317 kok_nil)
theorem run323 : RunC C323 6 23 [4] [42, 42] W323 [] := by
  intro (p : api_PeerConf) hx (q : api_PeerConf) hy hp
  obtain ⟨hp, hq⟩ : OkP p ∧ OkP q := hp _ rfl
  refine of_eq (q323 p q _) (bif_of (fun hc => ⟨hp, hq, ?_⟩) (fun hc => ?_))
  · have hc : p.fIn.length = q.fIn.length := by have := of_decide_eq_true hc; omega
    show _ = S323 p q
    unfold S323
    rw [decide_eq_true hc, Bool.true_and]
  · have hc : ¬ p.fIn.length = q.fIn.length := by have := of_decide_eq_false hc; omega
    show _ = S323 p q
    unfold S323
    rw [decide_eq_false hc, Bool.false_and]
theorem ok323 : Ok323 := by
  refine con_ok (C := C323) ?_ mx7 (by kernel_rfl) run323
  exact kok_cons ok325 kok_nil
end Go.Rx
namespace Go.Rx
open Go.Ab Go.L21
set_option maxRecDepth 100000
set_option maxHeartbeats 20000000
set_option linter.unusedVariables false
noncomputable def C349 (k : Nat) : Cfg S := { P := P7, inl := [], K := [(49, ctr P7 [59] [9] (fun x0 => (some (DB k x0), S349 x0)))], ann := [] }
abbrev WE (k : Nat) : CT S [9] [59] := (fun x0 => (some (DB k x0), S349 x0))
abbrev OkE (k : Nat) : Prop := ConOk P7 49 (ctr P7 [59] [9] (WE k)) ∧ ConMon (ctr P7 [59] [9] (WE k))
theorem q349 (k : Nat) (x0 : Int) (v : HR S [9]) : (Xf (C349 k) 6 (emp 0) 49 (argsA (C349 k) [⟨59, x0⟩]) (emp 0) (fun r _ => isR (C349 k).P [9] v r) (fun _ _
 => False)) = (bif decide (x0 < (10 : Int)) then bsOf (List.map (fun (x : Int) => x) [IntKind.u8.wrap ((48 : Int) + IntKind.u8.wrap x0)]) = v else DB k
 (IntKind.u64.wrap (x0.tdiv (10 : Int))) ∧ (S349 (IntKind.u64.wrap (x0.tdiv (10 : Int)))).size + (bsOf (List.map (fun (x : Int) => x) [IntKind.u8.wrap ((48 :
 Int) + IntKind.u8.wrap (x0.tmod (10 : Int)))])).size ≤ nat_lit 9223372036854775807 ∧ S349 (IntKind.u64.wrap (x0.tdiv (10 : Int))) ++ bsOf (List.map (fun (x :
 Int) => x) [IntKind.u8.wrap ((48 : Int) + IntKind.u8.wrap (x0.tmod (10 : Int)))]) = v) := by kernel_rfl
end Go.Rx
namespace Go.Rx
open Go.Ab Go.L21
set_option maxRecDepth 100000
set_option maxHeartbeats 20000000
set_option linter.unusedVariables false
/-- interregnum/script.line -/
noncomputable def C347 : Cfg S := { P := P7, inl := [], K := [(33, ctr P7 [3] [9] (fun x0 => (some (P333 x0), S333 x0))), (56, ctr P7 [59, 3] [9] (fun x0 x1 => (some (P356 x0 x1), S356 x0 x1))), (22, ctr P7 [42] [9] (fun x0 => (some (P322 x0), S322 x0))), (59, ctr P7 [9] [9] (fun x0 => (some (P359 x0), S359 x0))), (60, ctr P7 [22, 9] [9] (fun x0 x1 => (some (P360 x0 x1), S360 x0 x1)))], ann := [] }
abbrev W347 : CT S [9] [61] := (fun x0 => (some (P347 x0), S347 x0))
abbrev Ok347 : Prop := ConOk P7 47 (ctr P7 [61] [9] W347) ∧ ConMon (ctr P7 [61] [9] W347)
theorem q347 (x0 : api_Step) (v : HR S [9]) : (Xf C347 6 (emp 0) 47 (argsA C347 [⟨61, x0⟩]) (emp 0) (fun r _ => isR C347.P [9] v r) (fun _ _ => False)) =
 (((-9223372036854775808 : Int) ≤ x0.fKind ∧ x0.fKind ≤ (9223372036854775807 : Int)) ∧ ((-9223372036854775808 : Int) ≤ x0.fA ∧ x0.fA ≤ (9223372036854775807 :
 Int)) ∧ ((-9223372036854775808 : Int) ≤ x0.fB ∧ x0.fB ≤ (9223372036854775807 : Int)) ∧ ((10 : Int) = (10 : Int) ∧ (0 : Int) ≤ x0.fKeep ∧ x0.fKeep <
 (18446744073709551616 : Int)) ∧ ((10 : Int) = (10 : Int) ∧ (0 : Int) ≤ IntKind.u64.wrap x0.fPrefix.fAddr ∧ IntKind.u64.wrap x0.fPrefix.fAddr <
 (18446744073709551616 : Int)) ∧ ((-9223372036854775808 : Int) ≤ x0.fPrefix.fLen ∧ x0.fPrefix.fLen ≤ (9223372036854775807 : Int)) ∧ ((10 : Int) = (10 : Int) ∧
 (0 : Int) ≤ IntKind.u64.wrap x0.fNext ∧ IntKind.u64.wrap x0.fNext < (18446744073709551616 : Int)) ∧ (bsOf (List.map (fun (x : Int) => x) x0.fData)).size.le
 (nat_lit 1099511627776) ∧ OkP x0.fPeer ∧ (S322 x0.fPeer).size.le (nat_lit 1099511627776) ∧ ([S333 x0.fKind, S333 x0.fA, S333 x0.fB, S356 x0.fKeep (10 : Int),
 S356 (IntKind.u64.wrap x0.fPrefix.fAddr) (10 : Int), S333 x0.fPrefix.fLen, S356 (IntKind.u64.wrap x0.fNext) (10 : Int), S359 (bsOf (List.map (fun (x : Int) =>
 x) x0.fData)), S359 (S322 x0.fPeer)].length ≤ nat_lit 140737488355328 ∧ (joinS [S333 x0.fKind, S333 x0.fA, S333 x0.fB, S356 x0.fKeep (10 : Int), S356
 (IntKind.u64.wrap x0.fPrefix.fAddr) (10 : Int), S333 x0.fPrefix.fLen, S356 (IntKind.u64.wrap x0.fNext) (10 : Int), S359 (bsOf (List.map (fun (x : Int) => x)
 x0.fData)), S359 (S322 x0.fPeer)] (ByteArray.mk #[(32 : UInt8)])).length ≤ nat_lit 140737488355328) ∧ (S360 [S333 x0.fKind, S333 x0.fA, S333 x0.fB, S356
 x0.fKeep (10 : Int), S356 (IntKind.u64.wrap x0.fPrefix.fAddr) (10 : Int), S333 x0.fPrefix.fLen, S356 (IntKind.u64.wrap x0.fNext) (10 : Int), S359 (bsOf
 (List.map (fun (x : Int) => x) x0.fData)), S359 (S322 x0.fPeer)] (ByteArray.mk #[(32 : UInt8)])).size + nat_lit 1 ≤ nat_lit 9223372036854775807 ∧ S360 [S333
 x0.fKind, S333 x0.fA, S333 x0.fB, S356 x0.fKeep (10 : Int), S356 (IntKind.u64.wrap x0.fPrefix.fAddr) (10 : Int), S333 x0.fPrefix.fLen, S356 (IntKind.u64.wrap
 x0.fNext) (10 : Int), S359 (bsOf (List.map (fun (x : Int) => x) x0.fData)), S359 (S322 x0.fPeer)] (ByteArray.mk #[(32 : UInt8)]) ++ ByteArray.mk #[(10 :
 UInt8)] = v) := by kernel_rfl
end Go.Rx
