/-
  NARROWER THAN 'FOR EVERY INPUT', by the rows' own cells (each row's printed sentence says how): AttrBack: laid · AttrReads: laid · AttrSame: laid · AttrOrder: laid · AttrMissing: laid · AttrFlags: laid · AttrUnknown: laid.
  DERIVED. THE GIVEN ROWS OF THIS SEAT. 7 by the template 'for every input the law returns true; each argument reads behind the call as it read before'; 0 by the template 'total and deterministic' (their statements: YtkmmnfcjbalboaaDoorTotals.lean).
  GIVEN WITH THE SEED: the statements are not yours to turn. If you find one false, say at which input.
  Laid BY PROGRAM, IN A SANDBOX (cutbox-rows.mjs): the forced cells as the released guide's own fill.sh prints them over the translation 3305827343b66a81… (all of the seat's roots in one cut). By AI agents, Wed Nov 11 2026. No macro, syntax, notation, axiom, sorry.
-/
import Derived.Test.YtkmmnfcjbalboaaDoorChecked
import GoSem.Claim
import GoSem.ClaimJoined
import GoSem.ClaimMapViews
import Derived.JoinedTies
import Derived.KernelRfl
namespace Go.Proofs.YtkmmnfcjbalboaaDoor
/- THE CELL 'sum', in the pinned program and in every row, IS THE sha256 OF THE DUMP (.gsa) THAT YtkmmnfcjbalboaaDoorProg.lean LOADS. Nothing in Lean hashes anything: it is a label: what it is worth is what the hold of that sum in a sandbox is worth. -/
noncomputable def Tryd.pinned : Pinned := { name := "ytkmmnfcjbalboaadoor", sum := "3305827343b66a81284f72fed29b620d6cb94594509bc1dbe419e7fa1c4e2dfe", checked := Tryd.checked }
namespace Rows
def none {H : Type} : Left H := { results := [], args := [] }

/- WHAT THE LISTED PACKAGE-LEVEL VARIABLES READ AS WHEN THE CALL BEGINS. Each datum BY PROGRAM (the guide's laid-datum.mjs) off the statement by which the dump's own 'gosem.cut.vars' lays the variable. In a bare row this is a premise. The card (YtkmmnfcjbalboaaDoorCards.lean) ties it to the program's text. -/
def laid_interregnum_attr_kinds {H : Type} : DataW H := .agg [.agg [.lit (.int .i64 0), .lit (.int .i64 0)], .agg [.lit (.int .i64 64), .lit (.int .i64 1)], .agg [.lit (.int .i64 64), .lit (.int .i64 (-1))], .agg [.lit (.int .i64 64), .lit (.int .i64 4)], .agg [.lit (.int .i64 128), .lit (.int .i64 4)], .agg [.lit (.int .i64 64), .lit (.int .i64 4)], .agg [.lit (.int .i64 64), .lit (.int .i64 0)], .agg [.lit (.int .i64 192), .lit (.int .i64 8)], .agg [.lit (.int .i64 192), .lit (.int .i64 (-1))]]

/-- 'interregnumlaw07.AttrBack': WHATEVER THE INPUT: true; the input reads as it did. -/
def attrBackSpec : ChangeSpec := { name := "attrBack", fn := fun _ => fun
  | [d] => { results := [.lit (.bool true)], args := [d] }
  | _ => none }
def attrBackRow : OpenClaim := { program := "ytkmmnfcjbalboaadoor", sum := "3305827343b66a81284f72fed29b620d6cb94594509bc1dbe419e7fa1c4e2dfe", func := "interregnum/interregnumlaw07.AttrBack", spec := "attrBack", unfollowed := true, recurses := true, named := ["interregnum/attr.kinds"], apart := false, laid := [("interregnum/attr.kinds", laid_interregnum_attr_kinds)] }
def AttrBackSaid : Prop := attrBackRow.holds Tryd.pinned (OpenSpec.ofChange attrBackSpec)

/-- ITS FALSE NEIGHBOUR: 'it returns false'. Refute it at one input. -/
def attrBackWrong : ChangeSpec := { name := "attrBack", fn := fun _ => fun
  | [d] => { results := [.lit (.bool false)], args := [d] }
  | _ => none }
def AttrBackWrongFalsely : Prop := attrBackRow.holds Tryd.pinned (OpenSpec.ofChange attrBackWrong)

/-- 'interregnumlaw07.AttrReads': WHATEVER THE INPUT: true; the input reads as it did. -/
def attrReadsSpec : ChangeSpec := { name := "attrReads", fn := fun _ => fun
  | [d] => { results := [.lit (.bool true)], args := [d] }
  | _ => none }
def attrReadsRow : OpenClaim := { program := "ytkmmnfcjbalboaadoor", sum := "3305827343b66a81284f72fed29b620d6cb94594509bc1dbe419e7fa1c4e2dfe", func := "interregnum/interregnumlaw07.AttrReads", spec := "attrReads", unfollowed := true, recurses := true, named := ["interregnum/attr.kinds"], apart := false, laid := [("interregnum/attr.kinds", laid_interregnum_attr_kinds)] }
def AttrReadsSaid : Prop := attrReadsRow.holds Tryd.pinned (OpenSpec.ofChange attrReadsSpec)

/-- ITS FALSE NEIGHBOUR: 'it returns false'. Refute it at one input. -/
def attrReadsWrong : ChangeSpec := { name := "attrReads", fn := fun _ => fun
  | [d] => { results := [.lit (.bool false)], args := [d] }
  | _ => none }
def AttrReadsWrongFalsely : Prop := attrReadsRow.holds Tryd.pinned (OpenSpec.ofChange attrReadsWrong)

/-- 'interregnumlaw07.AttrSame': WHATEVER THE INPUT: true; the input reads as it did. -/
def attrSameSpec : ChangeSpec := { name := "attrSame", fn := fun _ => fun
  | [d1, d2] => { results := [.lit (.bool true)], args := [d1, d2] }
  | _ => none }
def attrSameRow : OpenClaim := { program := "ytkmmnfcjbalboaadoor", sum := "3305827343b66a81284f72fed29b620d6cb94594509bc1dbe419e7fa1c4e2dfe", func := "interregnum/interregnumlaw07.AttrSame", spec := "attrSame", unfollowed := true, recurses := true, named := ["interregnum/attr.kinds"], apart := false, laid := [("interregnum/attr.kinds", laid_interregnum_attr_kinds)] }
def AttrSameSaid : Prop := attrSameRow.holds Tryd.pinned (OpenSpec.ofChange attrSameSpec)

/-- ITS FALSE NEIGHBOUR: 'it returns false'. Refute it at one input. -/
def attrSameWrong : ChangeSpec := { name := "attrSame", fn := fun _ => fun
  | [d1, d2] => { results := [.lit (.bool false)], args := [d1, d2] }
  | _ => none }
def AttrSameWrongFalsely : Prop := attrSameRow.holds Tryd.pinned (OpenSpec.ofChange attrSameWrong)

/-- 'interregnumlaw07.AttrOrder': WHATEVER THE INPUT: true; the input reads as it did. -/
def attrOrderSpec : ChangeSpec := { name := "attrOrder", fn := fun _ => fun
  | [d1, d2] => { results := [.lit (.bool true)], args := [d1, d2] }
  | _ => none }
def attrOrderRow : OpenClaim := { program := "ytkmmnfcjbalboaadoor", sum := "3305827343b66a81284f72fed29b620d6cb94594509bc1dbe419e7fa1c4e2dfe", func := "interregnum/interregnumlaw07.AttrOrder", spec := "attrOrder", unfollowed := true, recurses := true, named := ["interregnum/attr.kinds"], apart := false, laid := [("interregnum/attr.kinds", laid_interregnum_attr_kinds)] }
def AttrOrderSaid : Prop := attrOrderRow.holds Tryd.pinned (OpenSpec.ofChange attrOrderSpec)

/-- ITS FALSE NEIGHBOUR: 'it returns false'. Refute it at one input. -/
def attrOrderWrong : ChangeSpec := { name := "attrOrder", fn := fun _ => fun
  | [d1, d2] => { results := [.lit (.bool false)], args := [d1, d2] }
  | _ => none }
def AttrOrderWrongFalsely : Prop := attrOrderRow.holds Tryd.pinned (OpenSpec.ofChange attrOrderWrong)

/-- 'interregnumlaw07.AttrMissing': WHATEVER THE INPUT: true; the input reads as it did. -/
def attrMissingSpec : ChangeSpec := { name := "attrMissing", fn := fun _ => fun
  | [d1, d2] => { results := [.lit (.bool true)], args := [d1, d2] }
  | _ => none }
def attrMissingRow : OpenClaim := { program := "ytkmmnfcjbalboaadoor", sum := "3305827343b66a81284f72fed29b620d6cb94594509bc1dbe419e7fa1c4e2dfe", func := "interregnum/interregnumlaw07.AttrMissing", spec := "attrMissing", unfollowed := true, recurses := true, named := ["interregnum/attr.kinds"], apart := false, laid := [("interregnum/attr.kinds", laid_interregnum_attr_kinds)] }
def AttrMissingSaid : Prop := attrMissingRow.holds Tryd.pinned (OpenSpec.ofChange attrMissingSpec)

/-- ITS FALSE NEIGHBOUR: 'it returns false'. Refute it at one input. -/
def attrMissingWrong : ChangeSpec := { name := "attrMissing", fn := fun _ => fun
  | [d1, d2] => { results := [.lit (.bool false)], args := [d1, d2] }
  | _ => none }
def AttrMissingWrongFalsely : Prop := attrMissingRow.holds Tryd.pinned (OpenSpec.ofChange attrMissingWrong)

/-- 'interregnumlaw07.AttrFlags': WHATEVER THE INPUT: true; the input reads as it did. -/
def attrFlagsSpec : ChangeSpec := { name := "attrFlags", fn := fun _ => fun
  | [d1, d2, d3] => { results := [.lit (.bool true)], args := [d1, d2, d3] }
  | _ => none }
def attrFlagsRow : OpenClaim := { program := "ytkmmnfcjbalboaadoor", sum := "3305827343b66a81284f72fed29b620d6cb94594509bc1dbe419e7fa1c4e2dfe", func := "interregnum/interregnumlaw07.AttrFlags", spec := "attrFlags", unfollowed := true, recurses := true, named := ["interregnum/attr.kinds"], apart := false, laid := [("interregnum/attr.kinds", laid_interregnum_attr_kinds)] }
def AttrFlagsSaid : Prop := attrFlagsRow.holds Tryd.pinned (OpenSpec.ofChange attrFlagsSpec)

/-- ITS FALSE NEIGHBOUR: 'it returns false'. Refute it at one input. -/
def attrFlagsWrong : ChangeSpec := { name := "attrFlags", fn := fun _ => fun
  | [d1, d2, d3] => { results := [.lit (.bool false)], args := [d1, d2, d3] }
  | _ => none }
def AttrFlagsWrongFalsely : Prop := attrFlagsRow.holds Tryd.pinned (OpenSpec.ofChange attrFlagsWrong)

/-- 'interregnumlaw07.AttrUnknown': WHATEVER THE INPUT: true; the input reads as it did. -/
def attrUnknownSpec : ChangeSpec := { name := "attrUnknown", fn := fun _ => fun
  | [d1, d2, d3, d4] => { results := [.lit (.bool true)], args := [d1, d2, d3, d4] }
  | _ => none }
def attrUnknownRow : OpenClaim := { program := "ytkmmnfcjbalboaadoor", sum := "3305827343b66a81284f72fed29b620d6cb94594509bc1dbe419e7fa1c4e2dfe", func := "interregnum/interregnumlaw07.AttrUnknown", spec := "attrUnknown", unfollowed := true, recurses := true, named := ["interregnum/attr.kinds"], apart := false, laid := [("interregnum/attr.kinds", laid_interregnum_attr_kinds)] }
def AttrUnknownSaid : Prop := attrUnknownRow.holds Tryd.pinned (OpenSpec.ofChange attrUnknownSpec)

/-- ITS FALSE NEIGHBOUR: 'it returns false'. Refute it at one input. -/
def attrUnknownWrong : ChangeSpec := { name := "attrUnknown", fn := fun _ => fun
  | [d1, d2, d3, d4] => { results := [.lit (.bool false)], args := [d1, d2, d3, d4] }
  | _ => none }
def AttrUnknownWrongFalsely : Prop := attrUnknownRow.holds Tryd.pinned (OpenSpec.ofChange attrUnknownWrong)

/- THE SECOND FORM. 'bulk': how many values and letters a reading holds, each counted each time it is reached (what is shared counts as often as it is met; a slice's spare places count too). A statement '..UptoSaid' is the law's where the arguments, and the package variables that the reading takes, are together of bulk at most 1048576: NARROWER than '..Said'. Prove '..Said' where nothing that the law and all that it calls make is longer than what came in: it says more and counts as full. Else prove '..UptoSaid'. A law counts once. -/
mutual
def uptoBulk {H : Type} : DataW H → Nat
  | .lit (.string bytes) => bytes.length + 1
  | .lit _ => 1
  | .nil => 1
  | .ptr d => uptoBulk d + 1
  | .slice elems spare => uptoBulkAll elems + uptoBulkAll spare + 1
  | .agg parts => uptoBulkAll parts + 1
  | .iface _ d => uptoBulk d + 1
  | .map entries => uptoBulkEntries entries + 1
  | .held _ => 1
def uptoBulkAll {H : Type} : List (DataW H) → Nat
  | [] => 0
  | d :: r => uptoBulk d + uptoBulkAll r
def uptoBulkEntries {H : Type} : List (Lit × DataW H) → Nat
  | [] => 0
  | x :: r => uptoBulkEntry x + uptoBulkEntries r
def uptoBulkEntry {H : Type} : Lit × DataW H → Nat
  | (.string bytes, d) => bytes.length + uptoBulk d + 1
  | (_, d) => uptoBulk d + 1
 end
def uptoSmall : (H : Type) → List (DataW H) → Bool := fun _ ds => decide (uptoBulkAll ds ≤ 1048576)
def OpenSpec.upto (s : _root_.Go.ChangeSpec) : _root_.Go.OpenSpec := { _root_.Go.OpenSpec.ofChange s with cond := some uptoSmall }

/-- 'interregnumlaw07.AttrBack', WHERE WHAT IT READS IS OF BULK AT MOST 1048576: true; the input reads as it did. -/
def attrBackUptoRow : OpenClaim := { program := "ytkmmnfcjbalboaadoor", sum := "3305827343b66a81284f72fed29b620d6cb94594509bc1dbe419e7fa1c4e2dfe", func := "interregnum/interregnumlaw07.AttrBack", spec := "attrBack", unfollowed := true, recurses := true, named := ["interregnum/attr.kinds"], apart := false, laid := [("interregnum/attr.kinds", laid_interregnum_attr_kinds)], narrowed := true }
def AttrBackUptoSaid : Prop := attrBackUptoRow.holds Tryd.pinned (OpenSpec.upto attrBackSpec)

/-- 'interregnumlaw07.AttrReads', WHERE WHAT IT READS IS OF BULK AT MOST 1048576: true; the input reads as it did. -/
def attrReadsUptoRow : OpenClaim := { program := "ytkmmnfcjbalboaadoor", sum := "3305827343b66a81284f72fed29b620d6cb94594509bc1dbe419e7fa1c4e2dfe", func := "interregnum/interregnumlaw07.AttrReads", spec := "attrReads", unfollowed := true, recurses := true, named := ["interregnum/attr.kinds"], apart := false, laid := [("interregnum/attr.kinds", laid_interregnum_attr_kinds)], narrowed := true }
def AttrReadsUptoSaid : Prop := attrReadsUptoRow.holds Tryd.pinned (OpenSpec.upto attrReadsSpec)

/-- 'interregnumlaw07.AttrSame', WHERE WHAT IT READS IS OF BULK AT MOST 1048576: true; the input reads as it did. -/
def attrSameUptoRow : OpenClaim := { program := "ytkmmnfcjbalboaadoor", sum := "3305827343b66a81284f72fed29b620d6cb94594509bc1dbe419e7fa1c4e2dfe", func := "interregnum/interregnumlaw07.AttrSame", spec := "attrSame", unfollowed := true, recurses := true, named := ["interregnum/attr.kinds"], apart := false, laid := [("interregnum/attr.kinds", laid_interregnum_attr_kinds)], narrowed := true }
def AttrSameUptoSaid : Prop := attrSameUptoRow.holds Tryd.pinned (OpenSpec.upto attrSameSpec)

/-- 'interregnumlaw07.AttrOrder', WHERE WHAT IT READS IS OF BULK AT MOST 1048576: true; the input reads as it did. -/
def attrOrderUptoRow : OpenClaim := { program := "ytkmmnfcjbalboaadoor", sum := "3305827343b66a81284f72fed29b620d6cb94594509bc1dbe419e7fa1c4e2dfe", func := "interregnum/interregnumlaw07.AttrOrder", spec := "attrOrder", unfollowed := true, recurses := true, named := ["interregnum/attr.kinds"], apart := false, laid := [("interregnum/attr.kinds", laid_interregnum_attr_kinds)], narrowed := true }
def AttrOrderUptoSaid : Prop := attrOrderUptoRow.holds Tryd.pinned (OpenSpec.upto attrOrderSpec)

/-- 'interregnumlaw07.AttrMissing', WHERE WHAT IT READS IS OF BULK AT MOST 1048576: true; the input reads as it did. -/
def attrMissingUptoRow : OpenClaim := { program := "ytkmmnfcjbalboaadoor", sum := "3305827343b66a81284f72fed29b620d6cb94594509bc1dbe419e7fa1c4e2dfe", func := "interregnum/interregnumlaw07.AttrMissing", spec := "attrMissing", unfollowed := true, recurses := true, named := ["interregnum/attr.kinds"], apart := false, laid := [("interregnum/attr.kinds", laid_interregnum_attr_kinds)], narrowed := true }
def AttrMissingUptoSaid : Prop := attrMissingUptoRow.holds Tryd.pinned (OpenSpec.upto attrMissingSpec)

/-- 'interregnumlaw07.AttrFlags', WHERE WHAT IT READS IS OF BULK AT MOST 1048576: true; the input reads as it did. -/
def attrFlagsUptoRow : OpenClaim := { program := "ytkmmnfcjbalboaadoor", sum := "3305827343b66a81284f72fed29b620d6cb94594509bc1dbe419e7fa1c4e2dfe", func := "interregnum/interregnumlaw07.AttrFlags", spec := "attrFlags", unfollowed := true, recurses := true, named := ["interregnum/attr.kinds"], apart := false, laid := [("interregnum/attr.kinds", laid_interregnum_attr_kinds)], narrowed := true }
def AttrFlagsUptoSaid : Prop := attrFlagsUptoRow.holds Tryd.pinned (OpenSpec.upto attrFlagsSpec)

/-- 'interregnumlaw07.AttrUnknown', WHERE WHAT IT READS IS OF BULK AT MOST 1048576: true; the input reads as it did. -/
def attrUnknownUptoRow : OpenClaim := { program := "ytkmmnfcjbalboaadoor", sum := "3305827343b66a81284f72fed29b620d6cb94594509bc1dbe419e7fa1c4e2dfe", func := "interregnum/interregnumlaw07.AttrUnknown", spec := "attrUnknown", unfollowed := true, recurses := true, named := ["interregnum/attr.kinds"], apart := false, laid := [("interregnum/attr.kinds", laid_interregnum_attr_kinds)], narrowed := true }
def AttrUnknownUptoSaid : Prop := attrUnknownUptoRow.holds Tryd.pinned (OpenSpec.upto attrUnknownSpec)

end Rows
end Go.Proofs.YtkmmnfcjbalboaaDoor
