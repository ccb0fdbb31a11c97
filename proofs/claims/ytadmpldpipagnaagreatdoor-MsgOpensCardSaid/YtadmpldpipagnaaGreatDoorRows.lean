/-
  NARROWER THAN 'FOR EVERY INPUT', by the rows' own cells (each row's printed sentence says how): StreamCuts: laid · MsgReads: laid · MsgOpens: laid.
  DERIVED. THE GIVEN ROWS OF THIS SEAT. 3 by the template 'for every input the law returns true; each argument reads behind the call as it read before'; 0 by the template 'total and deterministic' (their statements: YtadmpldpipagnaaGreatDoorTotals.lean).
  GIVEN WITH THE SEED: the statements are not yours to turn. If you find one false, say at which input.
  Laid BY PROGRAM, IN A SANDBOX (cutbox-rows.mjs): the forced cells as the released guide's own fill.sh prints them over the translation 0e42d03775770df3… (all of the seat's roots in one cut). By AI agents, Wed Nov 11 2026. No macro, syntax, notation, axiom, sorry.
-/
import Derived.Test.YtadmpldpipagnaaGreatDoorChecked
import GoSem.Claim
import GoSem.ClaimJoined
import GoSem.ClaimMapViews
import Derived.JoinedTies
import Derived.KernelRfl
namespace Go.Proofs.YtadmpldpipagnaaGreatDoor
/- THE CELL 'sum', in the pinned program and in every row, IS THE sha256 OF THE DUMP (.gsa) THAT YtadmpldpipagnaaGreatDoorProg.lean LOADS. Nothing in Lean hashes anything: it is a label: what it is worth is what the hold of that sum in a sandbox is worth. -/
noncomputable def Tryz.pinned : Pinned := { name := "ytadmpldpipagnaagreatdoor", sum := "0e42d03775770df38fe42a9256cc74b8a979dd875c0ad9ffc9cc377f0028c513", checked := Tryz.checked }
namespace Rows
def none {H : Type} : Left H := { results := [], args := [] }

/- WHAT THE LISTED PACKAGE-LEVEL VARIABLES READ AS WHEN THE CALL BEGINS. Each datum BY PROGRAM (the guide's laid-datum.mjs) off the statement by which the dump's own 'gosem.cut.vars' lays the variable. In a bare row this is a premise. The card (YtadmpldpipagnaaGreatDoorCards.lean) ties it to the program's text. -/
def laid_interregnum_attr_kinds {H : Type} : DataW H := .agg [.agg [.lit (.int .i64 0), .lit (.int .i64 0)], .agg [.lit (.int .i64 64), .lit (.int .i64 1)], .agg [.lit (.int .i64 64), .lit (.int .i64 (-1))], .agg [.lit (.int .i64 64), .lit (.int .i64 4)], .agg [.lit (.int .i64 128), .lit (.int .i64 4)], .agg [.lit (.int .i64 64), .lit (.int .i64 4)], .agg [.lit (.int .i64 64), .lit (.int .i64 0)], .agg [.lit (.int .i64 192), .lit (.int .i64 8)], .agg [.lit (.int .i64 192), .lit (.int .i64 (-1))]]

/-- 'interregnumlaw10.StreamCuts': WHATEVER THE INPUT: true; the input reads as it did. -/
def streamCutsSpec : ChangeSpec := { name := "streamCuts", fn := fun _ => fun
  | [d1, d2] => { results := [.lit (.bool true)], args := [d1, d2] }
  | _ => none }
def streamCutsRow : OpenClaim := { program := "ytadmpldpipagnaagreatdoor", sum := "0e42d03775770df38fe42a9256cc74b8a979dd875c0ad9ffc9cc377f0028c513", func := "interregnum/interregnumlaw10.StreamCuts", spec := "streamCuts", inPlace := ["internal/bytealg.Count", "internal/bytealg.IndexByte", "internal/bytealg.Index"], unfollowed := true, recurses := true, named := ["internal/bytealg.MaxLen", "interregnum/attr.kinds"], apart := false, laid := [("interregnum/attr.kinds", laid_interregnum_attr_kinds)] }
def StreamCutsSaid : Prop := streamCutsRow.holds Tryz.pinned (OpenSpec.ofChange streamCutsSpec)

/-- ITS FALSE NEIGHBOUR: 'it returns false'. Refute it at one input. -/
def streamCutsWrong : ChangeSpec := { name := "streamCuts", fn := fun _ => fun
  | [d1, d2] => { results := [.lit (.bool false)], args := [d1, d2] }
  | _ => none }
def StreamCutsWrongFalsely : Prop := streamCutsRow.holds Tryz.pinned (OpenSpec.ofChange streamCutsWrong)

/-- 'interregnumlaw09.MsgReads': WHATEVER THE INPUT: true; the input reads as it did. -/
def msgReadsSpec : ChangeSpec := { name := "msgReads", fn := fun _ => fun
  | [d] => { results := [.lit (.bool true)], args := [d] }
  | _ => none }
def msgReadsRow : OpenClaim := { program := "ytadmpldpipagnaagreatdoor", sum := "0e42d03775770df38fe42a9256cc74b8a979dd875c0ad9ffc9cc377f0028c513", func := "interregnum/interregnumlaw09.MsgReads", spec := "msgReads", inPlace := ["internal/bytealg.MakeNoZero", "internal/bytealg.Count", "internal/bytealg.IndexByte", "internal/bytealg.Index"], unfollowed := true, recurses := true, named := ["internal/bytealg.MaxLen", "interregnum/attr.kinds"], apart := false, laid := [("interregnum/attr.kinds", laid_interregnum_attr_kinds)] }
def MsgReadsSaid : Prop := msgReadsRow.holds Tryz.pinned (OpenSpec.ofChange msgReadsSpec)

/-- ITS FALSE NEIGHBOUR: 'it returns false'. Refute it at one input. -/
def msgReadsWrong : ChangeSpec := { name := "msgReads", fn := fun _ => fun
  | [d] => { results := [.lit (.bool false)], args := [d] }
  | _ => none }
def MsgReadsWrongFalsely : Prop := msgReadsRow.holds Tryz.pinned (OpenSpec.ofChange msgReadsWrong)

/-- 'interregnumlaw09.MsgOpens': WHATEVER THE INPUT: true; the input reads as it did. -/
def msgOpensSpec : ChangeSpec := { name := "msgOpens", fn := fun _ => fun
  | [d1, d2, d3] => { results := [.lit (.bool true)], args := [d1, d2, d3] }
  | _ => none }
def msgOpensRow : OpenClaim := { program := "ytadmpldpipagnaagreatdoor", sum := "0e42d03775770df38fe42a9256cc74b8a979dd875c0ad9ffc9cc377f0028c513", func := "interregnum/interregnumlaw09.MsgOpens", spec := "msgOpens", inPlace := ["internal/bytealg.MakeNoZero", "internal/bytealg.Count", "internal/bytealg.IndexByte", "internal/bytealg.Index"], unfollowed := true, recurses := true, named := ["internal/bytealg.MaxLen", "interregnum/attr.kinds"], apart := false, laid := [("interregnum/attr.kinds", laid_interregnum_attr_kinds)] }
def MsgOpensSaid : Prop := msgOpensRow.holds Tryz.pinned (OpenSpec.ofChange msgOpensSpec)

/-- ITS FALSE NEIGHBOUR: 'it returns false'. Refute it at one input. -/
def msgOpensWrong : ChangeSpec := { name := "msgOpens", fn := fun _ => fun
  | [d1, d2, d3] => { results := [.lit (.bool false)], args := [d1, d2, d3] }
  | _ => none }
def MsgOpensWrongFalsely : Prop := msgOpensRow.holds Tryz.pinned (OpenSpec.ofChange msgOpensWrong)

/- THE SECOND FORM. 'bulk': how many values and letters a reading holds, each counted each time it is reached (what is shared counts as often as it is met; a slice's spare places count too). A statement '..UptoSaid' is the law's where the arguments, and the package variables that the reading takes, are together of bulk at most 1048576: NARROWER than '..Said'. Prove '..Said' where nothing that the law and all that it calls make is longer than what came in: it says more and counts as full. Else prove '..UptoSaid'. A law counts once. -/
mutual
def uptoBulk {H : Type} : DataW H → Nat
  | .lit (.string bytes) => bytes.length + 1
  | .lit _ => 1
  | .nil => 1
  | .ptr d => uptoBulk d + 1
  | .slice elems spare => uptoBulkAll elems + uptoBulkAll spare + 1
  | .agg parts => uptoBulkAll parts + 1
  | .iface _ d => uptoBulk d + 1
  | .map entries => uptoBulkEntries entries + 1
  | .held _ => 1
def uptoBulkAll {H : Type} : List (DataW H) → Nat
  | [] => 0
  | d :: r => uptoBulk d + uptoBulkAll r
def uptoBulkEntries {H : Type} : List (Lit × DataW H) → Nat
  | [] => 0
  | x :: r => uptoBulkEntry x + uptoBulkEntries r
def uptoBulkEntry {H : Type} : Lit × DataW H → Nat
  | (.string bytes, d) => bytes.length + uptoBulk d + 1
  | (_, d) => uptoBulk d + 1
 end
def uptoSmall : (H : Type) → List (DataW H) → Bool := fun _ ds => decide (uptoBulkAll ds ≤ 1048576)
def OpenSpec.upto (s : _root_.Go.ChangeSpec) : _root_.Go.OpenSpec := { _root_.Go.OpenSpec.ofChange s with cond := some uptoSmall }

/-- 'interregnumlaw10.StreamCuts', WHERE WHAT IT READS IS OF BULK AT MOST 1048576: true; the input reads as it did. -/
def streamCutsUptoRow : OpenClaim := { program := "ytadmpldpipagnaagreatdoor", sum := "0e42d03775770df38fe42a9256cc74b8a979dd875c0ad9ffc9cc377f0028c513", func := "interregnum/interregnumlaw10.StreamCuts", spec := "streamCuts", inPlace := ["internal/bytealg.Count", "internal/bytealg.IndexByte", "internal/bytealg.Index"], unfollowed := true, recurses := true, named := ["internal/bytealg.MaxLen", "interregnum/attr.kinds"], apart := false, laid := [("interregnum/attr.kinds", laid_interregnum_attr_kinds)], narrowed := true }
def StreamCutsUptoSaid : Prop := streamCutsUptoRow.holds Tryz.pinned (OpenSpec.upto streamCutsSpec)

/-- 'interregnumlaw09.MsgReads', WHERE WHAT IT READS IS OF BULK AT MOST 1048576: true; the input reads as it did. -/
def msgReadsUptoRow : OpenClaim := { program := "ytadmpldpipagnaagreatdoor", sum := "0e42d03775770df38fe42a9256cc74b8a979dd875c0ad9ffc9cc377f0028c513", func := "interregnum/interregnumlaw09.MsgReads", spec := "msgReads", inPlace := ["internal/bytealg.MakeNoZero", "internal/bytealg.Count", "internal/bytealg.IndexByte", "internal/bytealg.Index"], unfollowed := true, recurses := true, named := ["internal/bytealg.MaxLen", "interregnum/attr.kinds"], apart := false, laid := [("interregnum/attr.kinds", laid_interregnum_attr_kinds)], narrowed := true }
def MsgReadsUptoSaid : Prop := msgReadsUptoRow.holds Tryz.pinned (OpenSpec.upto msgReadsSpec)

/-- 'interregnumlaw09.MsgOpens', WHERE WHAT IT READS IS OF BULK AT MOST 1048576: true; the input reads as it did. -/
def msgOpensUptoRow : OpenClaim := { program := "ytadmpldpipagnaagreatdoor", sum := "0e42d03775770df38fe42a9256cc74b8a979dd875c0ad9ffc9cc377f0028c513", func := "interregnum/interregnumlaw09.MsgOpens", spec := "msgOpens", inPlace := ["internal/bytealg.MakeNoZero", "internal/bytealg.Count", "internal/bytealg.IndexByte", "internal/bytealg.Index"], unfollowed := true, recurses := true, named := ["internal/bytealg.MaxLen", "interregnum/attr.kinds"], apart := false, laid := [("interregnum/attr.kinds", laid_interregnum_attr_kinds)], narrowed := true }
def MsgOpensUptoSaid : Prop := msgOpensUptoRow.holds Tryz.pinned (OpenSpec.upto msgOpensSpec)

end Rows
end Go.Proofs.YtadmpldpipagnaaGreatDoor
