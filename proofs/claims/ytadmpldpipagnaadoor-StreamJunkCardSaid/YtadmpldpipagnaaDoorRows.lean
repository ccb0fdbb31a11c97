/-
  NARROWER THAN 'FOR EVERY INPUT', by the rows' own cells (each row's printed sentence says how): StreamMany: laid · StreamOwn: laid · StreamJunk: laid.
  DERIVED. THE GIVEN ROWS OF THIS SEAT. 3 by the template 'for every input the law returns true; each argument reads behind the call as it read before'; 0 by the template 'total and deterministic' (their statements: YtadmpldpipagnaaDoorTotals.lean).
  GIVEN WITH THE SEED: the statements are not yours to turn. If you find one false, say at which input.
  Laid BY PROGRAM, IN A SANDBOX (cutbox-rows.mjs): the forced cells as the released guide's own fill.sh prints them over the translation a0a243bd52c92b98… (all of the seat's roots in one cut). By AI agents, Wed Nov 11 2026. No macro, syntax, notation, axiom, sorry.
-/
import Derived.Test.YtadmpldpipagnaaDoorChecked
import GoSem.Claim
import GoSem.ClaimJoined
import GoSem.ClaimMapViews
import Derived.JoinedTies
import Derived.KernelRfl
namespace Go.Proofs.YtadmpldpipagnaaDoor
/- THE CELL 'sum', in the pinned program and in every row, IS THE sha256 OF THE DUMP (.gsa) THAT YtadmpldpipagnaaDoorProg.lean LOADS. Nothing in Lean hashes anything: it is a label: what it is worth is what the hold of that sum in a sandbox is worth. -/
noncomputable def Tryd.pinned : Pinned := { name := "ytadmpldpipagnaadoor", sum := "a0a243bd52c92b9835cfe559fa618a6bee32c4191009996f01f09c0304703b14", checked := Tryd.checked }
namespace Rows
def none {H : Type} : Left H := { results := [], args := [] }

/- WHAT THE LISTED PACKAGE-LEVEL VARIABLES READ AS WHEN THE CALL BEGINS. Each datum BY PROGRAM (the guide's laid-datum.mjs) off the statement by which the dump's own 'gosem.cut.vars' lays the variable. In a bare row this is a premise. The card (YtadmpldpipagnaaDoorCards.lean) ties it to the program's text. -/
def laid_interregnum_attr_kinds {H : Type} : DataW H := .agg [.agg [.lit (.int .i64 0), .lit (.int .i64 0)], .agg [.lit (.int .i64 64), .lit (.int .i64 1)], .agg [.lit (.int .i64 64), .lit (.int .i64 (-1))], .agg [.lit (.int .i64 64), .lit (.int .i64 4)], .agg [.lit (.int .i64 128), .lit (.int .i64 4)], .agg [.lit (.int .i64 64), .lit (.int .i64 4)], .agg [.lit (.int .i64 64), .lit (.int .i64 0)], .agg [.lit (.int .i64 192), .lit (.int .i64 8)], .agg [.lit (.int .i64 192), .lit (.int .i64 (-1))]]

/-- 'interregnumlaw10.StreamMany': WHATEVER THE INPUT: true; the input reads as it did. -/
def streamManySpec : ChangeSpec := { name := "streamMany", fn := fun _ => fun
  | [d] => { results := [.lit (.bool true)], args := [d] }
  | _ => none }
def streamManyRow : OpenClaim := { program := "ytadmpldpipagnaadoor", sum := "a0a243bd52c92b9835cfe559fa618a6bee32c4191009996f01f09c0304703b14", func := "interregnum/interregnumlaw10.StreamMany", spec := "streamMany", inPlace := ["internal/bytealg.Count", "internal/bytealg.IndexByte", "internal/bytealg.Index"], unfollowed := true, recurses := true, named := ["internal/bytealg.MaxLen", "interregnum/attr.kinds"], apart := false, laid := [("interregnum/attr.kinds", laid_interregnum_attr_kinds)] }
def StreamManySaid : Prop := streamManyRow.holds Tryd.pinned (OpenSpec.ofChange streamManySpec)

/-- ITS FALSE NEIGHBOUR: 'it returns false'. Refute it at one input. -/
def streamManyWrong : ChangeSpec := { name := "streamMany", fn := fun _ => fun
  | [d] => { results := [.lit (.bool false)], args := [d] }
  | _ => none }
def StreamManyWrongFalsely : Prop := streamManyRow.holds Tryd.pinned (OpenSpec.ofChange streamManyWrong)

/-- 'interregnumlaw10.StreamOwn': WHATEVER THE INPUT: true; the input reads as it did. -/
def streamOwnSpec : ChangeSpec := { name := "streamOwn", fn := fun _ => fun
  | [d] => { results := [.lit (.bool true)], args := [d] }
  | _ => none }
def streamOwnRow : OpenClaim := { program := "ytadmpldpipagnaadoor", sum := "a0a243bd52c92b9835cfe559fa618a6bee32c4191009996f01f09c0304703b14", func := "interregnum/interregnumlaw10.StreamOwn", spec := "streamOwn", inPlace := ["internal/bytealg.Count", "internal/bytealg.IndexByte", "internal/bytealg.Index"], unfollowed := true, recurses := true, named := ["internal/bytealg.MaxLen", "interregnum/attr.kinds"], apart := false, laid := [("interregnum/attr.kinds", laid_interregnum_attr_kinds)] }
def StreamOwnSaid : Prop := streamOwnRow.holds Tryd.pinned (OpenSpec.ofChange streamOwnSpec)

/-- ITS FALSE NEIGHBOUR: 'it returns false'. Refute it at one input. -/
def streamOwnWrong : ChangeSpec := { name := "streamOwn", fn := fun _ => fun
  | [d] => { results := [.lit (.bool false)], args := [d] }
  | _ => none }
def StreamOwnWrongFalsely : Prop := streamOwnRow.holds Tryd.pinned (OpenSpec.ofChange streamOwnWrong)

/-- 'interregnumlaw10.StreamJunk': WHATEVER THE INPUT: true; the input reads as it did. -/
def streamJunkSpec : ChangeSpec := { name := "streamJunk", fn := fun _ => fun
  | [d1, d2] => { results := [.lit (.bool true)], args := [d1, d2] }
  | _ => none }
def streamJunkRow : OpenClaim := { program := "ytadmpldpipagnaadoor", sum := "a0a243bd52c92b9835cfe559fa618a6bee32c4191009996f01f09c0304703b14", func := "interregnum/interregnumlaw10.StreamJunk", spec := "streamJunk", inPlace := ["internal/bytealg.Count", "internal/bytealg.IndexByte", "internal/bytealg.Index"], unfollowed := true, recurses := true, named := ["internal/bytealg.MaxLen", "interregnum/attr.kinds"], apart := false, laid := [("interregnum/attr.kinds", laid_interregnum_attr_kinds)] }
def StreamJunkSaid : Prop := streamJunkRow.holds Tryd.pinned (OpenSpec.ofChange streamJunkSpec)

/-- ITS FALSE NEIGHBOUR: 'it returns false'. Refute it at one input. -/
def streamJunkWrong : ChangeSpec := { name := "streamJunk", fn := fun _ => fun
  | [d1, d2] => { results := [.lit (.bool false)], args := [d1, d2] }
  | _ => none }
def StreamJunkWrongFalsely : Prop := streamJunkRow.holds Tryd.pinned (OpenSpec.ofChange streamJunkWrong)

/- THE SECOND FORM. 'bulk': how many values and letters a reading holds, each counted each time it is reached (what is shared counts as often as it is met; a slice's spare places count too). A statement '..UptoSaid' is the law's where the arguments, and the package variables that the reading takes, are together of bulk at most 1048576: NARROWER than '..Said'. Prove '..Said' where nothing that the law and all that it calls make is longer than what came in: it says more and counts as full. Else prove '..UptoSaid'. A law counts once. -/
mutual
def uptoBulk {H : Type} : DataW H → Nat
  | .lit (.string bytes) => bytes.length + 1
  | .lit _ => 1
  | .nil => 1
  | .ptr d => uptoBulk d + 1
  | .slice elems spare => uptoBulkAll elems + uptoBulkAll spare + 1
  | .agg parts => uptoBulkAll parts + 1
  | .iface _ d => uptoBulk d + 1
  | .map entries => uptoBulkEntries entries + 1
  | .held _ => 1
def uptoBulkAll {H : Type} : List (DataW H) → Nat
  | [] => 0
  | d :: r => uptoBulk d + uptoBulkAll r
def uptoBulkEntries {H : Type} : List (Lit × DataW H) → Nat
  | [] => 0
  | x :: r => uptoBulkEntry x + uptoBulkEntries r
def uptoBulkEntry {H : Type} : Lit × DataW H → Nat
  | (.string bytes, d) => bytes.length + uptoBulk d + 1
  | (_, d) => uptoBulk d + 1
 end
def uptoSmall : (H : Type) → List (DataW H) → Bool := fun _ ds => decide (uptoBulkAll ds ≤ 1048576)
def OpenSpec.upto (s : _root_.Go.ChangeSpec) : _root_.Go.OpenSpec := { _root_.Go.OpenSpec.ofChange s with cond := some uptoSmall }

/-- 'interregnumlaw10.StreamMany', WHERE WHAT IT READS IS OF BULK AT MOST 1048576: true; the input reads as it did. -/
def streamManyUptoRow : OpenClaim := { program := "ytadmpldpipagnaadoor", sum := "a0a243bd52c92b9835cfe559fa618a6bee32c4191009996f01f09c0304703b14", func := "interregnum/interregnumlaw10.StreamMany", spec := "streamMany", inPlace := ["internal/bytealg.Count", "internal/bytealg.IndexByte", "internal/bytealg.Index"], unfollowed := true, recurses := true, named := ["internal/bytealg.MaxLen", "interregnum/attr.kinds"], apart := false, laid := [("interregnum/attr.kinds", laid_interregnum_attr_kinds)], narrowed := true }
def StreamManyUptoSaid : Prop := streamManyUptoRow.holds Tryd.pinned (OpenSpec.upto streamManySpec)

/-- 'interregnumlaw10.StreamOwn', WHERE WHAT IT READS IS OF BULK AT MOST 1048576: true; the input reads as it did. -/
def streamOwnUptoRow : OpenClaim := { program := "ytadmpldpipagnaadoor", sum := "a0a243bd52c92b9835cfe559fa618a6bee32c4191009996f01f09c0304703b14", func := "interregnum/interregnumlaw10.StreamOwn", spec := "streamOwn", inPlace := ["internal/bytealg.Count", "internal/bytealg.IndexByte", "internal/bytealg.Index"], unfollowed := true, recurses := true, named := ["internal/bytealg.MaxLen", "interregnum/attr.kinds"], apart := false, laid := [("interregnum/attr.kinds", laid_interregnum_attr_kinds)], narrowed := true }
def StreamOwnUptoSaid : Prop := streamOwnUptoRow.holds Tryd.pinned (OpenSpec.upto streamOwnSpec)

/-- 'interregnumlaw10.StreamJunk', WHERE WHAT IT READS IS OF BULK AT MOST 1048576: true; the input reads as it did. -/
def streamJunkUptoRow : OpenClaim := { program := "ytadmpldpipagnaadoor", sum := "a0a243bd52c92b9835cfe559fa618a6bee32c4191009996f01f09c0304703b14", func := "interregnum/interregnumlaw10.StreamJunk", spec := "streamJunk", inPlace := ["internal/bytealg.Count", "internal/bytealg.IndexByte", "internal/bytealg.Index"], unfollowed := true, recurses := true, named := ["internal/bytealg.MaxLen", "interregnum/attr.kinds"], apart := false, laid := [("interregnum/attr.kinds", laid_interregnum_attr_kinds)], narrowed := true }
def StreamJunkUptoSaid : Prop := streamJunkUptoRow.holds Tryd.pinned (OpenSpec.upto streamJunkSpec)

end Rows
end Go.Proofs.YtadmpldpipagnaaDoor
