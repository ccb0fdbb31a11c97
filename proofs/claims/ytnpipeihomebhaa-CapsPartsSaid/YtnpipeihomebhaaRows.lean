/-
  No cell of these rows narrows 'for every input' (looked for: loops, veiled, ifaces, maps, wideKeys, modest, calm, conditions, laid).
  DERIVED. THE GIVEN ROWS OF THIS SEAT. 11 by the template 'for every input the law returns true; each argument reads behind the call as it read before'; 0 by the template 'total and deterministic' (their statements: YtnpipeihomebhaaTotals.lean).
  GIVEN WITH THE SEED: the statements are not yours to turn. If you find one false, say at which input.
  Laid BY PROGRAM, IN A SANDBOX (cutbox-rows.mjs): the forced cells as the released guide's own fill.sh prints them over the translation 7171f45278ad5b58… (all of the seat's roots in one cut). By AI agents, Wed Nov 11 2026. No macro, syntax, notation, axiom, sorry.
-/
import Derived.Test.YtnpipeihomebhaaChecked
import GoSem.Claim
import GoSem.ClaimJoined
import GoSem.ClaimMapViews
import Derived.JoinedTies
import Derived.KernelRfl
namespace Go.Proofs.Ytnpipeihomebhaa
/- THE CELL 'sum', in the pinned program and in every row, IS THE sha256 OF THE DUMP (.gsa) THAT YtnpipeihomebhaaProg.lean LOADS. Nothing in Lean hashes anything: it is a label: what it is worth is what the hold of that sum in a sandbox is worth. -/
noncomputable def Try.pinned : Pinned := { name := "ytnpipeihomebhaa", sum := "7171f45278ad5b58404607f297529dce2c0ea5a7f37e17ea282b59f46f1e62c6", checked := Try.checked }
namespace Rows
def none {H : Type} : Left H := { results := [], args := [] }

/-- 'interregnumlaw18.NegoOurs': WHATEVER THE INPUT: true; the input reads as it did. -/
def negoOursSpec : ChangeSpec := { name := "negoOurs", fn := fun _ => fun
  | [d1, d2, d3] => { results := [.lit (.bool true)], args := [d1, d2, d3] }
  | _ => none }
def negoOursRow : OpenClaim := { program := "ytnpipeihomebhaa", sum := "7171f45278ad5b58404607f297529dce2c0ea5a7f37e17ea282b59f46f1e62c6", func := "interregnum/interregnumlaw18.NegoOurs", spec := "negoOurs", apart := false }
def NegoOursSaid : Prop := negoOursRow.holds Try.pinned (OpenSpec.ofChange negoOursSpec)

/-- ITS FALSE NEIGHBOUR: 'it returns false'. Refute it at one input. -/
def negoOursWrong : ChangeSpec := { name := "negoOurs", fn := fun _ => fun
  | [d1, d2, d3] => { results := [.lit (.bool false)], args := [d1, d2, d3] }
  | _ => none }
def NegoOursWrongFalsely : Prop := negoOursRow.holds Try.pinned (OpenSpec.ofChange negoOursWrong)

/-- 'interregnumlaw18.NegoChecks': WHATEVER THE INPUT: true; the input reads as it did. -/
def negoChecksSpec : ChangeSpec := { name := "negoChecks", fn := fun _ => fun
  | [d1, d2, d3] => { results := [.lit (.bool true)], args := [d1, d2, d3] }
  | _ => none }
def negoChecksRow : OpenClaim := { program := "ytnpipeihomebhaa", sum := "7171f45278ad5b58404607f297529dce2c0ea5a7f37e17ea282b59f46f1e62c6", func := "interregnum/interregnumlaw18.NegoChecks", spec := "negoChecks", apart := false }
def NegoChecksSaid : Prop := negoChecksRow.holds Try.pinned (OpenSpec.ofChange negoChecksSpec)

/-- ITS FALSE NEIGHBOUR: 'it returns false'. Refute it at one input. -/
def negoChecksWrong : ChangeSpec := { name := "negoChecks", fn := fun _ => fun
  | [d1, d2, d3] => { results := [.lit (.bool false)], args := [d1, d2, d3] }
  | _ => none }
def NegoChecksWrongFalsely : Prop := negoChecksRow.holds Try.pinned (OpenSpec.ofChange negoChecksWrong)

/-- 'interregnumlaw18.NegoBoth': WHATEVER THE INPUT: true; the input reads as it did. -/
def negoBothSpec : ChangeSpec := { name := "negoBoth", fn := fun _ => fun
  | [d1, d2, d3, d4] => { results := [.lit (.bool true)], args := [d1, d2, d3, d4] }
  | _ => none }
def negoBothRow : OpenClaim := { program := "ytnpipeihomebhaa", sum := "7171f45278ad5b58404607f297529dce2c0ea5a7f37e17ea282b59f46f1e62c6", func := "interregnum/interregnumlaw18.NegoBoth", spec := "negoBoth", apart := false }
def NegoBothSaid : Prop := negoBothRow.holds Try.pinned (OpenSpec.ofChange negoBothSpec)

/-- ITS FALSE NEIGHBOUR: 'it returns false'. Refute it at one input. -/
def negoBothWrong : ChangeSpec := { name := "negoBoth", fn := fun _ => fun
  | [d1, d2, d3, d4] => { results := [.lit (.bool false)], args := [d1, d2, d3, d4] }
  | _ => none }
def NegoBothWrongFalsely : Prop := negoBothRow.holds Try.pinned (OpenSpec.ofChange negoBothWrong)

/-- 'interregnumlaw18.NegoFirst': WHATEVER THE INPUT: true; the input reads as it did. -/
def negoFirstSpec : ChangeSpec := { name := "negoFirst", fn := fun _ => fun
  | [d1, d2, d3, d4, d5, d6] => { results := [.lit (.bool true)], args := [d1, d2, d3, d4, d5, d6] }
  | _ => none }
def negoFirstRow : OpenClaim := { program := "ytnpipeihomebhaa", sum := "7171f45278ad5b58404607f297529dce2c0ea5a7f37e17ea282b59f46f1e62c6", func := "interregnum/interregnumlaw18.NegoFirst", spec := "negoFirst", apart := false }
def NegoFirstSaid : Prop := negoFirstRow.holds Try.pinned (OpenSpec.ofChange negoFirstSpec)

/-- ITS FALSE NEIGHBOUR: 'it returns false'. Refute it at one input. -/
def negoFirstWrong : ChangeSpec := { name := "negoFirst", fn := fun _ => fun
  | [d1, d2, d3, d4, d5, d6] => { results := [.lit (.bool false)], args := [d1, d2, d3, d4, d5, d6] }
  | _ => none }
def NegoFirstWrongFalsely : Prop := negoFirstRow.holds Try.pinned (OpenSpec.ofChange negoFirstWrong)

/-- 'interregnumlaw19.PeerPlays': WHATEVER THE INPUT: true; the input reads as it did. -/
def peerPlaysSpec : ChangeSpec := { name := "peerPlays", fn := fun _ => fun
  | [d1, d2, d3] => { results := [.lit (.bool true)], args := [d1, d2, d3] }
  | _ => none }
def peerPlaysRow : OpenClaim := { program := "ytnpipeihomebhaa", sum := "7171f45278ad5b58404607f297529dce2c0ea5a7f37e17ea282b59f46f1e62c6", func := "interregnum/interregnumlaw19.PeerPlays", spec := "peerPlays", apart := false }
def PeerPlaysSaid : Prop := peerPlaysRow.holds Try.pinned (OpenSpec.ofChange peerPlaysSpec)

/-- ITS FALSE NEIGHBOUR: 'it returns false'. Refute it at one input. -/
def peerPlaysWrong : ChangeSpec := { name := "peerPlays", fn := fun _ => fun
  | [d1, d2, d3] => { results := [.lit (.bool false)], args := [d1, d2, d3] }
  | _ => none }
def PeerPlaysWrongFalsely : Prop := peerPlaysRow.holds Try.pinned (OpenSpec.ofChange peerPlaysWrong)

/-- 'interregnumlaw19.PeerUp': WHATEVER THE INPUT: true; the input reads as it did. -/
def peerUpSpec : ChangeSpec := { name := "peerUp", fn := fun _ => fun
  | [d1, d2, d3] => { results := [.lit (.bool true)], args := [d1, d2, d3] }
  | _ => none }
def peerUpRow : OpenClaim := { program := "ytnpipeihomebhaa", sum := "7171f45278ad5b58404607f297529dce2c0ea5a7f37e17ea282b59f46f1e62c6", func := "interregnum/interregnumlaw19.PeerUp", spec := "peerUp", apart := false }
def PeerUpSaid : Prop := peerUpRow.holds Try.pinned (OpenSpec.ofChange peerUpSpec)

/-- ITS FALSE NEIGHBOUR: 'it returns false'. Refute it at one input. -/
def peerUpWrong : ChangeSpec := { name := "peerUp", fn := fun _ => fun
  | [d1, d2, d3] => { results := [.lit (.bool false)], args := [d1, d2, d3] }
  | _ => none }
def PeerUpWrongFalsely : Prop := peerUpRow.holds Try.pinned (OpenSpec.ofChange peerUpWrong)

/-- 'interregnumlaw19.PeerEnds': WHATEVER THE INPUT: true; the input reads as it did. -/
def peerEndsSpec : ChangeSpec := { name := "peerEnds", fn := fun _ => fun
  | [d1, d2, d3, d4] => { results := [.lit (.bool true)], args := [d1, d2, d3, d4] }
  | _ => none }
def peerEndsRow : OpenClaim := { program := "ytnpipeihomebhaa", sum := "7171f45278ad5b58404607f297529dce2c0ea5a7f37e17ea282b59f46f1e62c6", func := "interregnum/interregnumlaw19.PeerEnds", spec := "peerEnds", apart := false }
def PeerEndsSaid : Prop := peerEndsRow.holds Try.pinned (OpenSpec.ofChange peerEndsSpec)

/-- ITS FALSE NEIGHBOUR: 'it returns false'. Refute it at one input. -/
def peerEndsWrong : ChangeSpec := { name := "peerEnds", fn := fun _ => fun
  | [d1, d2, d3, d4] => { results := [.lit (.bool false)], args := [d1, d2, d3, d4] }
  | _ => none }
def PeerEndsWrongFalsely : Prop := peerEndsRow.holds Try.pinned (OpenSpec.ofChange peerEndsWrong)

/-- 'interregnumlaw08.CapsBack': WHATEVER THE INPUT: true; the input reads as it did. -/
def capsBackSpec : ChangeSpec := { name := "capsBack", fn := fun _ => fun
  | [d] => { results := [.lit (.bool true)], args := [d] }
  | _ => none }
def capsBackRow : OpenClaim := { program := "ytnpipeihomebhaa", sum := "7171f45278ad5b58404607f297529dce2c0ea5a7f37e17ea282b59f46f1e62c6", func := "interregnum/interregnumlaw08.CapsBack", spec := "capsBack", unfollowed := true, recurses := true, apart := false }
def CapsBackSaid : Prop := capsBackRow.holds Try.pinned (OpenSpec.ofChange capsBackSpec)

/-- ITS FALSE NEIGHBOUR: 'it returns false'. Refute it at one input. -/
def capsBackWrong : ChangeSpec := { name := "capsBack", fn := fun _ => fun
  | [d] => { results := [.lit (.bool false)], args := [d] }
  | _ => none }
def CapsBackWrongFalsely : Prop := capsBackRow.holds Try.pinned (OpenSpec.ofChange capsBackWrong)

/-- 'interregnumlaw08.CapsReads': WHATEVER THE INPUT: true; the input reads as it did. -/
def capsReadsSpec : ChangeSpec := { name := "capsReads", fn := fun _ => fun
  | [d] => { results := [.lit (.bool true)], args := [d] }
  | _ => none }
def capsReadsRow : OpenClaim := { program := "ytnpipeihomebhaa", sum := "7171f45278ad5b58404607f297529dce2c0ea5a7f37e17ea282b59f46f1e62c6", func := "interregnum/interregnumlaw08.CapsReads", spec := "capsReads", unfollowed := true, recurses := true, apart := false }
def CapsReadsSaid : Prop := capsReadsRow.holds Try.pinned (OpenSpec.ofChange capsReadsSpec)

/-- ITS FALSE NEIGHBOUR: 'it returns false'. Refute it at one input. -/
def capsReadsWrong : ChangeSpec := { name := "capsReads", fn := fun _ => fun
  | [d] => { results := [.lit (.bool false)], args := [d] }
  | _ => none }
def CapsReadsWrongFalsely : Prop := capsReadsRow.holds Try.pinned (OpenSpec.ofChange capsReadsWrong)

/-- 'interregnumlaw08.CapsParts': WHATEVER THE INPUT: true; the input reads as it did. -/
def capsPartsSpec : ChangeSpec := { name := "capsParts", fn := fun _ => fun
  | [d1, d2, d3] => { results := [.lit (.bool true)], args := [d1, d2, d3] }
  | _ => none }
def capsPartsRow : OpenClaim := { program := "ytnpipeihomebhaa", sum := "7171f45278ad5b58404607f297529dce2c0ea5a7f37e17ea282b59f46f1e62c6", func := "interregnum/interregnumlaw08.CapsParts", spec := "capsParts", unfollowed := true, recurses := true, apart := false }
def CapsPartsSaid : Prop := capsPartsRow.holds Try.pinned (OpenSpec.ofChange capsPartsSpec)

/-- ITS FALSE NEIGHBOUR: 'it returns false'. Refute it at one input. -/
def capsPartsWrong : ChangeSpec := { name := "capsParts", fn := fun _ => fun
  | [d1, d2, d3] => { results := [.lit (.bool false)], args := [d1, d2, d3] }
  | _ => none }
def CapsPartsWrongFalsely : Prop := capsPartsRow.holds Try.pinned (OpenSpec.ofChange capsPartsWrong)

/-- 'interregnumlaw08.CapsCut': WHATEVER THE INPUT: true; the input reads as it did. -/
def capsCutSpec : ChangeSpec := { name := "capsCut", fn := fun _ => fun
  | [d1, d2, d3] => { results := [.lit (.bool true)], args := [d1, d2, d3] }
  | _ => none }
def capsCutRow : OpenClaim := { program := "ytnpipeihomebhaa", sum := "7171f45278ad5b58404607f297529dce2c0ea5a7f37e17ea282b59f46f1e62c6", func := "interregnum/interregnumlaw08.CapsCut", spec := "capsCut", unfollowed := true, recurses := true, apart := false }
def CapsCutSaid : Prop := capsCutRow.holds Try.pinned (OpenSpec.ofChange capsCutSpec)

/-- ITS FALSE NEIGHBOUR: 'it returns false'. Refute it at one input. -/
def capsCutWrong : ChangeSpec := { name := "capsCut", fn := fun _ => fun
  | [d1, d2, d3] => { results := [.lit (.bool false)], args := [d1, d2, d3] }
  | _ => none }
def CapsCutWrongFalsely : Prop := capsCutRow.holds Try.pinned (OpenSpec.ofChange capsCutWrong)

/- THE SECOND FORM. 'bulk': how many values and letters a reading holds, each counted each time it is reached (what is shared counts as often as it is met; a slice's spare places count too). A statement '..UptoSaid' is the law's where the arguments, and the package variables that the reading takes, are together of bulk at most 1048576: NARROWER than '..Said'. Prove '..Said' where nothing that the law and all that it calls make is longer than what came in: it says more and counts as full. Else prove '..UptoSaid'. A law counts once. -/
mutual
def uptoBulk {H : Type} : DataW H → Nat
  | .lit (.string bytes) => bytes.length + 1
  | .lit _ => 1
  | .nil => 1
  | .ptr d => uptoBulk d + 1
  | .slice elems spare => uptoBulkAll elems + uptoBulkAll spare + 1
  | .agg parts => uptoBulkAll parts + 1
  | .iface _ d => uptoBulk d + 1
  | .map entries => uptoBulkEntries entries + 1
  | .held _ => 1
def uptoBulkAll {H : Type} : List (DataW H) → Nat
  | [] => 0
  | d :: r => uptoBulk d + uptoBulkAll r
def uptoBulkEntries {H : Type} : List (Lit × DataW H) → Nat
  | [] => 0
  | x :: r => uptoBulkEntry x + uptoBulkEntries r
def uptoBulkEntry {H : Type} : Lit × DataW H → Nat
  | (.string bytes, d) => bytes.length + uptoBulk d + 1
  | (_, d) => uptoBulk d + 1
 end
def uptoSmall : (H : Type) → List (DataW H) → Bool := fun _ ds => decide (uptoBulkAll ds ≤ 1048576)
def OpenSpec.upto (s : _root_.Go.ChangeSpec) : _root_.Go.OpenSpec := { _root_.Go.OpenSpec.ofChange s with cond := some uptoSmall }

/-- 'interregnumlaw18.NegoOurs', WHERE WHAT IT READS IS OF BULK AT MOST 1048576: true; the input reads as it did. -/
def negoOursUptoRow : OpenClaim := { program := "ytnpipeihomebhaa", sum := "7171f45278ad5b58404607f297529dce2c0ea5a7f37e17ea282b59f46f1e62c6", func := "interregnum/interregnumlaw18.NegoOurs", spec := "negoOurs", apart := false, narrowed := true }
def NegoOursUptoSaid : Prop := negoOursUptoRow.holds Try.pinned (OpenSpec.upto negoOursSpec)

/-- 'interregnumlaw18.NegoChecks', WHERE WHAT IT READS IS OF BULK AT MOST 1048576: true; the input reads as it did. -/
def negoChecksUptoRow : OpenClaim := { program := "ytnpipeihomebhaa", sum := "7171f45278ad5b58404607f297529dce2c0ea5a7f37e17ea282b59f46f1e62c6", func := "interregnum/interregnumlaw18.NegoChecks", spec := "negoChecks", apart := false, narrowed := true }
def NegoChecksUptoSaid : Prop := negoChecksUptoRow.holds Try.pinned (OpenSpec.upto negoChecksSpec)

/-- 'interregnumlaw18.NegoBoth', WHERE WHAT IT READS IS OF BULK AT MOST 1048576: true; the input reads as it did. -/
def negoBothUptoRow : OpenClaim := { program := "ytnpipeihomebhaa", sum := "7171f45278ad5b58404607f297529dce2c0ea5a7f37e17ea282b59f46f1e62c6", func := "interregnum/interregnumlaw18.NegoBoth", spec := "negoBoth", apart := false, narrowed := true }
def NegoBothUptoSaid : Prop := negoBothUptoRow.holds Try.pinned (OpenSpec.upto negoBothSpec)

/-- 'interregnumlaw18.NegoFirst', WHERE WHAT IT READS IS OF BULK AT MOST 1048576: true; the input reads as it did. -/
def negoFirstUptoRow : OpenClaim := { program := "ytnpipeihomebhaa", sum := "7171f45278ad5b58404607f297529dce2c0ea5a7f37e17ea282b59f46f1e62c6", func := "interregnum/interregnumlaw18.NegoFirst", spec := "negoFirst", apart := false, narrowed := true }
def NegoFirstUptoSaid : Prop := negoFirstUptoRow.holds Try.pinned (OpenSpec.upto negoFirstSpec)

/-- 'interregnumlaw19.PeerPlays', WHERE WHAT IT READS IS OF BULK AT MOST 1048576: true; the input reads as it did. -/
def peerPlaysUptoRow : OpenClaim := { program := "ytnpipeihomebhaa", sum := "7171f45278ad5b58404607f297529dce2c0ea5a7f37e17ea282b59f46f1e62c6", func := "interregnum/interregnumlaw19.PeerPlays", spec := "peerPlays", apart := false, narrowed := true }
def PeerPlaysUptoSaid : Prop := peerPlaysUptoRow.holds Try.pinned (OpenSpec.upto peerPlaysSpec)

/-- 'interregnumlaw19.PeerUp', WHERE WHAT IT READS IS OF BULK AT MOST 1048576: true; the input reads as it did. -/
def peerUpUptoRow : OpenClaim := { program := "ytnpipeihomebhaa", sum := "7171f45278ad5b58404607f297529dce2c0ea5a7f37e17ea282b59f46f1e62c6", func := "interregnum/interregnumlaw19.PeerUp", spec := "peerUp", apart := false, narrowed := true }
def PeerUpUptoSaid : Prop := peerUpUptoRow.holds Try.pinned (OpenSpec.upto peerUpSpec)

/-- 'interregnumlaw19.PeerEnds', WHERE WHAT IT READS IS OF BULK AT MOST 1048576: true; the input reads as it did. -/
def peerEndsUptoRow : OpenClaim := { program := "ytnpipeihomebhaa", sum := "7171f45278ad5b58404607f297529dce2c0ea5a7f37e17ea282b59f46f1e62c6", func := "interregnum/interregnumlaw19.PeerEnds", spec := "peerEnds", apart := false, narrowed := true }
def PeerEndsUptoSaid : Prop := peerEndsUptoRow.holds Try.pinned (OpenSpec.upto peerEndsSpec)

/-- 'interregnumlaw08.CapsBack', WHERE WHAT IT READS IS OF BULK AT MOST 1048576: true; the input reads as it did. -/
def capsBackUptoRow : OpenClaim := { program := "ytnpipeihomebhaa", sum := "7171f45278ad5b58404607f297529dce2c0ea5a7f37e17ea282b59f46f1e62c6", func := "interregnum/interregnumlaw08.CapsBack", spec := "capsBack", unfollowed := true, recurses := true, apart := false, narrowed := true }
def CapsBackUptoSaid : Prop := capsBackUptoRow.holds Try.pinned (OpenSpec.upto capsBackSpec)

/-- 'interregnumlaw08.CapsReads', WHERE WHAT IT READS IS OF BULK AT MOST 1048576: true; the input reads as it did. -/
def capsReadsUptoRow : OpenClaim := { program := "ytnpipeihomebhaa", sum := "7171f45278ad5b58404607f297529dce2c0ea5a7f37e17ea282b59f46f1e62c6", func := "interregnum/interregnumlaw08.CapsReads", spec := "capsReads", unfollowed := true, recurses := true, apart := false, narrowed := true }
def CapsReadsUptoSaid : Prop := capsReadsUptoRow.holds Try.pinned (OpenSpec.upto capsReadsSpec)

/-- 'interregnumlaw08.CapsParts', WHERE WHAT IT READS IS OF BULK AT MOST 1048576: true; the input reads as it did. -/
def capsPartsUptoRow : OpenClaim := { program := "ytnpipeihomebhaa", sum := "7171f45278ad5b58404607f297529dce2c0ea5a7f37e17ea282b59f46f1e62c6", func := "interregnum/interregnumlaw08.CapsParts", spec := "capsParts", unfollowed := true, recurses := true, apart := false, narrowed := true }
def CapsPartsUptoSaid : Prop := capsPartsUptoRow.holds Try.pinned (OpenSpec.upto capsPartsSpec)

/-- 'interregnumlaw08.CapsCut', WHERE WHAT IT READS IS OF BULK AT MOST 1048576: true; the input reads as it did. -/
def capsCutUptoRow : OpenClaim := { program := "ytnpipeihomebhaa", sum := "7171f45278ad5b58404607f297529dce2c0ea5a7f37e17ea282b59f46f1e62c6", func := "interregnum/interregnumlaw08.CapsCut", spec := "capsCut", unfollowed := true, recurses := true, apart := false, narrowed := true }
def CapsCutUptoSaid : Prop := capsCutUptoRow.holds Try.pinned (OpenSpec.upto capsCutSpec)

end Rows
end Go.Proofs.Ytnpipeihomebhaa
