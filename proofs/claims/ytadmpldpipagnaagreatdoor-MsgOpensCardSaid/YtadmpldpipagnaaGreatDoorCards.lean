/-
  DERIVED. GIVEN WITH THE SEED: THE CARDS: each row of YtadmpldpipagnaaGreatDoorRows.lean that lists a variable, with what it lists TIED to the program's text (the seventh form; the later family's looks); each row that meets fmt, with fmt's text TOLD by the authors' own Lean function (tested against real Go, not proved from fmt's source: count such statements apart). THE CARD IS WHAT COUNTS. Prove the row's statement (the work); the ties are given (YtadmpldpipagnaaGreatDoorTie.lean); close each card by the builder's one call (the guide's Derived/Test/ToyasCard.lean, 'card_holds'). Laid BY PROGRAM, IN A SANDBOX (cutbox-door.mjs). By AI agents, Wed Nov 11 2026. No macro, syntax, notation, axiom, sorry.
-/
import Derived.Test.YtadmpldpipagnaaGreatDoorRows
import GoSem.ClaimSeven
namespace Go.Proofs.YtadmpldpipagnaaGreatDoor
namespace Rows

/-- THE TIED CARD OF 'interregnumlaw10.StreamCuts'. -/
def streamCutsCard : Claim7 := { stood := { row := streamCutsRow, standIns := [], harness := (true, "b6938362fe0e3f4e5bcec9f7019f1c1d8680aa939081f21e68e10d4cd18e8369"), looks := true }, kinds := [], alts := [], laidByText := true, laidKinds := [.data], laidTests := true, laidLooks := .later }
def StreamCutsCardSaid : Prop := Claim7.holds Tryz.pinned (.plain (OpenSpec.ofChange streamCutsSpec)) streamCutsCard

/-- THE TIED CARD OF 'interregnumlaw09.MsgReads'. -/
def msgReadsCard : Claim7 := { stood := { row := msgReadsRow, standIns := [], harness := (true, "b6938362fe0e3f4e5bcec9f7019f1c1d8680aa939081f21e68e10d4cd18e8369"), looks := true }, kinds := [], alts := [], laidByText := true, laidKinds := [.data], laidTests := true, laidLooks := .later }
def MsgReadsCardSaid : Prop := Claim7.holds Tryz.pinned (.plain (OpenSpec.ofChange msgReadsSpec)) msgReadsCard

/-- THE TIED CARD OF 'interregnumlaw09.MsgOpens'. -/
def msgOpensCard : Claim7 := { stood := { row := msgOpensRow, standIns := [], harness := (true, "b6938362fe0e3f4e5bcec9f7019f1c1d8680aa939081f21e68e10d4cd18e8369"), looks := true }, kinds := [], alts := [], laidByText := true, laidKinds := [.data], laidTests := true, laidLooks := .later }
def MsgOpensCardSaid : Prop := Claim7.holds Tryz.pinned (.plain (OpenSpec.ofChange msgOpensSpec)) msgOpensCard

/-- THE SECOND FORM's CARD OF 'interregnumlaw10.StreamCuts'. -/
def streamCutsUptoCard : Claim7 := { stood := { row := streamCutsUptoRow, standIns := [], harness := (true, "b6938362fe0e3f4e5bcec9f7019f1c1d8680aa939081f21e68e10d4cd18e8369"), looks := true }, kinds := [], alts := [], laidByText := true, laidKinds := [.data], laidTests := true, laidLooks := .later }
def StreamCutsUptoCardSaid : Prop := Claim7.holds Tryz.pinned (.plain (OpenSpec.upto streamCutsSpec)) streamCutsUptoCard

/-- THE SECOND FORM's CARD OF 'interregnumlaw09.MsgReads'. -/
def msgReadsUptoCard : Claim7 := { stood := { row := msgReadsUptoRow, standIns := [], harness := (true, "b6938362fe0e3f4e5bcec9f7019f1c1d8680aa939081f21e68e10d4cd18e8369"), looks := true }, kinds := [], alts := [], laidByText := true, laidKinds := [.data], laidTests := true, laidLooks := .later }
def MsgReadsUptoCardSaid : Prop := Claim7.holds Tryz.pinned (.plain (OpenSpec.upto msgReadsSpec)) msgReadsUptoCard

/-- THE SECOND FORM's CARD OF 'interregnumlaw09.MsgOpens'. -/
def msgOpensUptoCard : Claim7 := { stood := { row := msgOpensUptoRow, standIns := [], harness := (true, "b6938362fe0e3f4e5bcec9f7019f1c1d8680aa939081f21e68e10d4cd18e8369"), looks := true }, kinds := [], alts := [], laidByText := true, laidKinds := [.data], laidTests := true, laidLooks := .later }
def MsgOpensUptoCardSaid : Prop := Claim7.holds Tryz.pinned (.plain (OpenSpec.upto msgOpensSpec)) msgOpensUptoCard
end Rows
end Go.Proofs.YtadmpldpipagnaaGreatDoor
