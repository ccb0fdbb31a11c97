/-
  DERIVED. GIVEN WITH THE SEED: THE CARDS: each row of YtepnimdjcnjlfaaGreatDoorRows.lean that lists a variable, with what it lists TIED to the program's text (the seventh form; the later family's looks); each row that meets fmt, with fmt's text TOLD by the authors' own Lean function (tested against real Go, not proved from fmt's source: count such statements apart). THE CARD IS WHAT COUNTS. Prove the row's statement (the work); the ties are given (YtepnimdjcnjlfaaGreatDoorTie.lean); close each card by the builder's one call (the guide's Derived/Test/ToyasCard.lean, 'card_holds'). Laid BY PROGRAM, IN A SANDBOX (cutbox-door.mjs). By AI agents, Wed Nov 11 2026. No macro, syntax, notation, axiom, sorry.
-/
import Derived.Test.YtepnimdjcnjlfaaGreatDoorRows
import GoSem.ClaimSeven
namespace Go.Proofs.YtepnimdjcnjlfaaGreatDoor
namespace Rows

/-- THE TIED CARD OF 'interregnumlaw09.MsgReads'. -/
def msgReadsCard : Claim7 := { stood := { row := msgReadsRow, standIns := [], harness := (true, "fb02a53d9c51adfa4fa27bf4725228b64b41c4f9265abe4f660f29958d830eee"), looks := true }, kinds := [], alts := [], laidByText := true, laidKinds := [.data], laidTests := true, laidLooks := .later }
def MsgReadsCardSaid : Prop := Claim7.holds Tryz.pinned (.plain (OpenSpec.ofChange msgReadsSpec)) msgReadsCard

/-- THE TIED CARD OF 'interregnumlaw09.MsgHead'. -/
def msgHeadCard : Claim7 := { stood := { row := msgHeadRow, standIns := [], harness := (true, "fb02a53d9c51adfa4fa27bf4725228b64b41c4f9265abe4f660f29958d830eee"), looks := true }, kinds := [], alts := [], laidByText := true, laidKinds := [.data], laidTests := true, laidLooks := .later }
def MsgHeadCardSaid : Prop := Claim7.holds Tryz.pinned (.plain (OpenSpec.ofChange msgHeadSpec)) msgHeadCard

/-- THE TIED CARD OF 'interregnumlaw09.MsgOpens'. -/
def msgOpensCard : Claim7 := { stood := { row := msgOpensRow, standIns := [], harness := (true, "fb02a53d9c51adfa4fa27bf4725228b64b41c4f9265abe4f660f29958d830eee"), looks := true }, kinds := [], alts := [], laidByText := true, laidKinds := [.data], laidTests := true, laidLooks := .later }
def MsgOpensCardSaid : Prop := Claim7.holds Tryz.pinned (.plain (OpenSpec.ofChange msgOpensSpec)) msgOpensCard

/-- THE SECOND FORM's CARD OF 'interregnumlaw09.MsgReads'. -/
def msgReadsUptoCard : Claim7 := { stood := { row := msgReadsUptoRow, standIns := [], harness := (true, "fb02a53d9c51adfa4fa27bf4725228b64b41c4f9265abe4f660f29958d830eee"), looks := true }, kinds := [], alts := [], laidByText := true, laidKinds := [.data], laidTests := true, laidLooks := .later }
def MsgReadsUptoCardSaid : Prop := Claim7.holds Tryz.pinned (.plain (OpenSpec.upto msgReadsSpec)) msgReadsUptoCard

/-- THE SECOND FORM's CARD OF 'interregnumlaw09.MsgHead'. -/
def msgHeadUptoCard : Claim7 := { stood := { row := msgHeadUptoRow, standIns := [], harness := (true, "fb02a53d9c51adfa4fa27bf4725228b64b41c4f9265abe4f660f29958d830eee"), looks := true }, kinds := [], alts := [], laidByText := true, laidKinds := [.data], laidTests := true, laidLooks := .later }
def MsgHeadUptoCardSaid : Prop := Claim7.holds Tryz.pinned (.plain (OpenSpec.upto msgHeadSpec)) msgHeadUptoCard

/-- THE SECOND FORM's CARD OF 'interregnumlaw09.MsgOpens'. -/
def msgOpensUptoCard : Claim7 := { stood := { row := msgOpensUptoRow, standIns := [], harness := (true, "fb02a53d9c51adfa4fa27bf4725228b64b41c4f9265abe4f660f29958d830eee"), looks := true }, kinds := [], alts := [], laidByText := true, laidKinds := [.data], laidTests := true, laidLooks := .later }
def MsgOpensUptoCardSaid : Prop := Claim7.holds Tryz.pinned (.plain (OpenSpec.upto msgOpensSpec)) msgOpensUptoCard
end Rows
end Go.Proofs.YtepnimdjcnjlfaaGreatDoor
