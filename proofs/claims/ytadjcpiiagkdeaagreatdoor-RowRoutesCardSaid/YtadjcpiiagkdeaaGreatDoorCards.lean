/-
  DERIVED. GIVEN WITH THE SEED: THE CARDS: each row of YtadjcpiiagkdeaaGreatDoorRows.lean that lists a variable, with what it lists TIED to the program's text (the seventh form; the later family's looks); each row that meets fmt, with fmt's text TOLD by the authors' own Lean function (tested against real Go, not proved from fmt's source: count such statements apart). THE CARD IS WHAT COUNTS. Prove the row's statement (the work); the ties are given (YtadjcpiiagkdeaaGreatDoorTie.lean); close each card by the builder's one call (the guide's Derived/Test/ToyasCard.lean, 'card_holds'). Laid BY PROGRAM, IN A SANDBOX (cutbox-door.mjs). By AI agents, Wed Nov 11 2026. No macro, syntax, notation, axiom, sorry.
-/
import Derived.Test.YtadjcpiiagkdeaaGreatDoorRows
import GoSem.ClaimSeven
namespace Go.Proofs.YtadjcpiiagkdeaaGreatDoor
namespace Rows

/-- THE TIED CARD OF 'interregnumlaw21.RowRoutes'. -/
def rowRoutesCard : Claim7 := { stood := { row := rowRoutesRow, standIns := [], harness := (true, "ada2d4c8b9a0366ba38a3395226ff795ae6f388473002c731892bdb847e3b584"), looks := true }, kinds := [], alts := [], laidByText := true, laidKinds := [.data, .data, .data, .sentinel, .sentinel, .data], laidTests := true, laidLooks := .later }
def RowRoutesCardSaid : Prop := Claim7.holds Tryz.pinned (.plain (OpenSpec.ofChange rowRoutesSpec)) rowRoutesCard

/-- THE SECOND FORM's CARD OF 'interregnumlaw21.RowRoutes'. -/
def rowRoutesUptoCard : Claim7 := { stood := { row := rowRoutesUptoRow, standIns := [], harness := (true, "ada2d4c8b9a0366ba38a3395226ff795ae6f388473002c731892bdb847e3b584"), looks := true }, kinds := [], alts := [], laidByText := true, laidKinds := [.data, .data, .data, .sentinel, .sentinel, .data], laidTests := true, laidLooks := .later }
def RowRoutesUptoCardSaid : Prop := Claim7.holds Tryz.pinned (.plain (OpenSpec.upto rowRoutesSpec)) rowRoutesUptoCard
end Rows
end Go.Proofs.YtadjcpiiagkdeaaGreatDoor
