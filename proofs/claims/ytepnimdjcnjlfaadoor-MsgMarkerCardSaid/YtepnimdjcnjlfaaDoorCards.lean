/-
  DERIVED. GIVEN WITH THE SEED: THE CARDS: each row of YtepnimdjcnjlfaaDoorRows.lean that lists a variable, with what it lists TIED to the program's text (the seventh form; the later family's looks); each row that meets fmt, with fmt's text TOLD by the authors' own Lean function (tested against real Go, not proved from fmt's source: count such statements apart). THE CARD IS WHAT COUNTS. Prove the row's statement (the work); the ties are given (YtepnimdjcnjlfaaDoorTie.lean); close each card by the builder's one call (the guide's Derived/Test/ToyasCard.lean, 'card_holds'). Laid BY PROGRAM, IN A SANDBOX (cutbox-door.mjs). By AI agents, Wed Nov 11 2026. No macro, syntax, notation, axiom, sorry.
-/
import Derived.Test.YtepnimdjcnjlfaaDoorRows
import GoSem.ClaimSeven
namespace Go.Proofs.YtepnimdjcnjlfaaDoor
namespace Rows

/-- THE TIED CARD OF 'interregnumlaw09.MsgMarker'. -/
def msgMarkerCard : Claim7 := { stood := { row := msgMarkerRow, standIns := [], harness := (true, "f6530f60333f59e683b076e2e16b30d357ab9fd2d874d952b7f4ac3e68e8d5f8"), looks := true }, kinds := [], alts := [], laidByText := true, laidKinds := [.data], laidTests := true, laidLooks := .later }
def MsgMarkerCardSaid : Prop := Claim7.holds Tryd.pinned (.plain (OpenSpec.ofChange msgMarkerSpec)) msgMarkerCard

/-- THE TIED CARD OF 'interregnumlaw09.MsgLimits'. -/
def msgLimitsCard : Claim7 := { stood := { row := msgLimitsRow, standIns := [], harness := (true, "f6530f60333f59e683b076e2e16b30d357ab9fd2d874d952b7f4ac3e68e8d5f8"), looks := true }, kinds := [], alts := [], laidByText := true, laidKinds := [.data], laidTests := true, laidLooks := .later }
def MsgLimitsCardSaid : Prop := Claim7.holds Tryd.pinned (.plain (OpenSpec.ofChange msgLimitsSpec)) msgLimitsCard

/-- THE SECOND FORM's CARD OF 'interregnumlaw09.MsgMarker'. -/
def msgMarkerUptoCard : Claim7 := { stood := { row := msgMarkerUptoRow, standIns := [], harness := (true, "f6530f60333f59e683b076e2e16b30d357ab9fd2d874d952b7f4ac3e68e8d5f8"), looks := true }, kinds := [], alts := [], laidByText := true, laidKinds := [.data], laidTests := true, laidLooks := .later }
def MsgMarkerUptoCardSaid : Prop := Claim7.holds Tryd.pinned (.plain (OpenSpec.upto msgMarkerSpec)) msgMarkerUptoCard

/-- THE SECOND FORM's CARD OF 'interregnumlaw09.MsgLimits'. -/
def msgLimitsUptoCard : Claim7 := { stood := { row := msgLimitsUptoRow, standIns := [], harness := (true, "f6530f60333f59e683b076e2e16b30d357ab9fd2d874d952b7f4ac3e68e8d5f8"), looks := true }, kinds := [], alts := [], laidByText := true, laidKinds := [.data], laidTests := true, laidLooks := .later }
def MsgLimitsUptoCardSaid : Prop := Claim7.holds Tryd.pinned (.plain (OpenSpec.upto msgLimitsSpec)) msgLimitsUptoCard
end Rows
end Go.Proofs.YtepnimdjcnjlfaaDoor
