/-
  DERIVED. GIVEN WITH THE SEED: THE CARDS: each row of YtkmmnfcjbalboaaDoorRows.lean that lists a variable, with what it lists TIED to the program's text (the seventh form; the later family's looks); each row that meets fmt, with fmt's text TOLD by the authors' own Lean function (tested against real Go, not proved from fmt's source: count such statements apart). THE CARD IS WHAT COUNTS. Prove the row's statement (the work); the ties are given (YtkmmnfcjbalboaaDoorTie.lean); close each card by the builder's one call (the guide's Derived/Test/ToyasCard.lean, 'card_holds'). Laid BY PROGRAM, IN A SANDBOX (cutbox-door.mjs). By AI agents, Wed Nov 11 2026. No macro, syntax, notation, axiom, sorry.
-/
import Derived.Test.YtkmmnfcjbalboaaDoorRows
import GoSem.ClaimSeven
namespace Go.Proofs.YtkmmnfcjbalboaaDoor
namespace Rows

/-- THE TIED CARD OF 'interregnumlaw07.AttrBack'. -/
def attrBackCard : Claim7 := { stood := { row := attrBackRow, standIns := [], harness := (true, "7d5536f19d87065dac55130489620fa33894d0270af962ebead7159f29b54d3b"), looks := true }, kinds := [], alts := [], laidByText := true, laidKinds := [.data], laidTests := true, laidLooks := .later }
def AttrBackCardSaid : Prop := Claim7.holds Tryd.pinned (.plain (OpenSpec.ofChange attrBackSpec)) attrBackCard

/-- THE TIED CARD OF 'interregnumlaw07.AttrReads'. -/
def attrReadsCard : Claim7 := { stood := { row := attrReadsRow, standIns := [], harness := (true, "7d5536f19d87065dac55130489620fa33894d0270af962ebead7159f29b54d3b"), looks := true }, kinds := [], alts := [], laidByText := true, laidKinds := [.data], laidTests := true, laidLooks := .later }
def AttrReadsCardSaid : Prop := Claim7.holds Tryd.pinned (.plain (OpenSpec.ofChange attrReadsSpec)) attrReadsCard

/-- THE TIED CARD OF 'interregnumlaw07.AttrSame'. -/
def attrSameCard : Claim7 := { stood := { row := attrSameRow, standIns := [], harness := (true, "7d5536f19d87065dac55130489620fa33894d0270af962ebead7159f29b54d3b"), looks := true }, kinds := [], alts := [], laidByText := true, laidKinds := [.data], laidTests := true, laidLooks := .later }
def AttrSameCardSaid : Prop := Claim7.holds Tryd.pinned (.plain (OpenSpec.ofChange attrSameSpec)) attrSameCard

/-- THE TIED CARD OF 'interregnumlaw07.AttrOrder'. -/
def attrOrderCard : Claim7 := { stood := { row := attrOrderRow, standIns := [], harness := (true, "7d5536f19d87065dac55130489620fa33894d0270af962ebead7159f29b54d3b"), looks := true }, kinds := [], alts := [], laidByText := true, laidKinds := [.data], laidTests := true, laidLooks := .later }
def AttrOrderCardSaid : Prop := Claim7.holds Tryd.pinned (.plain (OpenSpec.ofChange attrOrderSpec)) attrOrderCard

/-- THE TIED CARD OF 'interregnumlaw07.AttrMissing'. -/
def attrMissingCard : Claim7 := { stood := { row := attrMissingRow, standIns := [], harness := (true, "7d5536f19d87065dac55130489620fa33894d0270af962ebead7159f29b54d3b"), looks := true }, kinds := [], alts := [], laidByText := true, laidKinds := [.data], laidTests := true, laidLooks := .later }
def AttrMissingCardSaid : Prop := Claim7.holds Tryd.pinned (.plain (OpenSpec.ofChange attrMissingSpec)) attrMissingCard

/-- THE TIED CARD OF 'interregnumlaw07.AttrFlags'. -/
def attrFlagsCard : Claim7 := { stood := { row := attrFlagsRow, standIns := [], harness := (true, "7d5536f19d87065dac55130489620fa33894d0270af962ebead7159f29b54d3b"), looks := true }, kinds := [], alts := [], laidByText := true, laidKinds := [.data], laidTests := true, laidLooks := .later }
def AttrFlagsCardSaid : Prop := Claim7.holds Tryd.pinned (.plain (OpenSpec.ofChange attrFlagsSpec)) attrFlagsCard

/-- THE TIED CARD OF 'interregnumlaw07.AttrUnknown'. -/
def attrUnknownCard : Claim7 := { stood := { row := attrUnknownRow, standIns := [], harness := (true, "7d5536f19d87065dac55130489620fa33894d0270af962ebead7159f29b54d3b"), looks := true }, kinds := [], alts := [], laidByText := true, laidKinds := [.data], laidTests := true, laidLooks := .later }
def AttrUnknownCardSaid : Prop := Claim7.holds Tryd.pinned (.plain (OpenSpec.ofChange attrUnknownSpec)) attrUnknownCard

/-- THE SECOND FORM's CARD OF 'interregnumlaw07.AttrBack'. -/
def attrBackUptoCard : Claim7 := { stood := { row := attrBackUptoRow, standIns := [], harness := (true, "7d5536f19d87065dac55130489620fa33894d0270af962ebead7159f29b54d3b"), looks := true }, kinds := [], alts := [], laidByText := true, laidKinds := [.data], laidTests := true, laidLooks := .later }
def AttrBackUptoCardSaid : Prop := Claim7.holds Tryd.pinned (.plain (OpenSpec.upto attrBackSpec)) attrBackUptoCard

/-- THE SECOND FORM's CARD OF 'interregnumlaw07.AttrReads'. -/
def attrReadsUptoCard : Claim7 := { stood := { row := attrReadsUptoRow, standIns := [], harness := (true, "7d5536f19d87065dac55130489620fa33894d0270af962ebead7159f29b54d3b"), looks := true }, kinds := [], alts := [], laidByText := true, laidKinds := [.data], laidTests := true, laidLooks := .later }
def AttrReadsUptoCardSaid : Prop := Claim7.holds Tryd.pinned (.plain (OpenSpec.upto attrReadsSpec)) attrReadsUptoCard

/-- THE SECOND FORM's CARD OF 'interregnumlaw07.AttrSame'. -/
def attrSameUptoCard : Claim7 := { stood := { row := attrSameUptoRow, standIns := [], harness := (true, "7d5536f19d87065dac55130489620fa33894d0270af962ebead7159f29b54d3b"), looks := true }, kinds := [], alts := [], laidByText := true, laidKinds := [.data], laidTests := true, laidLooks := .later }
def AttrSameUptoCardSaid : Prop := Claim7.holds Tryd.pinned (.plain (OpenSpec.upto attrSameSpec)) attrSameUptoCard

/-- THE SECOND FORM's CARD OF 'interregnumlaw07.AttrOrder'. -/
def attrOrderUptoCard : Claim7 := { stood := { row := attrOrderUptoRow, standIns := [], harness := (true, "7d5536f19d87065dac55130489620fa33894d0270af962ebead7159f29b54d3b"), looks := true }, kinds := [], alts := [], laidByText := true, laidKinds := [.data], laidTests := true, laidLooks := .later }
def AttrOrderUptoCardSaid : Prop := Claim7.holds Tryd.pinned (.plain (OpenSpec.upto attrOrderSpec)) attrOrderUptoCard

/-- THE SECOND FORM's CARD OF 'interregnumlaw07.AttrMissing'. -/
def attrMissingUptoCard : Claim7 := { stood := { row := attrMissingUptoRow, standIns := [], harness := (true, "7d5536f19d87065dac55130489620fa33894d0270af962ebead7159f29b54d3b"), looks := true }, kinds := [], alts := [], laidByText := true, laidKinds := [.data], laidTests := true, laidLooks := .later }
def AttrMissingUptoCardSaid : Prop := Claim7.holds Tryd.pinned (.plain (OpenSpec.upto attrMissingSpec)) attrMissingUptoCard

/-- THE SECOND FORM's CARD OF 'interregnumlaw07.AttrFlags'. -/
def attrFlagsUptoCard : Claim7 := { stood := { row := attrFlagsUptoRow, standIns := [], harness := (true, "7d5536f19d87065dac55130489620fa33894d0270af962ebead7159f29b54d3b"), looks := true }, kinds := [], alts := [], laidByText := true, laidKinds := [.data], laidTests := true, laidLooks := .later }
def AttrFlagsUptoCardSaid : Prop := Claim7.holds Tryd.pinned (.plain (OpenSpec.upto attrFlagsSpec)) attrFlagsUptoCard

/-- THE SECOND FORM's CARD OF 'interregnumlaw07.AttrUnknown'. -/
def attrUnknownUptoCard : Claim7 := { stood := { row := attrUnknownUptoRow, standIns := [], harness := (true, "7d5536f19d87065dac55130489620fa33894d0270af962ebead7159f29b54d3b"), looks := true }, kinds := [], alts := [], laidByText := true, laidKinds := [.data], laidTests := true, laidLooks := .later }
def AttrUnknownUptoCardSaid : Prop := Claim7.holds Tryd.pinned (.plain (OpenSpec.upto attrUnknownSpec)) attrUnknownUptoCard
end Rows
end Go.Proofs.YtkmmnfcjbalboaaDoor
