/-
  DERIVED. GIVEN WITH THE SEED: THE CARDS: each row of YtadmpldpipagnaaDoorRows.lean that lists a variable, with what it lists TIED to the program's text (the seventh form; the later family's looks); each row that meets fmt, with fmt's text TOLD by the authors' own Lean function (tested against real Go, not proved from fmt's source: count such statements apart). THE CARD IS WHAT COUNTS. Prove the row's statement (the work); the ties are given (YtadmpldpipagnaaDoorTie.lean); close each card by the builder's one call (the guide's Derived/Test/ToyasCard.lean, 'card_holds'). Laid BY PROGRAM, IN A SANDBOX (cutbox-door.mjs). By AI agents, Wed Nov 11 2026. No macro, syntax, notation, axiom, sorry.
-/
import Derived.Test.YtadmpldpipagnaaDoorRows
import GoSem.ClaimSeven
namespace Go.Proofs.YtadmpldpipagnaaDoor
namespace Rows

/-- THE TIED CARD OF 'interregnumlaw10.StreamMany'. -/
def streamManyCard : Claim7 := { stood := { row := streamManyRow, standIns := [], harness := (true, "1f82ac2102be7bc3192d87ae4a0c987b394db890f065c7ff067d59357a275ae2"), looks := true }, kinds := [], alts := [], laidByText := true, laidKinds := [.data], laidTests := true, laidLooks := .later }
def StreamManyCardSaid : Prop := Claim7.holds Tryd.pinned (.plain (OpenSpec.ofChange streamManySpec)) streamManyCard

/-- THE TIED CARD OF 'interregnumlaw10.StreamOwn'. -/
def streamOwnCard : Claim7 := { stood := { row := streamOwnRow, standIns := [], harness := (true, "1f82ac2102be7bc3192d87ae4a0c987b394db890f065c7ff067d59357a275ae2"), looks := true }, kinds := [], alts := [], laidByText := true, laidKinds := [.data], laidTests := true, laidLooks := .later }
def StreamOwnCardSaid : Prop := Claim7.holds Tryd.pinned (.plain (OpenSpec.ofChange streamOwnSpec)) streamOwnCard

/-- THE TIED CARD OF 'interregnumlaw10.StreamJunk'. -/
def streamJunkCard : Claim7 := { stood := { row := streamJunkRow, standIns := [], harness := (true, "1f82ac2102be7bc3192d87ae4a0c987b394db890f065c7ff067d59357a275ae2"), looks := true }, kinds := [], alts := [], laidByText := true, laidKinds := [.data], laidTests := true, laidLooks := .later }
def StreamJunkCardSaid : Prop := Claim7.holds Tryd.pinned (.plain (OpenSpec.ofChange streamJunkSpec)) streamJunkCard

/-- THE SECOND FORM's CARD OF 'interregnumlaw10.StreamMany'. -/
def streamManyUptoCard : Claim7 := { stood := { row := streamManyUptoRow, standIns := [], harness := (true, "1f82ac2102be7bc3192d87ae4a0c987b394db890f065c7ff067d59357a275ae2"), looks := true }, kinds := [], alts := [], laidByText := true, laidKinds := [.data], laidTests := true, laidLooks := .later }
def StreamManyUptoCardSaid : Prop := Claim7.holds Tryd.pinned (.plain (OpenSpec.upto streamManySpec)) streamManyUptoCard

/-- THE SECOND FORM's CARD OF 'interregnumlaw10.StreamOwn'. -/
def streamOwnUptoCard : Claim7 := { stood := { row := streamOwnUptoRow, standIns := [], harness := (true, "1f82ac2102be7bc3192d87ae4a0c987b394db890f065c7ff067d59357a275ae2"), looks := true }, kinds := [], alts := [], laidByText := true, laidKinds := [.data], laidTests := true, laidLooks := .later }
def StreamOwnUptoCardSaid : Prop := Claim7.holds Tryd.pinned (.plain (OpenSpec.upto streamOwnSpec)) streamOwnUptoCard

/-- THE SECOND FORM's CARD OF 'interregnumlaw10.StreamJunk'. -/
def streamJunkUptoCard : Claim7 := { stood := { row := streamJunkUptoRow, standIns := [], harness := (true, "1f82ac2102be7bc3192d87ae4a0c987b394db890f065c7ff067d59357a275ae2"), looks := true }, kinds := [], alts := [], laidByText := true, laidKinds := [.data], laidTests := true, laidLooks := .later }
def StreamJunkUptoCardSaid : Prop := Claim7.holds Tryd.pinned (.plain (OpenSpec.upto streamJunkSpec)) streamJunkUptoCard
end Rows
end Go.Proofs.YtadmpldpipagnaaDoor
