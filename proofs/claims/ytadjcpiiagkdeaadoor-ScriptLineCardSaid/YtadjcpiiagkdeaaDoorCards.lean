/-
  DERIVED. GIVEN WITH THE SEED: THE CARDS: each row of YtadjcpiiagkdeaaDoorRows.lean that lists a variable, with what it lists TIED to the program's text (the seventh form; the later family's looks); each row that meets fmt, with fmt's text TOLD by the authors' own Lean function (tested against real Go, not proved from fmt's source: count such statements apart). THE CARD IS WHAT COUNTS. Prove the row's statement (the work); the ties are given (YtadjcpiiagkdeaaDoorTie.lean); close each card by the builder's one call (the guide's Derived/Test/ToyasCard.lean, 'card_holds'). Laid BY PROGRAM, IN A SANDBOX (cutbox-door.mjs). By AI agents, Wed Nov 11 2026. No macro, syntax, notation, axiom, sorry.
-/
import Derived.Test.YtadjcpiiagkdeaaDoorRows
import GoSem.ClaimSeven
namespace Go.Proofs.YtadjcpiiagkdeaaDoor
namespace Rows

/-- THE TIED CARD OF 'interregnumlaw21.RowTexts'. -/
def rowTextsCard : Claim7 := { stood := { row := rowTextsRow, standIns := [], harness := (true, "5ba65a5a1cd9b4d8609c25f265ce89e204ecb14d0635e1d1518f31c9f1aab44c"), looks := true }, kinds := [], alts := [], laidByText := true, laidKinds := [.data, .data, .data, .sentinel, .sentinel], laidTests := true, laidLooks := .later }
def RowTextsCardSaid : Prop := Claim7.holds Tryd.pinned (.plain (OpenSpec.ofChange rowTextsSpec)) rowTextsCard

/-- THE TIED CARD OF 'interregnumlaw21.RowHops'. -/
def rowHopsCard : Claim7 := { stood := { row := rowHopsRow, standIns := [], harness := (true, "5ba65a5a1cd9b4d8609c25f265ce89e204ecb14d0635e1d1518f31c9f1aab44c"), looks := true }, kinds := [], alts := [], laidByText := true, laidKinds := [.data, .data, .data, .sentinel, .sentinel], laidTests := true, laidLooks := .later }
def RowHopsCardSaid : Prop := Claim7.holds Tryd.pinned (.plain (OpenSpec.ofChange rowHopsSpec)) rowHopsCard

/-- THE TIED CARD OF 'interregnumlaw21.RowUnlike'. -/
def rowUnlikeCard : Claim7 := { stood := { row := rowUnlikeRow, standIns := [], harness := (true, "5ba65a5a1cd9b4d8609c25f265ce89e204ecb14d0635e1d1518f31c9f1aab44c"), looks := true }, kinds := [], alts := [], laidByText := true, laidKinds := [.data, .data, .data, .sentinel, .sentinel], laidTests := true, laidLooks := .later }
def RowUnlikeCardSaid : Prop := Claim7.holds Tryd.pinned (.plain (OpenSpec.ofChange rowUnlikeSpec)) rowUnlikeCard

/-- THE TIED CARD OF 'interregnumlaw21.RowPeers'. -/
def rowPeersCard : Claim7 := { stood := { row := rowPeersRow, standIns := [], harness := (true, "5ba65a5a1cd9b4d8609c25f265ce89e204ecb14d0635e1d1518f31c9f1aab44c"), looks := true }, kinds := [], alts := [], laidByText := true, laidKinds := [.data, .data, .data, .sentinel, .sentinel], laidTests := true, laidLooks := .later }
def RowPeersCardSaid : Prop := Claim7.holds Tryd.pinned (.plain (OpenSpec.ofChange rowPeersSpec)) rowPeersCard

/-- THE TIED CARD OF 'interregnumlaw24.ScriptBack'. -/
def scriptBackCard : Claim7 := { stood := { row := scriptBackRow, standIns := [], harness := (true, "5ba65a5a1cd9b4d8609c25f265ce89e204ecb14d0635e1d1518f31c9f1aab44c"), looks := true }, kinds := [], alts := [], laidByText := true, laidKinds := [.data, .data, .data, .data, .sentinel, .sentinel, .pinned], laidTests := true, laidLooks := .later }
def ScriptBackCardSaid : Prop := Claim7.holds Tryd.pinned (.plain (OpenSpec.ofChange scriptBackSpec)) scriptBackCard

/-- THE TIED CARD OF 'interregnumlaw24.ScriptReads'. -/
def scriptReadsCard : Claim7 := { stood := { row := scriptReadsRow, standIns := [], harness := (true, "5ba65a5a1cd9b4d8609c25f265ce89e204ecb14d0635e1d1518f31c9f1aab44c"), looks := true }, kinds := [], alts := [], laidByText := true, laidKinds := [.data, .data, .data, .data, .sentinel, .sentinel, .pinned], laidTests := true, laidLooks := .later }
def ScriptReadsCardSaid : Prop := Claim7.holds Tryd.pinned (.plain (OpenSpec.ofChange scriptReadsSpec)) scriptReadsCard

/-- THE TIED CARD OF 'interregnumlaw24.ScriptLine'. -/
def scriptLineCard : Claim7 := { stood := { row := scriptLineRow, standIns := [], harness := (true, "5ba65a5a1cd9b4d8609c25f265ce89e204ecb14d0635e1d1518f31c9f1aab44c"), looks := true }, kinds := [], alts := [], laidByText := true, laidKinds := [.data, .data, .data, .data, .sentinel, .sentinel, .pinned], laidTests := true, laidLooks := .later }
def ScriptLineCardSaid : Prop := Claim7.holds Tryd.pinned (.plain (OpenSpec.ofChange scriptLineSpec)) scriptLineCard

/-- THE TIED CARD OF 'interregnumlaw24.ScriptEnds'. -/
def scriptEndsCard : Claim7 := { stood := { row := scriptEndsRow, standIns := [], harness := (true, "5ba65a5a1cd9b4d8609c25f265ce89e204ecb14d0635e1d1518f31c9f1aab44c"), looks := true }, kinds := [], alts := [], laidByText := true, laidKinds := [.data, .data, .data, .data, .sentinel, .sentinel, .pinned], laidTests := true, laidLooks := .later }
def ScriptEndsCardSaid : Prop := Claim7.holds Tryd.pinned (.plain (OpenSpec.ofChange scriptEndsSpec)) scriptEndsCard

/-- THE TIED CARD OF 'interregnumlaw24.ScriptNumbers'. -/
def scriptNumbersCard : Claim7 := { stood := { row := scriptNumbersRow, standIns := [], harness := (true, "5ba65a5a1cd9b4d8609c25f265ce89e204ecb14d0635e1d1518f31c9f1aab44c"), looks := true }, kinds := [], alts := [], laidByText := true, laidKinds := [.data, .data, .data, .data, .sentinel, .sentinel, .pinned], laidTests := true, laidLooks := .later }
def ScriptNumbersCardSaid : Prop := Claim7.holds Tryd.pinned (.plain (OpenSpec.ofChange scriptNumbersSpec)) scriptNumbersCard

/-- THE SECOND FORM's CARD OF 'interregnumlaw21.RowTexts'. -/
def rowTextsUptoCard : Claim7 := { stood := { row := rowTextsUptoRow, standIns := [], harness := (true, "5ba65a5a1cd9b4d8609c25f265ce89e204ecb14d0635e1d1518f31c9f1aab44c"), looks := true }, kinds := [], alts := [], laidByText := true, laidKinds := [.data, .data, .data, .sentinel, .sentinel], laidTests := true, laidLooks := .later }
def RowTextsUptoCardSaid : Prop := Claim7.holds Tryd.pinned (.plain (OpenSpec.upto rowTextsSpec)) rowTextsUptoCard

/-- THE SECOND FORM's CARD OF 'interregnumlaw21.RowHops'. -/
def rowHopsUptoCard : Claim7 := { stood := { row := rowHopsUptoRow, standIns := [], harness := (true, "5ba65a5a1cd9b4d8609c25f265ce89e204ecb14d0635e1d1518f31c9f1aab44c"), looks := true }, kinds := [], alts := [], laidByText := true, laidKinds := [.data, .data, .data, .sentinel, .sentinel], laidTests := true, laidLooks := .later }
def RowHopsUptoCardSaid : Prop := Claim7.holds Tryd.pinned (.plain (OpenSpec.upto rowHopsSpec)) rowHopsUptoCard

/-- THE SECOND FORM's CARD OF 'interregnumlaw21.RowUnlike'. -/
def rowUnlikeUptoCard : Claim7 := { stood := { row := rowUnlikeUptoRow, standIns := [], harness := (true, "5ba65a5a1cd9b4d8609c25f265ce89e204ecb14d0635e1d1518f31c9f1aab44c"), looks := true }, kinds := [], alts := [], laidByText := true, laidKinds := [.data, .data, .data, .sentinel, .sentinel], laidTests := true, laidLooks := .later }
def RowUnlikeUptoCardSaid : Prop := Claim7.holds Tryd.pinned (.plain (OpenSpec.upto rowUnlikeSpec)) rowUnlikeUptoCard

/-- THE SECOND FORM's CARD OF 'interregnumlaw21.RowPeers'. -/
def rowPeersUptoCard : Claim7 := { stood := { row := rowPeersUptoRow, standIns := [], harness := (true, "5ba65a5a1cd9b4d8609c25f265ce89e204ecb14d0635e1d1518f31c9f1aab44c"), looks := true }, kinds := [], alts := [], laidByText := true, laidKinds := [.data, .data, .data, .sentinel, .sentinel], laidTests := true, laidLooks := .later }
def RowPeersUptoCardSaid : Prop := Claim7.holds Tryd.pinned (.plain (OpenSpec.upto rowPeersSpec)) rowPeersUptoCard

/-- THE SECOND FORM's CARD OF 'interregnumlaw24.ScriptBack'. -/
def scriptBackUptoCard : Claim7 := { stood := { row := scriptBackUptoRow, standIns := [], harness := (true, "5ba65a5a1cd9b4d8609c25f265ce89e204ecb14d0635e1d1518f31c9f1aab44c"), looks := true }, kinds := [], alts := [], laidByText := true, laidKinds := [.data, .data, .data, .data, .sentinel, .sentinel, .pinned], laidTests := true, laidLooks := .later }
def ScriptBackUptoCardSaid : Prop := Claim7.holds Tryd.pinned (.plain (OpenSpec.upto scriptBackSpec)) scriptBackUptoCard

/-- THE SECOND FORM's CARD OF 'interregnumlaw24.ScriptReads'. -/
def scriptReadsUptoCard : Claim7 := { stood := { row := scriptReadsUptoRow, standIns := [], harness := (true, "5ba65a5a1cd9b4d8609c25f265ce89e204ecb14d0635e1d1518f31c9f1aab44c"), looks := true }, kinds := [], alts := [], laidByText := true, laidKinds := [.data, .data, .data, .data, .sentinel, .sentinel, .pinned], laidTests := true, laidLooks := .later }
def ScriptReadsUptoCardSaid : Prop := Claim7.holds Tryd.pinned (.plain (OpenSpec.upto scriptReadsSpec)) scriptReadsUptoCard

/-- THE SECOND FORM's CARD OF 'interregnumlaw24.ScriptLine'. -/
def scriptLineUptoCard : Claim7 := { stood := { row := scriptLineUptoRow, standIns := [], harness := (true, "5ba65a5a1cd9b4d8609c25f265ce89e204ecb14d0635e1d1518f31c9f1aab44c"), looks := true }, kinds := [], alts := [], laidByText := true, laidKinds := [.data, .data, .data, .data, .sentinel, .sentinel, .pinned], laidTests := true, laidLooks := .later }
def ScriptLineUptoCardSaid : Prop := Claim7.holds Tryd.pinned (.plain (OpenSpec.upto scriptLineSpec)) scriptLineUptoCard

/-- THE SECOND FORM's CARD OF 'interregnumlaw24.ScriptEnds'. -/
def scriptEndsUptoCard : Claim7 := { stood := { row := scriptEndsUptoRow, standIns := [], harness := (true, "5ba65a5a1cd9b4d8609c25f265ce89e204ecb14d0635e1d1518f31c9f1aab44c"), looks := true }, kinds := [], alts := [], laidByText := true, laidKinds := [.data, .data, .data, .data, .sentinel, .sentinel, .pinned], laidTests := true, laidLooks := .later }
def ScriptEndsUptoCardSaid : Prop := Claim7.holds Tryd.pinned (.plain (OpenSpec.upto scriptEndsSpec)) scriptEndsUptoCard

/-- THE SECOND FORM's CARD OF 'interregnumlaw24.ScriptNumbers'. -/
def scriptNumbersUptoCard : Claim7 := { stood := { row := scriptNumbersUptoRow, standIns := [], harness := (true, "5ba65a5a1cd9b4d8609c25f265ce89e204ecb14d0635e1d1518f31c9f1aab44c"), looks := true }, kinds := [], alts := [], laidByText := true, laidKinds := [.data, .data, .data, .data, .sentinel, .sentinel, .pinned], laidTests := true, laidLooks := .later }
def ScriptNumbersUptoCardSaid : Prop := Claim7.holds Tryd.pinned (.plain (OpenSpec.upto scriptNumbersSpec)) scriptNumbersUptoCard
end Rows
end Go.Proofs.YtadjcpiiagkdeaaDoor
