/-
  DERIVED. GIVEN WITH THE SEED: THE CARDS: each row of YtokdfjelilhekaaDoorRows.lean that lists a variable, with what it lists TIED to the program's text (the seventh form; the later family's looks); each row that meets fmt, with fmt's text TOLD by the authors' own Lean function (tested against real Go, not proved from fmt's source: count such statements apart). THE CARD IS WHAT COUNTS. Prove the row's statement (the work); the ties are given (YtokdfjelilhekaaDoorTie.lean); close each card by the builder's one call (the guide's Derived/Test/ToyasCard.lean, 'card_holds'). Laid BY PROGRAM, IN A SANDBOX (cutbox-door.mjs). By AI agents, Wed Nov 11 2026. No macro, syntax, notation, axiom, sorry.
-/
import Derived.Test.YtokdfjelilhekaaDoorRows
import GoSem.ClaimSeven
namespace Go.Proofs.YtokdfjelilhekaaDoor
namespace Rows

/-- THE TIED CARD OF 'almagestlaw15.TreeDoes'. -/
def treeDoesCard : Claim7 := { stood := { row := treeDoesRow, standIns := [], harness := (true, "4e9d58d4572607adca996765bd59d579cc081f5c4a473c82a35263225debb448"), looks := false }, kinds := [], alts := [], laidByText := true, laidKinds := [.data, .data], laidTests := true, laidLooks := .later }
def TreeDoesCardSaid : Prop := Claim7.holds Tryd.pinned (.plain (OpenSpec.ofChange treeDoesSpec)) treeDoesCard

/-- THE TIED CARD OF 'almagestlaw15.TreeLeads'. -/
def treeLeadsCard : Claim7 := { stood := { row := treeLeadsRow, standIns := [], harness := (true, "4e9d58d4572607adca996765bd59d579cc081f5c4a473c82a35263225debb448"), looks := false }, kinds := [], alts := [], laidByText := true, laidKinds := [.data], laidTests := true, laidLooks := .later }
def TreeLeadsCardSaid : Prop := Claim7.holds Tryd.pinned (.plain (OpenSpec.ofChange treeLeadsSpec)) treeLeadsCard

/-- THE TIED CARD OF 'almagestlaw15.TreeOrder'. -/
def treeOrderCard : Claim7 := { stood := { row := treeOrderRow, standIns := [], harness := (true, "4e9d58d4572607adca996765bd59d579cc081f5c4a473c82a35263225debb448"), looks := false }, kinds := [], alts := [], laidByText := true, laidKinds := [.data], laidTests := true, laidLooks := .later }
def TreeOrderCardSaid : Prop := Claim7.holds Tryd.pinned (.plain (OpenSpec.ofChange treeOrderSpec)) treeOrderCard

/-- THE TIED CARD OF 'almagestlaw15.TreeAlone'. -/
def treeAloneCard : Claim7 := { stood := { row := treeAloneRow, standIns := [], harness := (true, "4e9d58d4572607adca996765bd59d579cc081f5c4a473c82a35263225debb448"), looks := false }, kinds := [], alts := [], laidByText := true, laidKinds := [.data], laidTests := true, laidLooks := .later }
def TreeAloneCardSaid : Prop := Claim7.holds Tryd.pinned (.plain (OpenSpec.ofChange treeAloneSpec)) treeAloneCard

/-- THE TIED CARD OF 'almagestlaw16.ProofTells'. -/
def proofTellsCard : Claim7 := { stood := { row := proofTellsRow, standIns := [], harness := (true, "4e9d58d4572607adca996765bd59d579cc081f5c4a473c82a35263225debb448"), looks := false }, kinds := [], alts := [], laidByText := true, laidKinds := [.data, .data], laidTests := true, laidLooks := .later }
def ProofTellsCardSaid : Prop := Claim7.holds Tryd.pinned (.plain (OpenSpec.ofChange proofTellsSpec)) proofTellsCard

/-- THE TIED CARD OF 'almagestlaw16.ProofClash'. -/
def proofClashCard : Claim7 := { stood := { row := proofClashRow, standIns := [], harness := (true, "4e9d58d4572607adca996765bd59d579cc081f5c4a473c82a35263225debb448"), looks := false }, kinds := [], alts := [], laidByText := true, laidKinds := [.data, .data], laidTests := true, laidLooks := .later }
def ProofClashCardSaid : Prop := Claim7.holds Tryd.pinned (.plain (OpenSpec.ofChange proofClashSpec)) proofClashCard

/-- THE TIED CARD OF 'almagestlaw16.ProofMoved'. -/
def proofMovedCard : Claim7 := { stood := { row := proofMovedRow, standIns := [], harness := (true, "4e9d58d4572607adca996765bd59d579cc081f5c4a473c82a35263225debb448"), looks := false }, kinds := [], alts := [], laidByText := true, laidKinds := [.data], laidTests := true, laidLooks := .later }
def ProofMovedCardSaid : Prop := Claim7.holds Tryd.pinned (.plain (OpenSpec.ofChange proofMovedSpec)) proofMovedCard

/-- THE TIED CARD OF 'almagestlaw16.ProofAccepts'. -/
def proofAcceptsCard : Claim7 := { stood := { row := proofAcceptsRow, standIns := [], harness := (true, "4e9d58d4572607adca996765bd59d579cc081f5c4a473c82a35263225debb448"), looks := false }, kinds := [], alts := [], laidByText := true, laidKinds := [.data], laidTests := true, laidLooks := .later }
def ProofAcceptsCardSaid : Prop := Claim7.holds Tryd.pinned (.plain (OpenSpec.ofChange proofAcceptsSpec)) proofAcceptsCard

/-- THE SECOND FORM's CARD OF 'almagestlaw15.TreeDoes'. -/
def treeDoesUptoCard : Claim7 := { stood := { row := treeDoesUptoRow, standIns := [], harness := (true, "4e9d58d4572607adca996765bd59d579cc081f5c4a473c82a35263225debb448"), looks := false }, kinds := [], alts := [], laidByText := true, laidKinds := [.data, .data], laidTests := true, laidLooks := .later }
def TreeDoesUptoCardSaid : Prop := Claim7.holds Tryd.pinned (.plain (OpenSpec.upto treeDoesSpec)) treeDoesUptoCard

/-- THE SECOND FORM's CARD OF 'almagestlaw15.TreeLeads'. -/
def treeLeadsUptoCard : Claim7 := { stood := { row := treeLeadsUptoRow, standIns := [], harness := (true, "4e9d58d4572607adca996765bd59d579cc081f5c4a473c82a35263225debb448"), looks := false }, kinds := [], alts := [], laidByText := true, laidKinds := [.data], laidTests := true, laidLooks := .later }
def TreeLeadsUptoCardSaid : Prop := Claim7.holds Tryd.pinned (.plain (OpenSpec.upto treeLeadsSpec)) treeLeadsUptoCard

/-- THE SECOND FORM's CARD OF 'almagestlaw15.TreeOrder'. -/
def treeOrderUptoCard : Claim7 := { stood := { row := treeOrderUptoRow, standIns := [], harness := (true, "4e9d58d4572607adca996765bd59d579cc081f5c4a473c82a35263225debb448"), looks := false }, kinds := [], alts := [], laidByText := true, laidKinds := [.data], laidTests := true, laidLooks := .later }
def TreeOrderUptoCardSaid : Prop := Claim7.holds Tryd.pinned (.plain (OpenSpec.upto treeOrderSpec)) treeOrderUptoCard

/-- THE SECOND FORM's CARD OF 'almagestlaw15.TreeAlone'. -/
def treeAloneUptoCard : Claim7 := { stood := { row := treeAloneUptoRow, standIns := [], harness := (true, "4e9d58d4572607adca996765bd59d579cc081f5c4a473c82a35263225debb448"), looks := false }, kinds := [], alts := [], laidByText := true, laidKinds := [.data], laidTests := true, laidLooks := .later }
def TreeAloneUptoCardSaid : Prop := Claim7.holds Tryd.pinned (.plain (OpenSpec.upto treeAloneSpec)) treeAloneUptoCard

/-- THE SECOND FORM's CARD OF 'almagestlaw16.ProofTells'. -/
def proofTellsUptoCard : Claim7 := { stood := { row := proofTellsUptoRow, standIns := [], harness := (true, "4e9d58d4572607adca996765bd59d579cc081f5c4a473c82a35263225debb448"), looks := false }, kinds := [], alts := [], laidByText := true, laidKinds := [.data, .data], laidTests := true, laidLooks := .later }
def ProofTellsUptoCardSaid : Prop := Claim7.holds Tryd.pinned (.plain (OpenSpec.upto proofTellsSpec)) proofTellsUptoCard

/-- THE SECOND FORM's CARD OF 'almagestlaw16.ProofClash'. -/
def proofClashUptoCard : Claim7 := { stood := { row := proofClashUptoRow, standIns := [], harness := (true, "4e9d58d4572607adca996765bd59d579cc081f5c4a473c82a35263225debb448"), looks := false }, kinds := [], alts := [], laidByText := true, laidKinds := [.data, .data], laidTests := true, laidLooks := .later }
def ProofClashUptoCardSaid : Prop := Claim7.holds Tryd.pinned (.plain (OpenSpec.upto proofClashSpec)) proofClashUptoCard

/-- THE SECOND FORM's CARD OF 'almagestlaw16.ProofMoved'. -/
def proofMovedUptoCard : Claim7 := { stood := { row := proofMovedUptoRow, standIns := [], harness := (true, "4e9d58d4572607adca996765bd59d579cc081f5c4a473c82a35263225debb448"), looks := false }, kinds := [], alts := [], laidByText := true, laidKinds := [.data], laidTests := true, laidLooks := .later }
def ProofMovedUptoCardSaid : Prop := Claim7.holds Tryd.pinned (.plain (OpenSpec.upto proofMovedSpec)) proofMovedUptoCard

/-- THE SECOND FORM's CARD OF 'almagestlaw16.ProofAccepts'. -/
def proofAcceptsUptoCard : Claim7 := { stood := { row := proofAcceptsUptoRow, standIns := [], harness := (true, "4e9d58d4572607adca996765bd59d579cc081f5c4a473c82a35263225debb448"), looks := false }, kinds := [], alts := [], laidByText := true, laidKinds := [.data], laidTests := true, laidLooks := .later }
def ProofAcceptsUptoCardSaid : Prop := Claim7.holds Tryd.pinned (.plain (OpenSpec.upto proofAcceptsSpec)) proofAcceptsUptoCard
end Rows
end Go.Proofs.YtokdfjelilhekaaDoor
