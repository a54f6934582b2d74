/-
  DERIVED. GIVEN WITH THE SEED: THE CARDS: each row of YtmnehhpfbmoahaaDoorRows.lean that lists a variable, with what it lists TIED to the program's text (the seventh form; the later family's looks); each row that meets fmt, with fmt's text TOLD by the authors' own Lean function (tested against real Go, not proved from fmt's source: count such statements apart). THE CARD IS WHAT COUNTS. Prove the row's statement (the work); the ties are given (YtmnehhpfbmoahaaDoorTie.lean); close each card by the builder's one call (the guide's Derived/Test/ToyasCard.lean, 'card_holds'). Laid BY PROGRAM, IN A SANDBOX (cutbox-door.mjs). By AI agents, Wed Nov 11 2026. No macro, syntax, notation, axiom, sorry.
-/
import Derived.Test.YtmnehhpfbmoahaaDoorRows
import GoSem.ClaimSeven
namespace Go.Proofs.YtmnehhpfbmoahaaDoor
namespace Rows

/-- THE TIED CARD OF 'almagestlaw08.EpochTells'. -/
def epochTellsCard : Claim7 := { stood := { row := epochTellsRow, standIns := [], harness := (true, "b6a4ea6cb61e0d01f3dbd37aed29265e33fd8127019479cf5f040513dfc5b12c"), looks := false }, kinds := [], alts := [], laidByText := true, laidKinds := [.data, .data], laidTests := true, laidLooks := .later }
def EpochTellsCardSaid : Prop := Claim7.holds Tryd.pinned (.plain (OpenSpec.ofChange epochTellsSpec)) epochTellsCard

/-- THE TIED CARD OF 'almagestlaw08.EpochHistory'. -/
def epochHistoryCard : Claim7 := { stood := { row := epochHistoryRow, standIns := [], harness := (true, "b6a4ea6cb61e0d01f3dbd37aed29265e33fd8127019479cf5f040513dfc5b12c"), looks := false }, kinds := [], alts := [], laidByText := true, laidKinds := [.data, .data], laidTests := true, laidLooks := .later }
def EpochHistoryCardSaid : Prop := Claim7.holds Tryd.pinned (.plain (OpenSpec.ofChange epochHistorySpec)) epochHistoryCard

/-- THE TIED CARD OF 'almagestlaw08.EpochDraws'. -/
def epochDrawsCard : Claim7 := { stood := { row := epochDrawsRow, standIns := [], harness := (true, "b6a4ea6cb61e0d01f3dbd37aed29265e33fd8127019479cf5f040513dfc5b12c"), looks := false }, kinds := [], alts := [], laidByText := true, laidKinds := [.data, .data], laidTests := true, laidLooks := .later }
def EpochDrawsCardSaid : Prop := Claim7.holds Tryd.pinned (.plain (OpenSpec.ofChange epochDrawsSpec)) epochDrawsCard

/-- THE TIED CARD OF 'almagestlaw08.EpochTurn'. -/
def epochTurnCard : Claim7 := { stood := { row := epochTurnRow, standIns := [], harness := (true, "b6a4ea6cb61e0d01f3dbd37aed29265e33fd8127019479cf5f040513dfc5b12c"), looks := false }, kinds := [], alts := [], laidByText := true, laidKinds := [.data, .data], laidTests := true, laidLooks := .later }
def EpochTurnCardSaid : Prop := Claim7.holds Tryd.pinned (.plain (OpenSpec.ofChange epochTurnSpec)) epochTurnCard

/-- THE TIED CARD OF 'almagestlaw15.TreeDoes'. -/
def treeDoesCard : Claim7 := { stood := { row := treeDoesRow, standIns := [], harness := (true, "b6a4ea6cb61e0d01f3dbd37aed29265e33fd8127019479cf5f040513dfc5b12c"), looks := false }, kinds := [], alts := [], laidByText := true, laidKinds := [.data, .data], laidTests := true, laidLooks := .later }
def TreeDoesCardSaid : Prop := Claim7.holds Tryd.pinned (.plain (OpenSpec.ofChange treeDoesSpec)) treeDoesCard

/-- THE TIED CARD OF 'almagestlaw15.TreeLeads'. -/
def treeLeadsCard : Claim7 := { stood := { row := treeLeadsRow, standIns := [], harness := (true, "b6a4ea6cb61e0d01f3dbd37aed29265e33fd8127019479cf5f040513dfc5b12c"), looks := false }, kinds := [], alts := [], laidByText := true, laidKinds := [.data], laidTests := true, laidLooks := .later }
def TreeLeadsCardSaid : Prop := Claim7.holds Tryd.pinned (.plain (OpenSpec.ofChange treeLeadsSpec)) treeLeadsCard

/-- THE TIED CARD OF 'almagestlaw15.TreeOrder'. -/
def treeOrderCard : Claim7 := { stood := { row := treeOrderRow, standIns := [], harness := (true, "b6a4ea6cb61e0d01f3dbd37aed29265e33fd8127019479cf5f040513dfc5b12c"), looks := false }, kinds := [], alts := [], laidByText := true, laidKinds := [.data], laidTests := true, laidLooks := .later }
def TreeOrderCardSaid : Prop := Claim7.holds Tryd.pinned (.plain (OpenSpec.ofChange treeOrderSpec)) treeOrderCard

/-- THE TIED CARD OF 'almagestlaw15.TreeAlone'. -/
def treeAloneCard : Claim7 := { stood := { row := treeAloneRow, standIns := [], harness := (true, "b6a4ea6cb61e0d01f3dbd37aed29265e33fd8127019479cf5f040513dfc5b12c"), looks := false }, kinds := [], alts := [], laidByText := true, laidKinds := [.data], laidTests := true, laidLooks := .later }
def TreeAloneCardSaid : Prop := Claim7.holds Tryd.pinned (.plain (OpenSpec.ofChange treeAloneSpec)) treeAloneCard

/-- THE TIED CARD OF 'almagestlaw12.OrderTells'. -/
def orderTellsCard : Claim7 := { stood := { row := orderTellsRow, standIns := [], harness := (true, "b6a4ea6cb61e0d01f3dbd37aed29265e33fd8127019479cf5f040513dfc5b12c"), looks := false }, kinds := [], alts := [], laidByText := true, laidKinds := [.data, .data], laidTests := true, laidLooks := .later }
def OrderTellsCardSaid : Prop := Claim7.holds Tryd.pinned (.plain (OpenSpec.ofChange orderTellsSpec)) orderTellsCard

/-- THE TIED CARD OF 'almagestlaw12.OrderIs'. -/
def orderIsCard : Claim7 := { stood := { row := orderIsRow, standIns := [], harness := (true, "b6a4ea6cb61e0d01f3dbd37aed29265e33fd8127019479cf5f040513dfc5b12c"), looks := false }, kinds := [], alts := [], laidByText := true, laidKinds := [.data], laidTests := true, laidLooks := .later }
def OrderIsCardSaid : Prop := Claim7.holds Tryd.pinned (.plain (OpenSpec.ofChange orderIsSpec)) orderIsCard

/-- THE TIED CARD OF 'almagestlaw12.OrderGreatest'. -/
def orderGreatestCard : Claim7 := { stood := { row := orderGreatestRow, standIns := [], harness := (true, "b6a4ea6cb61e0d01f3dbd37aed29265e33fd8127019479cf5f040513dfc5b12c"), looks := false }, kinds := [], alts := [], laidByText := true, laidKinds := [.data], laidTests := true, laidLooks := .later }
def OrderGreatestCardSaid : Prop := Claim7.holds Tryd.pinned (.plain (OpenSpec.ofChange orderGreatestSpec)) orderGreatestCard

/-- THE TIED CARD OF 'almagestlaw09.StateTells'. -/
def stateTellsCard : Claim7 := { stood := { row := stateTellsRow, standIns := [], harness := (true, "b6a4ea6cb61e0d01f3dbd37aed29265e33fd8127019479cf5f040513dfc5b12c"), looks := false }, kinds := [], alts := [], laidByText := true, laidKinds := [.data, .data], laidTests := true, laidLooks := .later }
def StateTellsCardSaid : Prop := Claim7.holds Tryd.pinned (.plain (OpenSpec.ofChange stateTellsSpec)) stateTellsCard

/-- THE TIED CARD OF 'almagestlaw09.StateReads'. -/
def stateReadsCard : Claim7 := { stood := { row := stateReadsRow, standIns := [], harness := (true, "b6a4ea6cb61e0d01f3dbd37aed29265e33fd8127019479cf5f040513dfc5b12c"), looks := false }, kinds := [], alts := [], laidByText := true, laidKinds := [.data], laidTests := true, laidLooks := .later }
def StateReadsCardSaid : Prop := Claim7.holds Tryd.pinned (.plain (OpenSpec.ofChange stateReadsSpec)) stateReadsCard

/-- THE TIED CARD OF 'almagestlaw09.StateBack'. -/
def stateBackCard : Claim7 := { stood := { row := stateBackRow, standIns := [], harness := (true, "b6a4ea6cb61e0d01f3dbd37aed29265e33fd8127019479cf5f040513dfc5b12c"), looks := false }, kinds := [], alts := [], laidByText := true, laidKinds := [.data], laidTests := true, laidLooks := .later }
def StateBackCardSaid : Prop := Claim7.holds Tryd.pinned (.plain (OpenSpec.ofChange stateBackSpec)) stateBackCard

/-- THE TIED CARD OF 'almagestlaw16.ProofTells'. -/
def proofTellsCard : Claim7 := { stood := { row := proofTellsRow, standIns := [], harness := (true, "b6a4ea6cb61e0d01f3dbd37aed29265e33fd8127019479cf5f040513dfc5b12c"), looks := false }, kinds := [], alts := [], laidByText := true, laidKinds := [.data, .data], laidTests := true, laidLooks := .later }
def ProofTellsCardSaid : Prop := Claim7.holds Tryd.pinned (.plain (OpenSpec.ofChange proofTellsSpec)) proofTellsCard

/-- THE TIED CARD OF 'almagestlaw16.ProofClash'. -/
def proofClashCard : Claim7 := { stood := { row := proofClashRow, standIns := [], harness := (true, "b6a4ea6cb61e0d01f3dbd37aed29265e33fd8127019479cf5f040513dfc5b12c"), looks := false }, kinds := [], alts := [], laidByText := true, laidKinds := [.data, .data], laidTests := true, laidLooks := .later }
def ProofClashCardSaid : Prop := Claim7.holds Tryd.pinned (.plain (OpenSpec.ofChange proofClashSpec)) proofClashCard

/-- THE TIED CARD OF 'almagestlaw16.ProofMoved'. -/
def proofMovedCard : Claim7 := { stood := { row := proofMovedRow, standIns := [], harness := (true, "b6a4ea6cb61e0d01f3dbd37aed29265e33fd8127019479cf5f040513dfc5b12c"), looks := false }, kinds := [], alts := [], laidByText := true, laidKinds := [.data], laidTests := true, laidLooks := .later }
def ProofMovedCardSaid : Prop := Claim7.holds Tryd.pinned (.plain (OpenSpec.ofChange proofMovedSpec)) proofMovedCard

/-- THE TIED CARD OF 'almagestlaw16.ProofAccepts'. -/
def proofAcceptsCard : Claim7 := { stood := { row := proofAcceptsRow, standIns := [], harness := (true, "b6a4ea6cb61e0d01f3dbd37aed29265e33fd8127019479cf5f040513dfc5b12c"), looks := false }, kinds := [], alts := [], laidByText := true, laidKinds := [.data], laidTests := true, laidLooks := .later }
def ProofAcceptsCardSaid : Prop := Claim7.holds Tryd.pinned (.plain (OpenSpec.ofChange proofAcceptsSpec)) proofAcceptsCard

/-- THE SECOND FORM's CARD OF 'almagestlaw08.EpochTells'. -/
def epochTellsUptoCard : Claim7 := { stood := { row := epochTellsUptoRow, standIns := [], harness := (true, "b6a4ea6cb61e0d01f3dbd37aed29265e33fd8127019479cf5f040513dfc5b12c"), looks := false }, kinds := [], alts := [], laidByText := true, laidKinds := [.data, .data], laidTests := true, laidLooks := .later }
def EpochTellsUptoCardSaid : Prop := Claim7.holds Tryd.pinned (.plain (OpenSpec.upto epochTellsSpec)) epochTellsUptoCard

/-- THE SECOND FORM's CARD OF 'almagestlaw08.EpochHistory'. -/
def epochHistoryUptoCard : Claim7 := { stood := { row := epochHistoryUptoRow, standIns := [], harness := (true, "b6a4ea6cb61e0d01f3dbd37aed29265e33fd8127019479cf5f040513dfc5b12c"), looks := false }, kinds := [], alts := [], laidByText := true, laidKinds := [.data, .data], laidTests := true, laidLooks := .later }
def EpochHistoryUptoCardSaid : Prop := Claim7.holds Tryd.pinned (.plain (OpenSpec.upto epochHistorySpec)) epochHistoryUptoCard

/-- THE SECOND FORM's CARD OF 'almagestlaw08.EpochDraws'. -/
def epochDrawsUptoCard : Claim7 := { stood := { row := epochDrawsUptoRow, standIns := [], harness := (true, "b6a4ea6cb61e0d01f3dbd37aed29265e33fd8127019479cf5f040513dfc5b12c"), looks := false }, kinds := [], alts := [], laidByText := true, laidKinds := [.data, .data], laidTests := true, laidLooks := .later }
def EpochDrawsUptoCardSaid : Prop := Claim7.holds Tryd.pinned (.plain (OpenSpec.upto epochDrawsSpec)) epochDrawsUptoCard

/-- THE SECOND FORM's CARD OF 'almagestlaw08.EpochTurn'. -/
def epochTurnUptoCard : Claim7 := { stood := { row := epochTurnUptoRow, standIns := [], harness := (true, "b6a4ea6cb61e0d01f3dbd37aed29265e33fd8127019479cf5f040513dfc5b12c"), looks := false }, kinds := [], alts := [], laidByText := true, laidKinds := [.data, .data], laidTests := true, laidLooks := .later }
def EpochTurnUptoCardSaid : Prop := Claim7.holds Tryd.pinned (.plain (OpenSpec.upto epochTurnSpec)) epochTurnUptoCard

/-- THE SECOND FORM's CARD OF 'almagestlaw15.TreeDoes'. -/
def treeDoesUptoCard : Claim7 := { stood := { row := treeDoesUptoRow, standIns := [], harness := (true, "b6a4ea6cb61e0d01f3dbd37aed29265e33fd8127019479cf5f040513dfc5b12c"), looks := false }, kinds := [], alts := [], laidByText := true, laidKinds := [.data, .data], laidTests := true, laidLooks := .later }
def TreeDoesUptoCardSaid : Prop := Claim7.holds Tryd.pinned (.plain (OpenSpec.upto treeDoesSpec)) treeDoesUptoCard

/-- THE SECOND FORM's CARD OF 'almagestlaw15.TreeLeads'. -/
def treeLeadsUptoCard : Claim7 := { stood := { row := treeLeadsUptoRow, standIns := [], harness := (true, "b6a4ea6cb61e0d01f3dbd37aed29265e33fd8127019479cf5f040513dfc5b12c"), looks := false }, kinds := [], alts := [], laidByText := true, laidKinds := [.data], laidTests := true, laidLooks := .later }
def TreeLeadsUptoCardSaid : Prop := Claim7.holds Tryd.pinned (.plain (OpenSpec.upto treeLeadsSpec)) treeLeadsUptoCard

/-- THE SECOND FORM's CARD OF 'almagestlaw15.TreeOrder'. -/
def treeOrderUptoCard : Claim7 := { stood := { row := treeOrderUptoRow, standIns := [], harness := (true, "b6a4ea6cb61e0d01f3dbd37aed29265e33fd8127019479cf5f040513dfc5b12c"), looks := false }, kinds := [], alts := [], laidByText := true, laidKinds := [.data], laidTests := true, laidLooks := .later }
def TreeOrderUptoCardSaid : Prop := Claim7.holds Tryd.pinned (.plain (OpenSpec.upto treeOrderSpec)) treeOrderUptoCard

/-- THE SECOND FORM's CARD OF 'almagestlaw15.TreeAlone'. -/
def treeAloneUptoCard : Claim7 := { stood := { row := treeAloneUptoRow, standIns := [], harness := (true, "b6a4ea6cb61e0d01f3dbd37aed29265e33fd8127019479cf5f040513dfc5b12c"), looks := false }, kinds := [], alts := [], laidByText := true, laidKinds := [.data], laidTests := true, laidLooks := .later }
def TreeAloneUptoCardSaid : Prop := Claim7.holds Tryd.pinned (.plain (OpenSpec.upto treeAloneSpec)) treeAloneUptoCard

/-- THE SECOND FORM's CARD OF 'almagestlaw12.OrderTells'. -/
def orderTellsUptoCard : Claim7 := { stood := { row := orderTellsUptoRow, standIns := [], harness := (true, "b6a4ea6cb61e0d01f3dbd37aed29265e33fd8127019479cf5f040513dfc5b12c"), looks := false }, kinds := [], alts := [], laidByText := true, laidKinds := [.data, .data], laidTests := true, laidLooks := .later }
def OrderTellsUptoCardSaid : Prop := Claim7.holds Tryd.pinned (.plain (OpenSpec.upto orderTellsSpec)) orderTellsUptoCard

/-- THE SECOND FORM's CARD OF 'almagestlaw12.OrderIs'. -/
def orderIsUptoCard : Claim7 := { stood := { row := orderIsUptoRow, standIns := [], harness := (true, "b6a4ea6cb61e0d01f3dbd37aed29265e33fd8127019479cf5f040513dfc5b12c"), looks := false }, kinds := [], alts := [], laidByText := true, laidKinds := [.data], laidTests := true, laidLooks := .later }
def OrderIsUptoCardSaid : Prop := Claim7.holds Tryd.pinned (.plain (OpenSpec.upto orderIsSpec)) orderIsUptoCard

/-- THE SECOND FORM's CARD OF 'almagestlaw12.OrderGreatest'. -/
def orderGreatestUptoCard : Claim7 := { stood := { row := orderGreatestUptoRow, standIns := [], harness := (true, "b6a4ea6cb61e0d01f3dbd37aed29265e33fd8127019479cf5f040513dfc5b12c"), looks := false }, kinds := [], alts := [], laidByText := true, laidKinds := [.data], laidTests := true, laidLooks := .later }
def OrderGreatestUptoCardSaid : Prop := Claim7.holds Tryd.pinned (.plain (OpenSpec.upto orderGreatestSpec)) orderGreatestUptoCard

/-- THE SECOND FORM's CARD OF 'almagestlaw09.StateTells'. -/
def stateTellsUptoCard : Claim7 := { stood := { row := stateTellsUptoRow, standIns := [], harness := (true, "b6a4ea6cb61e0d01f3dbd37aed29265e33fd8127019479cf5f040513dfc5b12c"), looks := false }, kinds := [], alts := [], laidByText := true, laidKinds := [.data, .data], laidTests := true, laidLooks := .later }
def StateTellsUptoCardSaid : Prop := Claim7.holds Tryd.pinned (.plain (OpenSpec.upto stateTellsSpec)) stateTellsUptoCard

/-- THE SECOND FORM's CARD OF 'almagestlaw09.StateReads'. -/
def stateReadsUptoCard : Claim7 := { stood := { row := stateReadsUptoRow, standIns := [], harness := (true, "b6a4ea6cb61e0d01f3dbd37aed29265e33fd8127019479cf5f040513dfc5b12c"), looks := false }, kinds := [], alts := [], laidByText := true, laidKinds := [.data], laidTests := true, laidLooks := .later }
def StateReadsUptoCardSaid : Prop := Claim7.holds Tryd.pinned (.plain (OpenSpec.upto stateReadsSpec)) stateReadsUptoCard

/-- THE SECOND FORM's CARD OF 'almagestlaw09.StateBack'. -/
def stateBackUptoCard : Claim7 := { stood := { row := stateBackUptoRow, standIns := [], harness := (true, "b6a4ea6cb61e0d01f3dbd37aed29265e33fd8127019479cf5f040513dfc5b12c"), looks := false }, kinds := [], alts := [], laidByText := true, laidKinds := [.data], laidTests := true, laidLooks := .later }
def StateBackUptoCardSaid : Prop := Claim7.holds Tryd.pinned (.plain (OpenSpec.upto stateBackSpec)) stateBackUptoCard

/-- THE SECOND FORM's CARD OF 'almagestlaw16.ProofTells'. -/
def proofTellsUptoCard : Claim7 := { stood := { row := proofTellsUptoRow, standIns := [], harness := (true, "b6a4ea6cb61e0d01f3dbd37aed29265e33fd8127019479cf5f040513dfc5b12c"), looks := false }, kinds := [], alts := [], laidByText := true, laidKinds := [.data, .data], laidTests := true, laidLooks := .later }
def ProofTellsUptoCardSaid : Prop := Claim7.holds Tryd.pinned (.plain (OpenSpec.upto proofTellsSpec)) proofTellsUptoCard

/-- THE SECOND FORM's CARD OF 'almagestlaw16.ProofClash'. -/
def proofClashUptoCard : Claim7 := { stood := { row := proofClashUptoRow, standIns := [], harness := (true, "b6a4ea6cb61e0d01f3dbd37aed29265e33fd8127019479cf5f040513dfc5b12c"), looks := false }, kinds := [], alts := [], laidByText := true, laidKinds := [.data, .data], laidTests := true, laidLooks := .later }
def ProofClashUptoCardSaid : Prop := Claim7.holds Tryd.pinned (.plain (OpenSpec.upto proofClashSpec)) proofClashUptoCard

/-- THE SECOND FORM's CARD OF 'almagestlaw16.ProofMoved'. -/
def proofMovedUptoCard : Claim7 := { stood := { row := proofMovedUptoRow, standIns := [], harness := (true, "b6a4ea6cb61e0d01f3dbd37aed29265e33fd8127019479cf5f040513dfc5b12c"), looks := false }, kinds := [], alts := [], laidByText := true, laidKinds := [.data], laidTests := true, laidLooks := .later }
def ProofMovedUptoCardSaid : Prop := Claim7.holds Tryd.pinned (.plain (OpenSpec.upto proofMovedSpec)) proofMovedUptoCard

/-- THE SECOND FORM's CARD OF 'almagestlaw16.ProofAccepts'. -/
def proofAcceptsUptoCard : Claim7 := { stood := { row := proofAcceptsUptoRow, standIns := [], harness := (true, "b6a4ea6cb61e0d01f3dbd37aed29265e33fd8127019479cf5f040513dfc5b12c"), looks := false }, kinds := [], alts := [], laidByText := true, laidKinds := [.data], laidTests := true, laidLooks := .later }
def ProofAcceptsUptoCardSaid : Prop := Claim7.holds Tryd.pinned (.plain (OpenSpec.upto proofAcceptsSpec)) proofAcceptsUptoCard
end Rows
end Go.Proofs.YtmnehhpfbmoahaaDoor
