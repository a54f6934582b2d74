/-
  DERIVED. GIVEN WITH THE SEED: THE CARDS: each row of YtddblcihkpnpmaaDoorRows.lean that lists a variable, with what it lists TIED to the program's text (the seventh form; the later family's looks); each row that meets fmt, with fmt's text TOLD by the authors' own Lean function (tested against real Go, not proved from fmt's source: count such statements apart). THE CARD IS WHAT COUNTS. Prove the row's statement (the work); the ties are given (YtddblcihkpnpmaaDoorTie.lean); close each card by the builder's one call (the guide's Derived/Test/ToyasCard.lean, 'card_holds'). Laid BY PROGRAM, IN A SANDBOX (cutbox-door.mjs). By AI agents, Wed Nov 11 2026. No macro, syntax, notation, axiom, sorry.
-/
import Derived.Test.YtddblcihkpnpmaaDoorRows
import GoSem.ClaimSeven
namespace Go.Proofs.YtddblcihkpnpmaaDoor
namespace Rows

/-- THE TIED CARD OF 'almagestlaw11.LinkTells'. -/
def linkTellsCard : Claim7 := { stood := { row := linkTellsRow, standIns := [], harness := (true, "b32e96a3a36a8fca249a613007284df41a049a4048f427ab63975624c9694ef9"), looks := false }, kinds := [], alts := [], laidByText := true, laidKinds := [.data, .data], laidTests := true, laidLooks := .later }
def LinkTellsCardSaid : Prop := Claim7.holds Tryd.pinned (.plain (OpenSpec.ofChange linkTellsSpec)) linkTellsCard

/-- THE TIED CARD OF 'almagestlaw11.LinkLine'. -/
def linkLineCard : Claim7 := { stood := { row := linkLineRow, standIns := [], harness := (true, "b32e96a3a36a8fca249a613007284df41a049a4048f427ab63975624c9694ef9"), looks := false }, kinds := [], alts := [], laidByText := true, laidKinds := [.data], laidTests := true, laidLooks := .later }
def LinkLineCardSaid : Prop := Claim7.holds Tryd.pinned (.plain (OpenSpec.ofChange linkLineSpec)) linkLineCard

/-- THE TIED CARD OF 'almagestlaw10.GrowTells'. -/
def growTellsCard : Claim7 := { stood := { row := growTellsRow, standIns := [], harness := (true, "b32e96a3a36a8fca249a613007284df41a049a4048f427ab63975624c9694ef9"), looks := false }, kinds := [], alts := [], laidByText := true, laidKinds := [.data, .data], laidTests := true, laidLooks := .later }
def GrowTellsCardSaid : Prop := Claim7.holds Tryd.pinned (.plain (OpenSpec.ofChange growTellsSpec)) growTellsCard

/-- THE TIED CARD OF 'almagestlaw10.GrowRight'. -/
def growRightCard : Claim7 := { stood := { row := growRightRow, standIns := [], harness := (true, "b32e96a3a36a8fca249a613007284df41a049a4048f427ab63975624c9694ef9"), looks := false }, kinds := [], alts := [], laidByText := true, laidKinds := [.data], laidTests := true, laidLooks := .later }
def GrowRightCardSaid : Prop := Claim7.holds Tryd.pinned (.plain (OpenSpec.ofChange growRightSpec)) growRightCard

/-- THE TIED CARD OF 'almagestlaw10.GrowChain'. -/
def growChainCard : Claim7 := { stood := { row := growChainRow, standIns := [], harness := (true, "b32e96a3a36a8fca249a613007284df41a049a4048f427ab63975624c9694ef9"), looks := false }, kinds := [], alts := [], laidByText := true, laidKinds := [.data], laidTests := true, laidLooks := .later }
def GrowChainCardSaid : Prop := Claim7.holds Tryd.pinned (.plain (OpenSpec.ofChange growChainSpec)) growChainCard

/-- THE TIED CARD OF 'almagestlaw10.GrowHistory'. -/
def growHistoryCard : Claim7 := { stood := { row := growHistoryRow, standIns := [], harness := (true, "b32e96a3a36a8fca249a613007284df41a049a4048f427ab63975624c9694ef9"), looks := false }, kinds := [], alts := [], laidByText := true, laidKinds := [.data, .data], laidTests := true, laidLooks := .later }
def GrowHistoryCardSaid : Prop := Claim7.holds Tryd.pinned (.plain (OpenSpec.ofChange growHistorySpec)) growHistoryCard

/-- THE TIED CARD OF 'almagestlaw11.LinkOne'. -/
def linkOneCard : Claim7 := { stood := { row := linkOneRow, standIns := [], harness := (true, "b32e96a3a36a8fca249a613007284df41a049a4048f427ab63975624c9694ef9"), looks := false }, kinds := [], alts := [], laidByText := true, laidKinds := [.data], laidTests := true, laidLooks := .later }
def LinkOneCardSaid : Prop := Claim7.holds Tryd.pinned (.plain (OpenSpec.ofChange linkOneSpec)) linkOneCard

/-- THE TIED CARD OF 'almagestlaw13.ChooseOne'. -/
def chooseOneCard : Claim7 := { stood := { row := chooseOneRow, standIns := [], harness := (true, "b32e96a3a36a8fca249a613007284df41a049a4048f427ab63975624c9694ef9"), looks := false }, kinds := [], alts := [], laidByText := true, laidKinds := [.data], laidTests := true, laidLooks := .later }
def ChooseOneCardSaid : Prop := Claim7.holds Tryd.pinned (.plain (OpenSpec.ofChange chooseOneSpec)) chooseOneCard

/-- THE TIED CARD OF 'almagestlaw13.ChooseLast'. -/
def chooseLastCard : Claim7 := { stood := { row := chooseLastRow, standIns := [], harness := (true, "b32e96a3a36a8fca249a613007284df41a049a4048f427ab63975624c9694ef9"), looks := false }, kinds := [], alts := [], laidByText := true, laidKinds := [.data], laidTests := true, laidLooks := .later }
def ChooseLastCardSaid : Prop := Claim7.holds Tryd.pinned (.plain (OpenSpec.ofChange chooseLastSpec)) chooseLastCard

/-- THE TIED CARD OF 'almagestlaw13.ChooseNear'. -/
def chooseNearCard : Claim7 := { stood := { row := chooseNearRow, standIns := [], harness := (true, "b32e96a3a36a8fca249a613007284df41a049a4048f427ab63975624c9694ef9"), looks := false }, kinds := [], alts := [], laidByText := true, laidKinds := [.data], laidTests := true, laidLooks := .later }
def ChooseNearCardSaid : Prop := Claim7.holds Tryd.pinned (.plain (OpenSpec.ofChange chooseNearSpec)) chooseNearCard

/-- THE SECOND FORM's CARD OF 'almagestlaw11.LinkTells'. -/
def linkTellsUptoCard : Claim7 := { stood := { row := linkTellsUptoRow, standIns := [], harness := (true, "b32e96a3a36a8fca249a613007284df41a049a4048f427ab63975624c9694ef9"), looks := false }, kinds := [], alts := [], laidByText := true, laidKinds := [.data, .data], laidTests := true, laidLooks := .later }
def LinkTellsUptoCardSaid : Prop := Claim7.holds Tryd.pinned (.plain (OpenSpec.upto linkTellsSpec)) linkTellsUptoCard

/-- THE SECOND FORM's CARD OF 'almagestlaw11.LinkLine'. -/
def linkLineUptoCard : Claim7 := { stood := { row := linkLineUptoRow, standIns := [], harness := (true, "b32e96a3a36a8fca249a613007284df41a049a4048f427ab63975624c9694ef9"), looks := false }, kinds := [], alts := [], laidByText := true, laidKinds := [.data], laidTests := true, laidLooks := .later }
def LinkLineUptoCardSaid : Prop := Claim7.holds Tryd.pinned (.plain (OpenSpec.upto linkLineSpec)) linkLineUptoCard

/-- THE SECOND FORM's CARD OF 'almagestlaw10.GrowTells'. -/
def growTellsUptoCard : Claim7 := { stood := { row := growTellsUptoRow, standIns := [], harness := (true, "b32e96a3a36a8fca249a613007284df41a049a4048f427ab63975624c9694ef9"), looks := false }, kinds := [], alts := [], laidByText := true, laidKinds := [.data, .data], laidTests := true, laidLooks := .later }
def GrowTellsUptoCardSaid : Prop := Claim7.holds Tryd.pinned (.plain (OpenSpec.upto growTellsSpec)) growTellsUptoCard

/-- THE SECOND FORM's CARD OF 'almagestlaw10.GrowRight'. -/
def growRightUptoCard : Claim7 := { stood := { row := growRightUptoRow, standIns := [], harness := (true, "b32e96a3a36a8fca249a613007284df41a049a4048f427ab63975624c9694ef9"), looks := false }, kinds := [], alts := [], laidByText := true, laidKinds := [.data], laidTests := true, laidLooks := .later }
def GrowRightUptoCardSaid : Prop := Claim7.holds Tryd.pinned (.plain (OpenSpec.upto growRightSpec)) growRightUptoCard

/-- THE SECOND FORM's CARD OF 'almagestlaw10.GrowChain'. -/
def growChainUptoCard : Claim7 := { stood := { row := growChainUptoRow, standIns := [], harness := (true, "b32e96a3a36a8fca249a613007284df41a049a4048f427ab63975624c9694ef9"), looks := false }, kinds := [], alts := [], laidByText := true, laidKinds := [.data], laidTests := true, laidLooks := .later }
def GrowChainUptoCardSaid : Prop := Claim7.holds Tryd.pinned (.plain (OpenSpec.upto growChainSpec)) growChainUptoCard

/-- THE SECOND FORM's CARD OF 'almagestlaw10.GrowHistory'. -/
def growHistoryUptoCard : Claim7 := { stood := { row := growHistoryUptoRow, standIns := [], harness := (true, "b32e96a3a36a8fca249a613007284df41a049a4048f427ab63975624c9694ef9"), looks := false }, kinds := [], alts := [], laidByText := true, laidKinds := [.data, .data], laidTests := true, laidLooks := .later }
def GrowHistoryUptoCardSaid : Prop := Claim7.holds Tryd.pinned (.plain (OpenSpec.upto growHistorySpec)) growHistoryUptoCard

/-- THE SECOND FORM's CARD OF 'almagestlaw11.LinkOne'. -/
def linkOneUptoCard : Claim7 := { stood := { row := linkOneUptoRow, standIns := [], harness := (true, "b32e96a3a36a8fca249a613007284df41a049a4048f427ab63975624c9694ef9"), looks := false }, kinds := [], alts := [], laidByText := true, laidKinds := [.data], laidTests := true, laidLooks := .later }
def LinkOneUptoCardSaid : Prop := Claim7.holds Tryd.pinned (.plain (OpenSpec.upto linkOneSpec)) linkOneUptoCard

/-- THE SECOND FORM's CARD OF 'almagestlaw13.ChooseOne'. -/
def chooseOneUptoCard : Claim7 := { stood := { row := chooseOneUptoRow, standIns := [], harness := (true, "b32e96a3a36a8fca249a613007284df41a049a4048f427ab63975624c9694ef9"), looks := false }, kinds := [], alts := [], laidByText := true, laidKinds := [.data], laidTests := true, laidLooks := .later }
def ChooseOneUptoCardSaid : Prop := Claim7.holds Tryd.pinned (.plain (OpenSpec.upto chooseOneSpec)) chooseOneUptoCard

/-- THE SECOND FORM's CARD OF 'almagestlaw13.ChooseLast'. -/
def chooseLastUptoCard : Claim7 := { stood := { row := chooseLastUptoRow, standIns := [], harness := (true, "b32e96a3a36a8fca249a613007284df41a049a4048f427ab63975624c9694ef9"), looks := false }, kinds := [], alts := [], laidByText := true, laidKinds := [.data], laidTests := true, laidLooks := .later }
def ChooseLastUptoCardSaid : Prop := Claim7.holds Tryd.pinned (.plain (OpenSpec.upto chooseLastSpec)) chooseLastUptoCard

/-- THE SECOND FORM's CARD OF 'almagestlaw13.ChooseNear'. -/
def chooseNearUptoCard : Claim7 := { stood := { row := chooseNearUptoRow, standIns := [], harness := (true, "b32e96a3a36a8fca249a613007284df41a049a4048f427ab63975624c9694ef9"), looks := false }, kinds := [], alts := [], laidByText := true, laidKinds := [.data], laidTests := true, laidLooks := .later }
def ChooseNearUptoCardSaid : Prop := Claim7.holds Tryd.pinned (.plain (OpenSpec.upto chooseNearSpec)) chooseNearUptoCard
end Rows
end Go.Proofs.YtddblcihkpnpmaaDoor
