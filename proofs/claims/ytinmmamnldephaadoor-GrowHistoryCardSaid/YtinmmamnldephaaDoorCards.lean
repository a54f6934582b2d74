/-
  DERIVED. GIVEN WITH THE SEED: THE CARDS: each row of YtinmmamnldephaaDoorRows.lean that lists a variable, with what it lists TIED to the program's text (the seventh form; the later family's looks); each row that meets fmt, with fmt's text TOLD by the authors' own Lean function (tested against real Go, not proved from fmt's source: count such statements apart). THE CARD IS WHAT COUNTS. Prove the row's statement (the work); the ties are given (YtinmmamnldephaaDoorTie.lean); close each card by the builder's one call (the guide's Derived/Test/ToyasCard.lean, 'card_holds'). Laid BY PROGRAM, IN A SANDBOX (cutbox-door.mjs). By AI agents, Wed Nov 11 2026. No macro, syntax, notation, axiom, sorry.
-/
import Derived.Test.YtinmmamnldephaaDoorRows
import GoSem.ClaimSeven
namespace Go.Proofs.YtinmmamnldephaaDoor
namespace Rows

/-- THE TIED CARD OF 'almagestlaw10.GrowHistory'. -/
def growHistoryCard : Claim7 := { stood := { row := growHistoryRow, standIns := [], harness := (true, "54eb5fc5aebd434a01a7b09e45412a78bb00e1830260e908c53024f3d8a7de3d"), looks := false }, kinds := [], alts := [], laidByText := true, laidKinds := [.data, .data], laidTests := true, laidLooks := .later }
def GrowHistoryCardSaid : Prop := Claim7.holds Tryd.pinned (.plain (OpenSpec.ofChange growHistorySpec)) growHistoryCard

/-- THE TIED CARD OF 'almagestlaw11.LinkOne'. -/
def linkOneCard : Claim7 := { stood := { row := linkOneRow, standIns := [], harness := (true, "54eb5fc5aebd434a01a7b09e45412a78bb00e1830260e908c53024f3d8a7de3d"), looks := false }, kinds := [], alts := [], laidByText := true, laidKinds := [.data], laidTests := true, laidLooks := .later }
def LinkOneCardSaid : Prop := Claim7.holds Tryd.pinned (.plain (OpenSpec.ofChange linkOneSpec)) linkOneCard

/-- THE TIED CARD OF 'almagestlaw13.ChooseLast'. -/
def chooseLastCard : Claim7 := { stood := { row := chooseLastRow, standIns := [], harness := (true, "54eb5fc5aebd434a01a7b09e45412a78bb00e1830260e908c53024f3d8a7de3d"), looks := false }, kinds := [], alts := [], laidByText := true, laidKinds := [.data], laidTests := true, laidLooks := .later }
def ChooseLastCardSaid : Prop := Claim7.holds Tryd.pinned (.plain (OpenSpec.ofChange chooseLastSpec)) chooseLastCard

/-- THE TIED CARD OF 'almagestlaw13.ChooseNear'. -/
def chooseNearCard : Claim7 := { stood := { row := chooseNearRow, standIns := [], harness := (true, "54eb5fc5aebd434a01a7b09e45412a78bb00e1830260e908c53024f3d8a7de3d"), looks := false }, kinds := [], alts := [], laidByText := true, laidKinds := [.data], laidTests := true, laidLooks := .later }
def ChooseNearCardSaid : Prop := Claim7.holds Tryd.pinned (.plain (OpenSpec.ofChange chooseNearSpec)) chooseNearCard

/-- THE SECOND FORM's CARD OF 'almagestlaw10.GrowHistory'. -/
def growHistoryUptoCard : Claim7 := { stood := { row := growHistoryUptoRow, standIns := [], harness := (true, "54eb5fc5aebd434a01a7b09e45412a78bb00e1830260e908c53024f3d8a7de3d"), looks := false }, kinds := [], alts := [], laidByText := true, laidKinds := [.data, .data], laidTests := true, laidLooks := .later }
def GrowHistoryUptoCardSaid : Prop := Claim7.holds Tryd.pinned (.plain (OpenSpec.upto growHistorySpec)) growHistoryUptoCard

/-- THE SECOND FORM's CARD OF 'almagestlaw11.LinkOne'. -/
def linkOneUptoCard : Claim7 := { stood := { row := linkOneUptoRow, standIns := [], harness := (true, "54eb5fc5aebd434a01a7b09e45412a78bb00e1830260e908c53024f3d8a7de3d"), looks := false }, kinds := [], alts := [], laidByText := true, laidKinds := [.data], laidTests := true, laidLooks := .later }
def LinkOneUptoCardSaid : Prop := Claim7.holds Tryd.pinned (.plain (OpenSpec.upto linkOneSpec)) linkOneUptoCard

/-- THE SECOND FORM's CARD OF 'almagestlaw13.ChooseLast'. -/
def chooseLastUptoCard : Claim7 := { stood := { row := chooseLastUptoRow, standIns := [], harness := (true, "54eb5fc5aebd434a01a7b09e45412a78bb00e1830260e908c53024f3d8a7de3d"), looks := false }, kinds := [], alts := [], laidByText := true, laidKinds := [.data], laidTests := true, laidLooks := .later }
def ChooseLastUptoCardSaid : Prop := Claim7.holds Tryd.pinned (.plain (OpenSpec.upto chooseLastSpec)) chooseLastUptoCard

/-- THE SECOND FORM's CARD OF 'almagestlaw13.ChooseNear'. -/
def chooseNearUptoCard : Claim7 := { stood := { row := chooseNearUptoRow, standIns := [], harness := (true, "54eb5fc5aebd434a01a7b09e45412a78bb00e1830260e908c53024f3d8a7de3d"), looks := false }, kinds := [], alts := [], laidByText := true, laidKinds := [.data], laidTests := true, laidLooks := .later }
def ChooseNearUptoCardSaid : Prop := Claim7.holds Tryd.pinned (.plain (OpenSpec.upto chooseNearSpec)) chooseNearUptoCard
end Rows
end Go.Proofs.YtinmmamnldephaaDoor
