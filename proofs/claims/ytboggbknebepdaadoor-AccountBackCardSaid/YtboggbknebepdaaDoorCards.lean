/-
  DERIVED. GIVEN WITH THE SEED: THE CARDS: each row of YtboggbknebepdaaDoorRows.lean that lists a variable, with what it lists TIED to the program's text (the seventh form; the later family's looks); each row that meets fmt, with fmt's text TOLD by the authors' own Lean function (tested against real Go, not proved from fmt's source: count such statements apart). THE CARD IS WHAT COUNTS. Prove the row's statement (the work); the ties are given (YtboggbknebepdaaDoorTie.lean); close each card by the builder's one call (the guide's Derived/Test/ToyasCard.lean, 'card_holds'). Laid BY PROGRAM, IN A SANDBOX (cutbox-door.mjs). By AI agents, Wed Nov 11 2026. No macro, syntax, notation, axiom, sorry.
-/
import Derived.Test.YtboggbknebepdaaDoorRows
import GoSem.ClaimSeven
namespace Go.Proofs.YtboggbknebepdaaDoor
namespace Rows

/-- THE TIED CARD OF 'almagestlaw02.ShaTells'. -/
def shaTellsCard : Claim7 := { stood := { row := shaTellsRow, standIns := [], harness := (true, "389940ed73bb70316a318b8a961dd28f29c1155ace7b03e8468f291d330ded09"), looks := false }, kinds := [], alts := [], laidByText := true, laidKinds := [.data, .data], laidTests := true, laidLooks := .later }
def ShaTellsCardSaid : Prop := Claim7.holds Tryd.pinned (.plain (OpenSpec.ofChange shaTellsSpec)) shaTellsCard

/-- THE TIED CARD OF 'almagestlaw02.ShaParts'. -/
def shaPartsCard : Claim7 := { stood := { row := shaPartsRow, standIns := [], harness := (true, "389940ed73bb70316a318b8a961dd28f29c1155ace7b03e8468f291d330ded09"), looks := false }, kinds := [], alts := [], laidByText := true, laidKinds := [.data], laidTests := true, laidLooks := .later }
def ShaPartsCardSaid : Prop := Claim7.holds Tryd.pinned (.plain (OpenSpec.ofChange shaPartsSpec)) shaPartsCard

/-- THE TIED CARD OF 'almagestlaw02.ShaEnds'. -/
def shaEndsCard : Claim7 := { stood := { row := shaEndsRow, standIns := [], harness := (true, "389940ed73bb70316a318b8a961dd28f29c1155ace7b03e8468f291d330ded09"), looks := false }, kinds := [], alts := [], laidByText := true, laidKinds := [.data, .data], laidTests := true, laidLooks := .later }
def ShaEndsCardSaid : Prop := Claim7.holds Tryd.pinned (.plain (OpenSpec.ofChange shaEndsSpec)) shaEndsCard

/-- THE TIED CARD OF 'almagestlaw03.TagTells'. -/
def tagTellsCard : Claim7 := { stood := { row := tagTellsRow, standIns := [], harness := (true, "389940ed73bb70316a318b8a961dd28f29c1155ace7b03e8468f291d330ded09"), looks := false }, kinds := [], alts := [], laidByText := true, laidKinds := [.data, .data], laidTests := true, laidLooks := .later }
def TagTellsCardSaid : Prop := Claim7.holds Tryd.pinned (.plain (OpenSpec.ofChange tagTellsSpec)) tagTellsCard

/-- THE TIED CARD OF 'almagestlaw03.TagApart'. -/
def tagApartCard : Claim7 := { stood := { row := tagApartRow, standIns := [], harness := (true, "389940ed73bb70316a318b8a961dd28f29c1155ace7b03e8468f291d330ded09"), looks := false }, kinds := [], alts := [], laidByText := true, laidKinds := [.data, .data], laidTests := true, laidLooks := .later }
def TagApartCardSaid : Prop := Claim7.holds Tryd.pinned (.plain (OpenSpec.ofChange tagApartSpec)) tagApartCard

/-- THE TIED CARD OF 'almagestlaw03.TagKnows'. -/
def tagKnowsCard : Claim7 := { stood := { row := tagKnowsRow, standIns := [], harness := (true, "389940ed73bb70316a318b8a961dd28f29c1155ace7b03e8468f291d330ded09"), looks := false }, kinds := [], alts := [], laidByText := true, laidKinds := [.data, .data], laidTests := true, laidLooks := .later }
def TagKnowsCardSaid : Prop := Claim7.holds Tryd.pinned (.plain (OpenSpec.ofChange tagKnowsSpec)) tagKnowsCard

/-- THE TIED CARD OF 'almagestlaw14.AccountTells'. -/
def accountTellsCard : Claim7 := { stood := { row := accountTellsRow, standIns := [], harness := (true, "389940ed73bb70316a318b8a961dd28f29c1155ace7b03e8468f291d330ded09"), looks := false }, kinds := [], alts := [], laidByText := true, laidKinds := [.data, .data], laidTests := true, laidLooks := .later }
def AccountTellsCardSaid : Prop := Claim7.holds Tryd.pinned (.plain (OpenSpec.ofChange accountTellsSpec)) accountTellsCard

/-- THE TIED CARD OF 'almagestlaw14.AccountBack'. -/
def accountBackCard : Claim7 := { stood := { row := accountBackRow, standIns := [], harness := (true, "389940ed73bb70316a318b8a961dd28f29c1155ace7b03e8468f291d330ded09"), looks := false }, kinds := [], alts := [], laidByText := true, laidKinds := [.data, .data], laidTests := true, laidLooks := .later }
def AccountBackCardSaid : Prop := Claim7.holds Tryd.pinned (.plain (OpenSpec.ofChange accountBackSpec)) accountBackCard

/-- THE SECOND FORM's CARD OF 'almagestlaw02.ShaTells'. -/
def shaTellsUptoCard : Claim7 := { stood := { row := shaTellsUptoRow, standIns := [], harness := (true, "389940ed73bb70316a318b8a961dd28f29c1155ace7b03e8468f291d330ded09"), looks := false }, kinds := [], alts := [], laidByText := true, laidKinds := [.data, .data], laidTests := true, laidLooks := .later }
def ShaTellsUptoCardSaid : Prop := Claim7.holds Tryd.pinned (.plain (OpenSpec.upto shaTellsSpec)) shaTellsUptoCard

/-- THE SECOND FORM's CARD OF 'almagestlaw02.ShaParts'. -/
def shaPartsUptoCard : Claim7 := { stood := { row := shaPartsUptoRow, standIns := [], harness := (true, "389940ed73bb70316a318b8a961dd28f29c1155ace7b03e8468f291d330ded09"), looks := false }, kinds := [], alts := [], laidByText := true, laidKinds := [.data], laidTests := true, laidLooks := .later }
def ShaPartsUptoCardSaid : Prop := Claim7.holds Tryd.pinned (.plain (OpenSpec.upto shaPartsSpec)) shaPartsUptoCard

/-- THE SECOND FORM's CARD OF 'almagestlaw02.ShaEnds'. -/
def shaEndsUptoCard : Claim7 := { stood := { row := shaEndsUptoRow, standIns := [], harness := (true, "389940ed73bb70316a318b8a961dd28f29c1155ace7b03e8468f291d330ded09"), looks := false }, kinds := [], alts := [], laidByText := true, laidKinds := [.data, .data], laidTests := true, laidLooks := .later }
def ShaEndsUptoCardSaid : Prop := Claim7.holds Tryd.pinned (.plain (OpenSpec.upto shaEndsSpec)) shaEndsUptoCard

/-- THE SECOND FORM's CARD OF 'almagestlaw03.TagTells'. -/
def tagTellsUptoCard : Claim7 := { stood := { row := tagTellsUptoRow, standIns := [], harness := (true, "389940ed73bb70316a318b8a961dd28f29c1155ace7b03e8468f291d330ded09"), looks := false }, kinds := [], alts := [], laidByText := true, laidKinds := [.data, .data], laidTests := true, laidLooks := .later }
def TagTellsUptoCardSaid : Prop := Claim7.holds Tryd.pinned (.plain (OpenSpec.upto tagTellsSpec)) tagTellsUptoCard

/-- THE SECOND FORM's CARD OF 'almagestlaw03.TagApart'. -/
def tagApartUptoCard : Claim7 := { stood := { row := tagApartUptoRow, standIns := [], harness := (true, "389940ed73bb70316a318b8a961dd28f29c1155ace7b03e8468f291d330ded09"), looks := false }, kinds := [], alts := [], laidByText := true, laidKinds := [.data, .data], laidTests := true, laidLooks := .later }
def TagApartUptoCardSaid : Prop := Claim7.holds Tryd.pinned (.plain (OpenSpec.upto tagApartSpec)) tagApartUptoCard

/-- THE SECOND FORM's CARD OF 'almagestlaw03.TagKnows'. -/
def tagKnowsUptoCard : Claim7 := { stood := { row := tagKnowsUptoRow, standIns := [], harness := (true, "389940ed73bb70316a318b8a961dd28f29c1155ace7b03e8468f291d330ded09"), looks := false }, kinds := [], alts := [], laidByText := true, laidKinds := [.data, .data], laidTests := true, laidLooks := .later }
def TagKnowsUptoCardSaid : Prop := Claim7.holds Tryd.pinned (.plain (OpenSpec.upto tagKnowsSpec)) tagKnowsUptoCard

/-- THE SECOND FORM's CARD OF 'almagestlaw14.AccountTells'. -/
def accountTellsUptoCard : Claim7 := { stood := { row := accountTellsUptoRow, standIns := [], harness := (true, "389940ed73bb70316a318b8a961dd28f29c1155ace7b03e8468f291d330ded09"), looks := false }, kinds := [], alts := [], laidByText := true, laidKinds := [.data, .data], laidTests := true, laidLooks := .later }
def AccountTellsUptoCardSaid : Prop := Claim7.holds Tryd.pinned (.plain (OpenSpec.upto accountTellsSpec)) accountTellsUptoCard

/-- THE SECOND FORM's CARD OF 'almagestlaw14.AccountBack'. -/
def accountBackUptoCard : Claim7 := { stood := { row := accountBackUptoRow, standIns := [], harness := (true, "389940ed73bb70316a318b8a961dd28f29c1155ace7b03e8468f291d330ded09"), looks := false }, kinds := [], alts := [], laidByText := true, laidKinds := [.data, .data], laidTests := true, laidLooks := .later }
def AccountBackUptoCardSaid : Prop := Claim7.holds Tryd.pinned (.plain (OpenSpec.upto accountBackSpec)) accountBackUptoCard
end Rows
end Go.Proofs.YtboggbknebepdaaDoor
