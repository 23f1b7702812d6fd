/-
  DERIVED. GIVEN WITH THE SEED: THE CARDS: each row of YtlllcafedekojaaGreatDoorRows.lean that lists a variable, with what it lists TIED to the program's text (the seventh form; the later family's looks); each row that meets fmt, with fmt's text TOLD by the authors' own Lean function (tested against real Go, not proved from fmt's source: count such statements apart). THE CARD IS WHAT COUNTS. Prove the row's statement (the work); the ties are given (YtlllcafedekojaaGreatDoorTie.lean); close each card by the builder's one call (the guide's Derived/Test/ToyasCard.lean, 'card_holds'). Laid BY PROGRAM, IN A SANDBOX (cutbox-door.mjs). By AI agents, Wed Nov 11 2026. No macro, syntax, notation, axiom, sorry.
-/
import Derived.Test.YtlllcafedekojaaGreatDoorRows
import GoSem.ClaimSeven
namespace Go.Proofs.YtlllcafedekojaaGreatDoor
namespace Rows

/-- THE TIED CARD OF 'vouchlaw24.DiffFinds'. -/
def diffFindsCard : Claim7 := { stood := { row := diffFindsRow, standIns := [], harness := (true, "421e9ac33ff0e7b59c4dbeeaf75b980721588a00b26733a1ff831bdce3b6374d"), looks := true }, kinds := [], alts := [], laidByText := true, laidKinds := [.data, .data, .data], laidTests := true, laidLooks := .later }
def DiffFindsCardSaid : Prop := Claim7.holds Tryz.pinned (.plain (OpenSpec.ofChange diffFindsSpec)) diffFindsCard

/-- THE TIED CARD OF 'vouchlaw24.DiffMakes'. -/
def diffMakesCard : Claim7 := { stood := { row := diffMakesRow, standIns := [], harness := (true, "421e9ac33ff0e7b59c4dbeeaf75b980721588a00b26733a1ff831bdce3b6374d"), looks := true }, kinds := [], alts := [], laidByText := true, laidKinds := [.data, .data, .data], laidTests := true, laidLooks := .later }
def DiffMakesCardSaid : Prop := Claim7.holds Tryz.pinned (.plain (OpenSpec.ofChange diffMakesSpec)) diffMakesCard

/-- THE TIED CARD OF 'vouchlaw24.DiffTurns'. -/
def diffTurnsCard : Claim7 := { stood := { row := diffTurnsRow, standIns := [], harness := (true, "421e9ac33ff0e7b59c4dbeeaf75b980721588a00b26733a1ff831bdce3b6374d"), looks := true }, kinds := [], alts := [], laidByText := true, laidKinds := [.data, .data, .data], laidTests := true, laidLooks := .later }
def DiffTurnsCardSaid : Prop := Claim7.holds Tryz.pinned (.plain (OpenSpec.ofChange diffTurnsSpec)) diffTurnsCard

/-- THE TIED CARD OF 'vouchlaw24.DiffJoins'. -/
def diffJoinsCard : Claim7 := { stood := { row := diffJoinsRow, standIns := [], harness := (true, "421e9ac33ff0e7b59c4dbeeaf75b980721588a00b26733a1ff831bdce3b6374d"), looks := true }, kinds := [], alts := [], laidByText := true, laidKinds := [.data, .data, .data], laidTests := true, laidLooks := .later }
def DiffJoinsCardSaid : Prop := Claim7.holds Tryz.pinned (.plain (OpenSpec.ofChange diffJoinsSpec)) diffJoinsCard

/-- THE TIED CARD OF 'vouchlaw24.DiffLeads'. -/
def diffLeadsCard : Claim7 := { stood := { row := diffLeadsRow, standIns := [], harness := (true, "421e9ac33ff0e7b59c4dbeeaf75b980721588a00b26733a1ff831bdce3b6374d"), looks := true }, kinds := [], alts := [], laidByText := true, laidKinds := [.data, .data, .data], laidTests := true, laidLooks := .later }
def DiffLeadsCardSaid : Prop := Claim7.holds Tryz.pinned (.plain (OpenSpec.ofChange diffLeadsSpec)) diffLeadsCard

/-- THE TIED CARD OF 'vouchlaw24.DiffBack'. -/
def diffBackCard : Claim7 := { stood := { row := diffBackRow, standIns := [], harness := (true, "421e9ac33ff0e7b59c4dbeeaf75b980721588a00b26733a1ff831bdce3b6374d"), looks := true }, kinds := [], alts := [], laidByText := true, laidKinds := [.data, .data, .data], laidTests := true, laidLooks := .later }
def DiffBackCardSaid : Prop := Claim7.holds Tryz.pinned (.plain (OpenSpec.ofChange diffBackSpec)) diffBackCard

/-- THE TIED CARD OF 'vouchlaw24.DiffThree'. -/
def diffThreeCard : Claim7 := { stood := { row := diffThreeRow, standIns := [], harness := (true, "421e9ac33ff0e7b59c4dbeeaf75b980721588a00b26733a1ff831bdce3b6374d"), looks := true }, kinds := [], alts := [], laidByText := true, laidKinds := [.data, .data, .data], laidTests := true, laidLooks := .later }
def DiffThreeCardSaid : Prop := Claim7.holds Tryz.pinned (.plain (OpenSpec.ofChange diffThreeSpec)) diffThreeCard

/-- THE TIED CARD OF 'vouchlaw24.DiffSteps'. -/
def diffStepsCard : Claim7 := { stood := { row := diffStepsRow, standIns := [], harness := (true, "421e9ac33ff0e7b59c4dbeeaf75b980721588a00b26733a1ff831bdce3b6374d"), looks := true }, kinds := [], alts := [], laidByText := true, laidKinds := [.data, .data, .data], laidTests := true, laidLooks := .later }
def DiffStepsCardSaid : Prop := Claim7.holds Tryz.pinned (.plain (OpenSpec.ofChange diffStepsSpec)) diffStepsCard

/-- THE TIED CARD OF 'vouchlaw24.DiffGroups'. -/
def diffGroupsCard : Claim7 := { stood := { row := diffGroupsRow, standIns := [], harness := (true, "421e9ac33ff0e7b59c4dbeeaf75b980721588a00b26733a1ff831bdce3b6374d"), looks := true }, kinds := [], alts := [], laidByText := true, laidKinds := [.data, .data, .data], laidTests := true, laidLooks := .later }
def DiffGroupsCardSaid : Prop := Claim7.holds Tryz.pinned (.plain (OpenSpec.ofChange diffGroupsSpec)) diffGroupsCard

/-- THE TIED CARD OF 'vouchlaw24.DiffApart'. -/
def diffApartCard : Claim7 := { stood := { row := diffApartRow, standIns := [], harness := (true, "421e9ac33ff0e7b59c4dbeeaf75b980721588a00b26733a1ff831bdce3b6374d"), looks := true }, kinds := [], alts := [], laidByText := true, laidKinds := [.data, .data, .data], laidTests := true, laidLooks := .later }
def DiffApartCardSaid : Prop := Claim7.holds Tryz.pinned (.plain (OpenSpec.ofChange diffApartSpec)) diffApartCard

/-- THE TIED CARD OF 'vouchlaw24.DiffFresh'. -/
def diffFreshCard : Claim7 := { stood := { row := diffFreshRow, standIns := [], harness := (true, "421e9ac33ff0e7b59c4dbeeaf75b980721588a00b26733a1ff831bdce3b6374d"), looks := true }, kinds := [], alts := [], laidByText := true, laidKinds := [.data, .data, .data], laidTests := true, laidLooks := .later }
def DiffFreshCardSaid : Prop := Claim7.holds Tryz.pinned (.plain (OpenSpec.ofChange diffFreshSpec)) diffFreshCard

/-- THE TIED CARD OF 'vouchlaw24.DiffPlace'. -/
def diffPlaceCard : Claim7 := { stood := { row := diffPlaceRow, standIns := [], harness := (true, "421e9ac33ff0e7b59c4dbeeaf75b980721588a00b26733a1ff831bdce3b6374d"), looks := true }, kinds := [], alts := [], laidByText := true, laidKinds := [.data, .data, .data], laidTests := true, laidLooks := .later }
def DiffPlaceCardSaid : Prop := Claim7.holds Tryz.pinned (.plain (OpenSpec.ofChange diffPlaceSpec)) diffPlaceCard

/-- THE SECOND FORM's CARD OF 'vouchlaw24.DiffFinds'. -/
def diffFindsUptoCard : Claim7 := { stood := { row := diffFindsUptoRow, standIns := [], harness := (true, "421e9ac33ff0e7b59c4dbeeaf75b980721588a00b26733a1ff831bdce3b6374d"), looks := true }, kinds := [], alts := [], laidByText := true, laidKinds := [.data, .data, .data], laidTests := true, laidLooks := .later }
def DiffFindsUptoCardSaid : Prop := Claim7.holds Tryz.pinned (.plain (OpenSpec.upto diffFindsSpec)) diffFindsUptoCard

/-- THE SECOND FORM's CARD OF 'vouchlaw24.DiffMakes'. -/
def diffMakesUptoCard : Claim7 := { stood := { row := diffMakesUptoRow, standIns := [], harness := (true, "421e9ac33ff0e7b59c4dbeeaf75b980721588a00b26733a1ff831bdce3b6374d"), looks := true }, kinds := [], alts := [], laidByText := true, laidKinds := [.data, .data, .data], laidTests := true, laidLooks := .later }
def DiffMakesUptoCardSaid : Prop := Claim7.holds Tryz.pinned (.plain (OpenSpec.upto diffMakesSpec)) diffMakesUptoCard

/-- THE SECOND FORM's CARD OF 'vouchlaw24.DiffTurns'. -/
def diffTurnsUptoCard : Claim7 := { stood := { row := diffTurnsUptoRow, standIns := [], harness := (true, "421e9ac33ff0e7b59c4dbeeaf75b980721588a00b26733a1ff831bdce3b6374d"), looks := true }, kinds := [], alts := [], laidByText := true, laidKinds := [.data, .data, .data], laidTests := true, laidLooks := .later }
def DiffTurnsUptoCardSaid : Prop := Claim7.holds Tryz.pinned (.plain (OpenSpec.upto diffTurnsSpec)) diffTurnsUptoCard

/-- THE SECOND FORM's CARD OF 'vouchlaw24.DiffJoins'. -/
def diffJoinsUptoCard : Claim7 := { stood := { row := diffJoinsUptoRow, standIns := [], harness := (true, "421e9ac33ff0e7b59c4dbeeaf75b980721588a00b26733a1ff831bdce3b6374d"), looks := true }, kinds := [], alts := [], laidByText := true, laidKinds := [.data, .data, .data], laidTests := true, laidLooks := .later }
def DiffJoinsUptoCardSaid : Prop := Claim7.holds Tryz.pinned (.plain (OpenSpec.upto diffJoinsSpec)) diffJoinsUptoCard

/-- THE SECOND FORM's CARD OF 'vouchlaw24.DiffLeads'. -/
def diffLeadsUptoCard : Claim7 := { stood := { row := diffLeadsUptoRow, standIns := [], harness := (true, "421e9ac33ff0e7b59c4dbeeaf75b980721588a00b26733a1ff831bdce3b6374d"), looks := true }, kinds := [], alts := [], laidByText := true, laidKinds := [.data, .data, .data], laidTests := true, laidLooks := .later }
def DiffLeadsUptoCardSaid : Prop := Claim7.holds Tryz.pinned (.plain (OpenSpec.upto diffLeadsSpec)) diffLeadsUptoCard

/-- THE SECOND FORM's CARD OF 'vouchlaw24.DiffBack'. -/
def diffBackUptoCard : Claim7 := { stood := { row := diffBackUptoRow, standIns := [], harness := (true, "421e9ac33ff0e7b59c4dbeeaf75b980721588a00b26733a1ff831bdce3b6374d"), looks := true }, kinds := [], alts := [], laidByText := true, laidKinds := [.data, .data, .data], laidTests := true, laidLooks := .later }
def DiffBackUptoCardSaid : Prop := Claim7.holds Tryz.pinned (.plain (OpenSpec.upto diffBackSpec)) diffBackUptoCard

/-- THE SECOND FORM's CARD OF 'vouchlaw24.DiffThree'. -/
def diffThreeUptoCard : Claim7 := { stood := { row := diffThreeUptoRow, standIns := [], harness := (true, "421e9ac33ff0e7b59c4dbeeaf75b980721588a00b26733a1ff831bdce3b6374d"), looks := true }, kinds := [], alts := [], laidByText := true, laidKinds := [.data, .data, .data], laidTests := true, laidLooks := .later }
def DiffThreeUptoCardSaid : Prop := Claim7.holds Tryz.pinned (.plain (OpenSpec.upto diffThreeSpec)) diffThreeUptoCard

/-- THE SECOND FORM's CARD OF 'vouchlaw24.DiffSteps'. -/
def diffStepsUptoCard : Claim7 := { stood := { row := diffStepsUptoRow, standIns := [], harness := (true, "421e9ac33ff0e7b59c4dbeeaf75b980721588a00b26733a1ff831bdce3b6374d"), looks := true }, kinds := [], alts := [], laidByText := true, laidKinds := [.data, .data, .data], laidTests := true, laidLooks := .later }
def DiffStepsUptoCardSaid : Prop := Claim7.holds Tryz.pinned (.plain (OpenSpec.upto diffStepsSpec)) diffStepsUptoCard

/-- THE SECOND FORM's CARD OF 'vouchlaw24.DiffGroups'. -/
def diffGroupsUptoCard : Claim7 := { stood := { row := diffGroupsUptoRow, standIns := [], harness := (true, "421e9ac33ff0e7b59c4dbeeaf75b980721588a00b26733a1ff831bdce3b6374d"), looks := true }, kinds := [], alts := [], laidByText := true, laidKinds := [.data, .data, .data], laidTests := true, laidLooks := .later }
def DiffGroupsUptoCardSaid : Prop := Claim7.holds Tryz.pinned (.plain (OpenSpec.upto diffGroupsSpec)) diffGroupsUptoCard

/-- THE SECOND FORM's CARD OF 'vouchlaw24.DiffApart'. -/
def diffApartUptoCard : Claim7 := { stood := { row := diffApartUptoRow, standIns := [], harness := (true, "421e9ac33ff0e7b59c4dbeeaf75b980721588a00b26733a1ff831bdce3b6374d"), looks := true }, kinds := [], alts := [], laidByText := true, laidKinds := [.data, .data, .data], laidTests := true, laidLooks := .later }
def DiffApartUptoCardSaid : Prop := Claim7.holds Tryz.pinned (.plain (OpenSpec.upto diffApartSpec)) diffApartUptoCard

/-- THE SECOND FORM's CARD OF 'vouchlaw24.DiffFresh'. -/
def diffFreshUptoCard : Claim7 := { stood := { row := diffFreshUptoRow, standIns := [], harness := (true, "421e9ac33ff0e7b59c4dbeeaf75b980721588a00b26733a1ff831bdce3b6374d"), looks := true }, kinds := [], alts := [], laidByText := true, laidKinds := [.data, .data, .data], laidTests := true, laidLooks := .later }
def DiffFreshUptoCardSaid : Prop := Claim7.holds Tryz.pinned (.plain (OpenSpec.upto diffFreshSpec)) diffFreshUptoCard

/-- THE SECOND FORM's CARD OF 'vouchlaw24.DiffPlace'. -/
def diffPlaceUptoCard : Claim7 := { stood := { row := diffPlaceUptoRow, standIns := [], harness := (true, "421e9ac33ff0e7b59c4dbeeaf75b980721588a00b26733a1ff831bdce3b6374d"), looks := true }, kinds := [], alts := [], laidByText := true, laidKinds := [.data, .data, .data], laidTests := true, laidLooks := .later }
def DiffPlaceUptoCardSaid : Prop := Claim7.holds Tryz.pinned (.plain (OpenSpec.upto diffPlaceSpec)) diffPlaceUptoCard
end Rows
end Go.Proofs.YtlllcafedekojaaGreatDoor
