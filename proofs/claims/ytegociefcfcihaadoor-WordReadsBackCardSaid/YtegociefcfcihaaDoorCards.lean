/-
  DERIVED. GIVEN WITH THE SEED: THE CARDS: each row of YtegociefcfcihaaDoorRows.lean that lists a variable, with what it lists TIED to the program's text (the seventh form; the later family's looks); each row that meets fmt, with fmt's text TOLD by the authors' own Lean function (tested against real Go, not proved from fmt's source: count such statements apart). THE CARD IS WHAT COUNTS. Prove the row's statement (the work); the ties are given (YtegociefcfcihaaDoorTie.lean); close each card by the builder's one call (the guide's Derived/Test/ToyasCard.lean, 'card_holds'). Laid BY PROGRAM, IN A SANDBOX (cutbox-door.mjs). By AI agents, Wed Nov 11 2026. No macro, syntax, notation, axiom, sorry.
-/
import Derived.Test.YtegociefcfcihaaDoorRows
import GoSem.ClaimSeven
namespace Go.Proofs.YtegociefcfcihaaDoor
namespace Rows

/-- THE TIED CARD OF 'vouchlaw1.WordReckons'. -/
def wordReckonsCard : Claim7 := { stood := { row := wordReckonsRow, standIns := [], harness := (true, "4c664fb4151982fa72b689a98ae0b5bbd299cece75ac860867f89f6c1e5f623e"), looks := false }, kinds := [], alts := [], laidByText := true, laidKinds := [.data, .data, .data], laidTests := true, laidLooks := .later }
def WordReckonsCardSaid : Prop := Claim7.holds Tryd.pinned (.plain (OpenSpec.ofChange wordReckonsSpec)) wordReckonsCard

/-- THE TIED CARD OF 'vouchlaw1.WordSigns'. -/
def wordSignsCard : Claim7 := { stood := { row := wordSignsRow, standIns := [], harness := (true, "4c664fb4151982fa72b689a98ae0b5bbd299cece75ac860867f89f6c1e5f623e"), looks := false }, kinds := [], alts := [], laidByText := true, laidKinds := [.data, .data, .data], laidTests := true, laidLooks := .later }
def WordSignsCardSaid : Prop := Claim7.holds Tryd.pinned (.plain (OpenSpec.ofChange wordSignsSpec)) wordSignsCard

/-- THE TIED CARD OF 'vouchlaw1.WordModulos'. -/
def wordModulosCard : Claim7 := { stood := { row := wordModulosRow, standIns := [], harness := (true, "4c664fb4151982fa72b689a98ae0b5bbd299cece75ac860867f89f6c1e5f623e"), looks := false }, kinds := [], alts := [], laidByText := true, laidKinds := [.data, .data, .data], laidTests := true, laidLooks := .later }
def WordModulosCardSaid : Prop := Claim7.holds Tryd.pinned (.plain (OpenSpec.ofChange wordModulosSpec)) wordModulosCard

/-- THE TIED CARD OF 'vouchlaw1.WordExps'. -/
def wordExpsCard : Claim7 := { stood := { row := wordExpsRow, standIns := [], harness := (true, "4c664fb4151982fa72b689a98ae0b5bbd299cece75ac860867f89f6c1e5f623e"), looks := false }, kinds := [], alts := [], laidByText := true, laidKinds := [.data, .data, .data], laidTests := true, laidLooks := .later }
def WordExpsCardSaid : Prop := Claim7.holds Tryd.pinned (.plain (OpenSpec.ofChange wordExpsSpec)) wordExpsCard

/-- THE TIED CARD OF 'vouchlaw1.WordRing'. -/
def wordRingCard : Claim7 := { stood := { row := wordRingRow, standIns := [], harness := (true, "4c664fb4151982fa72b689a98ae0b5bbd299cece75ac860867f89f6c1e5f623e"), looks := false }, kinds := [], alts := [], laidByText := true, laidKinds := [.data, .data, .data], laidTests := true, laidLooks := .later }
def WordRingCardSaid : Prop := Claim7.holds Tryd.pinned (.plain (OpenSpec.ofChange wordRingSpec)) wordRingCard

/-- THE TIED CARD OF 'vouchlaw1.WordDivides'. -/
def wordDividesCard : Claim7 := { stood := { row := wordDividesRow, standIns := [], harness := (true, "4c664fb4151982fa72b689a98ae0b5bbd299cece75ac860867f89f6c1e5f623e"), looks := false }, kinds := [], alts := [], laidByText := true, laidKinds := [.data, .data, .data], laidTests := true, laidLooks := .later }
def WordDividesCardSaid : Prop := Claim7.holds Tryd.pinned (.plain (OpenSpec.ofChange wordDividesSpec)) wordDividesCard

/-- THE TIED CARD OF 'vouchlaw1.WordSignedDivides'. -/
def wordSignedDividesCard : Claim7 := { stood := { row := wordSignedDividesRow, standIns := [], harness := (true, "4c664fb4151982fa72b689a98ae0b5bbd299cece75ac860867f89f6c1e5f623e"), looks := false }, kinds := [], alts := [], laidByText := true, laidKinds := [.data, .data, .data], laidTests := true, laidLooks := .later }
def WordSignedDividesCardSaid : Prop := Claim7.holds Tryd.pinned (.plain (OpenSpec.ofChange wordSignedDividesSpec)) wordSignedDividesCard

/-- THE TIED CARD OF 'vouchlaw1.WordResidues'. -/
def wordResiduesCard : Claim7 := { stood := { row := wordResiduesRow, standIns := [], harness := (true, "4c664fb4151982fa72b689a98ae0b5bbd299cece75ac860867f89f6c1e5f623e"), looks := false }, kinds := [], alts := [], laidByText := true, laidKinds := [.data, .data, .data], laidTests := true, laidLooks := .later }
def WordResiduesCardSaid : Prop := Claim7.holds Tryd.pinned (.plain (OpenSpec.ofChange wordResiduesSpec)) wordResiduesCard

/-- THE TIED CARD OF 'vouchlaw1.WordPowers'. -/
def wordPowersCard : Claim7 := { stood := { row := wordPowersRow, standIns := [], harness := (true, "4c664fb4151982fa72b689a98ae0b5bbd299cece75ac860867f89f6c1e5f623e"), looks := false }, kinds := [], alts := [], laidByText := true, laidKinds := [.data, .data, .data], laidTests := true, laidLooks := .later }
def WordPowersCardSaid : Prop := Claim7.holds Tryd.pinned (.plain (OpenSpec.ofChange wordPowersSpec)) wordPowersCard

/-- THE TIED CARD OF 'vouchlaw1.WordShifts'. -/
def wordShiftsCard : Claim7 := { stood := { row := wordShiftsRow, standIns := [], harness := (true, "4c664fb4151982fa72b689a98ae0b5bbd299cece75ac860867f89f6c1e5f623e"), looks := false }, kinds := [], alts := [], laidByText := true, laidKinds := [.data, .data, .data], laidTests := true, laidLooks := .later }
def WordShiftsCardSaid : Prop := Claim7.holds Tryd.pinned (.plain (OpenSpec.ofChange wordShiftsSpec)) wordShiftsCard

/-- THE TIED CARD OF 'vouchlaw1.WordExtends'. -/
def wordExtendsCard : Claim7 := { stood := { row := wordExtendsRow, standIns := [], harness := (true, "4c664fb4151982fa72b689a98ae0b5bbd299cece75ac860867f89f6c1e5f623e"), looks := false }, kinds := [], alts := [], laidByText := true, laidKinds := [.data, .data, .data], laidTests := true, laidLooks := .later }
def WordExtendsCardSaid : Prop := Claim7.holds Tryd.pinned (.plain (OpenSpec.ofChange wordExtendsSpec)) wordExtendsCard

/-- THE TIED CARD OF 'vouchlaw1.WordBits'. -/
def wordBitsCard : Claim7 := { stood := { row := wordBitsRow, standIns := [], harness := (true, "4c664fb4151982fa72b689a98ae0b5bbd299cece75ac860867f89f6c1e5f623e"), looks := false }, kinds := [], alts := [], laidByText := true, laidKinds := [.data, .data, .data], laidTests := true, laidLooks := .later }
def WordBitsCardSaid : Prop := Claim7.holds Tryd.pinned (.plain (OpenSpec.ofChange wordBitsSpec)) wordBitsCard

/-- THE TIED CARD OF 'vouchlaw1.WordCompares'. -/
def wordComparesCard : Claim7 := { stood := { row := wordComparesRow, standIns := [], harness := (true, "4c664fb4151982fa72b689a98ae0b5bbd299cece75ac860867f89f6c1e5f623e"), looks := false }, kinds := [], alts := [], laidByText := true, laidKinds := [.data, .data, .data], laidTests := true, laidLooks := .later }
def WordComparesCardSaid : Prop := Claim7.holds Tryd.pinned (.plain (OpenSpec.ofChange wordComparesSpec)) wordComparesCard

/-- THE TIED CARD OF 'vouchlaw1.WordOrders'. -/
def wordOrdersCard : Claim7 := { stood := { row := wordOrdersRow, standIns := [], harness := (true, "4c664fb4151982fa72b689a98ae0b5bbd299cece75ac860867f89f6c1e5f623e"), looks := false }, kinds := [], alts := [], laidByText := true, laidKinds := [.data, .data, .data], laidTests := true, laidLooks := .later }
def WordOrdersCardSaid : Prop := Claim7.holds Tryd.pinned (.plain (OpenSpec.ofChange wordOrdersSpec)) wordOrdersCard

/-- THE TIED CARD OF 'vouchlaw1.WordSums'. -/
def wordSumsCard : Claim7 := { stood := { row := wordSumsRow, standIns := [], harness := (true, "4c664fb4151982fa72b689a98ae0b5bbd299cece75ac860867f89f6c1e5f623e"), looks := false }, kinds := [], alts := [], laidByText := true, laidKinds := [.data, .data, .data], laidTests := true, laidLooks := .later }
def WordSumsCardSaid : Prop := Claim7.holds Tryd.pinned (.plain (OpenSpec.ofChange wordSumsSpec)) wordSumsCard

/-- THE TIED CARD OF 'vouchlaw1.WordPlainSums'. -/
def wordPlainSumsCard : Claim7 := { stood := { row := wordPlainSumsRow, standIns := [], harness := (true, "4c664fb4151982fa72b689a98ae0b5bbd299cece75ac860867f89f6c1e5f623e"), looks := false }, kinds := [], alts := [], laidByText := true, laidKinds := [.data, .data, .data], laidTests := true, laidLooks := .later }
def WordPlainSumsCardSaid : Prop := Claim7.holds Tryd.pinned (.plain (OpenSpec.ofChange wordPlainSumsSpec)) wordPlainSumsCard

/-- THE TIED CARD OF 'vouchlaw1.WordBytes'. -/
def wordBytesCard : Claim7 := { stood := { row := wordBytesRow, standIns := [], harness := (true, "4c664fb4151982fa72b689a98ae0b5bbd299cece75ac860867f89f6c1e5f623e"), looks := false }, kinds := [], alts := [], laidByText := true, laidKinds := [.data, .data, .data], laidTests := true, laidLooks := .later }
def WordBytesCardSaid : Prop := Claim7.holds Tryd.pinned (.plain (OpenSpec.ofChange wordBytesSpec)) wordBytesCard

/-- THE TIED CARD OF 'vouchlaw1.WordForms'. -/
def wordFormsCard : Claim7 := { stood := { row := wordFormsRow, standIns := [], harness := (true, "4c664fb4151982fa72b689a98ae0b5bbd299cece75ac860867f89f6c1e5f623e"), looks := false }, kinds := [], alts := [], laidByText := true, laidKinds := [.data, .data, .data], laidTests := true, laidLooks := .later }
def WordFormsCardSaid : Prop := Claim7.holds Tryd.pinned (.plain (OpenSpec.ofChange wordFormsSpec)) wordFormsCard

/-- THE TIED CARD OF 'vouchlaw1.WordTexts'. -/
def wordTextsCard : Claim7 := { stood := { row := wordTextsRow, standIns := [], harness := (true, "4c664fb4151982fa72b689a98ae0b5bbd299cece75ac860867f89f6c1e5f623e"), looks := false }, kinds := [], alts := [], laidByText := true, laidKinds := [.data, .data, .data], laidTests := true, laidLooks := .later }
def WordTextsCardSaid : Prop := Claim7.holds Tryd.pinned (.plain (OpenSpec.ofChange wordTextsSpec)) wordTextsCard

/-- THE TIED CARD OF 'vouchlaw1.WordReadsBack'. -/
def wordReadsBackCard : Claim7 := { stood := { row := wordReadsBackRow, standIns := [], harness := (true, "4c664fb4151982fa72b689a98ae0b5bbd299cece75ac860867f89f6c1e5f623e"), looks := false }, kinds := [], alts := [], laidByText := true, laidKinds := [.data, .data, .data], laidTests := true, laidLooks := .later }
def WordReadsBackCardSaid : Prop := Claim7.holds Tryd.pinned (.plain (OpenSpec.ofChange wordReadsBackSpec)) wordReadsBackCard

/-- THE SECOND FORM's CARD OF 'vouchlaw1.WordReckons'. -/
def wordReckonsUptoCard : Claim7 := { stood := { row := wordReckonsUptoRow, standIns := [], harness := (true, "4c664fb4151982fa72b689a98ae0b5bbd299cece75ac860867f89f6c1e5f623e"), looks := false }, kinds := [], alts := [], laidByText := true, laidKinds := [.data, .data, .data], laidTests := true, laidLooks := .later }
def WordReckonsUptoCardSaid : Prop := Claim7.holds Tryd.pinned (.plain (OpenSpec.upto wordReckonsSpec)) wordReckonsUptoCard

/-- THE SECOND FORM's CARD OF 'vouchlaw1.WordSigns'. -/
def wordSignsUptoCard : Claim7 := { stood := { row := wordSignsUptoRow, standIns := [], harness := (true, "4c664fb4151982fa72b689a98ae0b5bbd299cece75ac860867f89f6c1e5f623e"), looks := false }, kinds := [], alts := [], laidByText := true, laidKinds := [.data, .data, .data], laidTests := true, laidLooks := .later }
def WordSignsUptoCardSaid : Prop := Claim7.holds Tryd.pinned (.plain (OpenSpec.upto wordSignsSpec)) wordSignsUptoCard

/-- THE SECOND FORM's CARD OF 'vouchlaw1.WordModulos'. -/
def wordModulosUptoCard : Claim7 := { stood := { row := wordModulosUptoRow, standIns := [], harness := (true, "4c664fb4151982fa72b689a98ae0b5bbd299cece75ac860867f89f6c1e5f623e"), looks := false }, kinds := [], alts := [], laidByText := true, laidKinds := [.data, .data, .data], laidTests := true, laidLooks := .later }
def WordModulosUptoCardSaid : Prop := Claim7.holds Tryd.pinned (.plain (OpenSpec.upto wordModulosSpec)) wordModulosUptoCard

/-- THE SECOND FORM's CARD OF 'vouchlaw1.WordExps'. -/
def wordExpsUptoCard : Claim7 := { stood := { row := wordExpsUptoRow, standIns := [], harness := (true, "4c664fb4151982fa72b689a98ae0b5bbd299cece75ac860867f89f6c1e5f623e"), looks := false }, kinds := [], alts := [], laidByText := true, laidKinds := [.data, .data, .data], laidTests := true, laidLooks := .later }
def WordExpsUptoCardSaid : Prop := Claim7.holds Tryd.pinned (.plain (OpenSpec.upto wordExpsSpec)) wordExpsUptoCard

/-- THE SECOND FORM's CARD OF 'vouchlaw1.WordRing'. -/
def wordRingUptoCard : Claim7 := { stood := { row := wordRingUptoRow, standIns := [], harness := (true, "4c664fb4151982fa72b689a98ae0b5bbd299cece75ac860867f89f6c1e5f623e"), looks := false }, kinds := [], alts := [], laidByText := true, laidKinds := [.data, .data, .data], laidTests := true, laidLooks := .later }
def WordRingUptoCardSaid : Prop := Claim7.holds Tryd.pinned (.plain (OpenSpec.upto wordRingSpec)) wordRingUptoCard

/-- THE SECOND FORM's CARD OF 'vouchlaw1.WordDivides'. -/
def wordDividesUptoCard : Claim7 := { stood := { row := wordDividesUptoRow, standIns := [], harness := (true, "4c664fb4151982fa72b689a98ae0b5bbd299cece75ac860867f89f6c1e5f623e"), looks := false }, kinds := [], alts := [], laidByText := true, laidKinds := [.data, .data, .data], laidTests := true, laidLooks := .later }
def WordDividesUptoCardSaid : Prop := Claim7.holds Tryd.pinned (.plain (OpenSpec.upto wordDividesSpec)) wordDividesUptoCard

/-- THE SECOND FORM's CARD OF 'vouchlaw1.WordSignedDivides'. -/
def wordSignedDividesUptoCard : Claim7 := { stood := { row := wordSignedDividesUptoRow, standIns := [], harness := (true, "4c664fb4151982fa72b689a98ae0b5bbd299cece75ac860867f89f6c1e5f623e"), looks := false }, kinds := [], alts := [], laidByText := true, laidKinds := [.data, .data, .data], laidTests := true, laidLooks := .later }
def WordSignedDividesUptoCardSaid : Prop := Claim7.holds Tryd.pinned (.plain (OpenSpec.upto wordSignedDividesSpec)) wordSignedDividesUptoCard

/-- THE SECOND FORM's CARD OF 'vouchlaw1.WordResidues'. -/
def wordResiduesUptoCard : Claim7 := { stood := { row := wordResiduesUptoRow, standIns := [], harness := (true, "4c664fb4151982fa72b689a98ae0b5bbd299cece75ac860867f89f6c1e5f623e"), looks := false }, kinds := [], alts := [], laidByText := true, laidKinds := [.data, .data, .data], laidTests := true, laidLooks := .later }
def WordResiduesUptoCardSaid : Prop := Claim7.holds Tryd.pinned (.plain (OpenSpec.upto wordResiduesSpec)) wordResiduesUptoCard

/-- THE SECOND FORM's CARD OF 'vouchlaw1.WordPowers'. -/
def wordPowersUptoCard : Claim7 := { stood := { row := wordPowersUptoRow, standIns := [], harness := (true, "4c664fb4151982fa72b689a98ae0b5bbd299cece75ac860867f89f6c1e5f623e"), looks := false }, kinds := [], alts := [], laidByText := true, laidKinds := [.data, .data, .data], laidTests := true, laidLooks := .later }
def WordPowersUptoCardSaid : Prop := Claim7.holds Tryd.pinned (.plain (OpenSpec.upto wordPowersSpec)) wordPowersUptoCard

/-- THE SECOND FORM's CARD OF 'vouchlaw1.WordShifts'. -/
def wordShiftsUptoCard : Claim7 := { stood := { row := wordShiftsUptoRow, standIns := [], harness := (true, "4c664fb4151982fa72b689a98ae0b5bbd299cece75ac860867f89f6c1e5f623e"), looks := false }, kinds := [], alts := [], laidByText := true, laidKinds := [.data, .data, .data], laidTests := true, laidLooks := .later }
def WordShiftsUptoCardSaid : Prop := Claim7.holds Tryd.pinned (.plain (OpenSpec.upto wordShiftsSpec)) wordShiftsUptoCard

/-- THE SECOND FORM's CARD OF 'vouchlaw1.WordExtends'. -/
def wordExtendsUptoCard : Claim7 := { stood := { row := wordExtendsUptoRow, standIns := [], harness := (true, "4c664fb4151982fa72b689a98ae0b5bbd299cece75ac860867f89f6c1e5f623e"), looks := false }, kinds := [], alts := [], laidByText := true, laidKinds := [.data, .data, .data], laidTests := true, laidLooks := .later }
def WordExtendsUptoCardSaid : Prop := Claim7.holds Tryd.pinned (.plain (OpenSpec.upto wordExtendsSpec)) wordExtendsUptoCard

/-- THE SECOND FORM's CARD OF 'vouchlaw1.WordBits'. -/
def wordBitsUptoCard : Claim7 := { stood := { row := wordBitsUptoRow, standIns := [], harness := (true, "4c664fb4151982fa72b689a98ae0b5bbd299cece75ac860867f89f6c1e5f623e"), looks := false }, kinds := [], alts := [], laidByText := true, laidKinds := [.data, .data, .data], laidTests := true, laidLooks := .later }
def WordBitsUptoCardSaid : Prop := Claim7.holds Tryd.pinned (.plain (OpenSpec.upto wordBitsSpec)) wordBitsUptoCard

/-- THE SECOND FORM's CARD OF 'vouchlaw1.WordCompares'. -/
def wordComparesUptoCard : Claim7 := { stood := { row := wordComparesUptoRow, standIns := [], harness := (true, "4c664fb4151982fa72b689a98ae0b5bbd299cece75ac860867f89f6c1e5f623e"), looks := false }, kinds := [], alts := [], laidByText := true, laidKinds := [.data, .data, .data], laidTests := true, laidLooks := .later }
def WordComparesUptoCardSaid : Prop := Claim7.holds Tryd.pinned (.plain (OpenSpec.upto wordComparesSpec)) wordComparesUptoCard

/-- THE SECOND FORM's CARD OF 'vouchlaw1.WordOrders'. -/
def wordOrdersUptoCard : Claim7 := { stood := { row := wordOrdersUptoRow, standIns := [], harness := (true, "4c664fb4151982fa72b689a98ae0b5bbd299cece75ac860867f89f6c1e5f623e"), looks := false }, kinds := [], alts := [], laidByText := true, laidKinds := [.data, .data, .data], laidTests := true, laidLooks := .later }
def WordOrdersUptoCardSaid : Prop := Claim7.holds Tryd.pinned (.plain (OpenSpec.upto wordOrdersSpec)) wordOrdersUptoCard

/-- THE SECOND FORM's CARD OF 'vouchlaw1.WordSums'. -/
def wordSumsUptoCard : Claim7 := { stood := { row := wordSumsUptoRow, standIns := [], harness := (true, "4c664fb4151982fa72b689a98ae0b5bbd299cece75ac860867f89f6c1e5f623e"), looks := false }, kinds := [], alts := [], laidByText := true, laidKinds := [.data, .data, .data], laidTests := true, laidLooks := .later }
def WordSumsUptoCardSaid : Prop := Claim7.holds Tryd.pinned (.plain (OpenSpec.upto wordSumsSpec)) wordSumsUptoCard

/-- THE SECOND FORM's CARD OF 'vouchlaw1.WordPlainSums'. -/
def wordPlainSumsUptoCard : Claim7 := { stood := { row := wordPlainSumsUptoRow, standIns := [], harness := (true, "4c664fb4151982fa72b689a98ae0b5bbd299cece75ac860867f89f6c1e5f623e"), looks := false }, kinds := [], alts := [], laidByText := true, laidKinds := [.data, .data, .data], laidTests := true, laidLooks := .later }
def WordPlainSumsUptoCardSaid : Prop := Claim7.holds Tryd.pinned (.plain (OpenSpec.upto wordPlainSumsSpec)) wordPlainSumsUptoCard

/-- THE SECOND FORM's CARD OF 'vouchlaw1.WordBytes'. -/
def wordBytesUptoCard : Claim7 := { stood := { row := wordBytesUptoRow, standIns := [], harness := (true, "4c664fb4151982fa72b689a98ae0b5bbd299cece75ac860867f89f6c1e5f623e"), looks := false }, kinds := [], alts := [], laidByText := true, laidKinds := [.data, .data, .data], laidTests := true, laidLooks := .later }
def WordBytesUptoCardSaid : Prop := Claim7.holds Tryd.pinned (.plain (OpenSpec.upto wordBytesSpec)) wordBytesUptoCard

/-- THE SECOND FORM's CARD OF 'vouchlaw1.WordForms'. -/
def wordFormsUptoCard : Claim7 := { stood := { row := wordFormsUptoRow, standIns := [], harness := (true, "4c664fb4151982fa72b689a98ae0b5bbd299cece75ac860867f89f6c1e5f623e"), looks := false }, kinds := [], alts := [], laidByText := true, laidKinds := [.data, .data, .data], laidTests := true, laidLooks := .later }
def WordFormsUptoCardSaid : Prop := Claim7.holds Tryd.pinned (.plain (OpenSpec.upto wordFormsSpec)) wordFormsUptoCard

/-- THE SECOND FORM's CARD OF 'vouchlaw1.WordTexts'. -/
def wordTextsUptoCard : Claim7 := { stood := { row := wordTextsUptoRow, standIns := [], harness := (true, "4c664fb4151982fa72b689a98ae0b5bbd299cece75ac860867f89f6c1e5f623e"), looks := false }, kinds := [], alts := [], laidByText := true, laidKinds := [.data, .data, .data], laidTests := true, laidLooks := .later }
def WordTextsUptoCardSaid : Prop := Claim7.holds Tryd.pinned (.plain (OpenSpec.upto wordTextsSpec)) wordTextsUptoCard

/-- THE SECOND FORM's CARD OF 'vouchlaw1.WordReadsBack'. -/
def wordReadsBackUptoCard : Claim7 := { stood := { row := wordReadsBackUptoRow, standIns := [], harness := (true, "4c664fb4151982fa72b689a98ae0b5bbd299cece75ac860867f89f6c1e5f623e"), looks := false }, kinds := [], alts := [], laidByText := true, laidKinds := [.data, .data, .data], laidTests := true, laidLooks := .later }
def WordReadsBackUptoCardSaid : Prop := Claim7.holds Tryd.pinned (.plain (OpenSpec.upto wordReadsBackSpec)) wordReadsBackUptoCard
end Rows
end Go.Proofs.YtegociefcfcihaaDoor
