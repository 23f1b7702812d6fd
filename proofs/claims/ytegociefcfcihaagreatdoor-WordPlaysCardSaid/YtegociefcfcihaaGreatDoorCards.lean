/-
  DERIVED. GIVEN WITH THE SEED: THE CARDS: each row of YtegociefcfcihaaGreatDoorRows.lean that lists a variable, with what it lists TIED to the program's text (the seventh form; the later family's looks); each row that meets fmt, with fmt's text TOLD by the authors' own Lean function (tested against real Go, not proved from fmt's source: count such statements apart). THE CARD IS WHAT COUNTS. Prove the row's statement (the work); the ties are given (YtegociefcfcihaaGreatDoorTie.lean); close each card by the builder's one call (the guide's Derived/Test/ToyasCard.lean, 'card_holds'). Laid BY PROGRAM, IN A SANDBOX (cutbox-door.mjs). By AI agents, Wed Nov 11 2026. No macro, syntax, notation, axiom, sorry.
-/
import Derived.Test.YtegociefcfcihaaGreatDoorRows
import GoSem.ClaimSeven
namespace Go.Proofs.YtegociefcfcihaaGreatDoor
namespace Rows

/-- THE TIED CARD OF 'vouchlaw1.WordDoes'. -/
def wordDoesCard : Claim7 := { stood := { row := wordDoesRow, standIns := [], harness := (true, "d81176061d9aa0ec2658ad233bef13b73b53e06d66529356320b2371240b16b5"), looks := false }, kinds := [], alts := [], laidByText := true, laidKinds := [.data, .data, .data], laidTests := true, laidLooks := .later }
def WordDoesCardSaid : Prop := Claim7.holds Tryz.pinned (.plain (OpenSpec.ofChange wordDoesSpec)) wordDoesCard

/-- THE TIED CARD OF 'vouchlaw1.WordPlays'. -/
def wordPlaysCard : Claim7 := { stood := { row := wordPlaysRow, standIns := [], harness := (true, "d81176061d9aa0ec2658ad233bef13b73b53e06d66529356320b2371240b16b5"), looks := false }, kinds := [], alts := [], laidByText := true, laidKinds := [.data, .data, .data], laidTests := true, laidLooks := .later }
def WordPlaysCardSaid : Prop := Claim7.holds Tryz.pinned (.plain (OpenSpec.ofChange wordPlaysSpec)) wordPlaysCard

/-- THE SECOND FORM's CARD OF 'vouchlaw1.WordDoes'. -/
def wordDoesUptoCard : Claim7 := { stood := { row := wordDoesUptoRow, standIns := [], harness := (true, "d81176061d9aa0ec2658ad233bef13b73b53e06d66529356320b2371240b16b5"), looks := false }, kinds := [], alts := [], laidByText := true, laidKinds := [.data, .data, .data], laidTests := true, laidLooks := .later }
def WordDoesUptoCardSaid : Prop := Claim7.holds Tryz.pinned (.plain (OpenSpec.upto wordDoesSpec)) wordDoesUptoCard

/-- THE SECOND FORM's CARD OF 'vouchlaw1.WordPlays'. -/
def wordPlaysUptoCard : Claim7 := { stood := { row := wordPlaysUptoRow, standIns := [], harness := (true, "d81176061d9aa0ec2658ad233bef13b73b53e06d66529356320b2371240b16b5"), looks := false }, kinds := [], alts := [], laidByText := true, laidKinds := [.data, .data, .data], laidTests := true, laidLooks := .later }
def WordPlaysUptoCardSaid : Prop := Claim7.holds Tryz.pinned (.plain (OpenSpec.upto wordPlaysSpec)) wordPlaysUptoCard
end Rows
end Go.Proofs.YtegociefcfcihaaGreatDoor
