/-
  No cell of these rows narrows 'for every input' (looked for: loops, veiled, ifaces, maps, wideKeys, modest, calm, conditions, laid).
  DERIVED. THE GIVEN ROWS OF THIS SEAT. 11 by the template 'for every input the law returns true; each argument reads behind the call as it read before'; 0 by the template 'total and deterministic' (their statements: YtpkjbeebhdgleaaTotals.lean).
  GIVEN WITH THE SEED: the statements are not yours to turn. If you find one false, say at which input.
  Laid BY PROGRAM, IN A SANDBOX (cutbox-rows.mjs): the forced cells as the released guide's own fill.sh prints them over the translation 4ae6d4dd92a8d775… (all of the seat's roots in one cut). By AI agents, Wed Nov 11 2026. No macro, syntax, notation, axiom, sorry.
-/
import Derived.Test.YtpkjbeebhdgleaaChecked
import GoSem.Claim
import GoSem.ClaimJoined
import GoSem.ClaimMapViews
import Derived.JoinedTies
import Derived.KernelRfl
namespace Go.Proofs.Ytpkjbeebhdgleaa
/- THE CELL 'sum', in the pinned program and in every row, IS THE sha256 OF THE DUMP (.gsa) THAT YtpkjbeebhdgleaaProg.lean LOADS. Nothing in Lean hashes anything: it is a label: what it is worth is what the hold of that sum in a sandbox is worth. -/
noncomputable def Try.pinned : Pinned := { name := "ytpkjbeebhdgleaa", sum := "4ae6d4dd92a8d7754b98b53f28a3763de59d866f0d3fa49af0c710a38e6bd54a", checked := Try.checked }
namespace Rows
def none {H : Type} : Left H := { results := [], args := [] }

/-- 'vouchlaw9.MachRows': WHATEVER THE INPUT: true; the input reads as it did. -/
def machRowsSpec : ChangeSpec := { name := "machRows", fn := fun _ => fun
  | [d1, d2, d3] => { results := [.lit (.bool true)], args := [d1, d2, d3] }
  | _ => none }
def machRowsRow : OpenClaim := { program := "ytpkjbeebhdgleaa", sum := "4ae6d4dd92a8d7754b98b53f28a3763de59d866f0d3fa49af0c710a38e6bd54a", func := "vouch/vouchlaw9.MachRows", spec := "machRows", apart := false }
def MachRowsSaid : Prop := machRowsRow.holds Try.pinned (OpenSpec.ofChange machRowsSpec)

/-- ITS FALSE NEIGHBOUR: 'it returns false'. Refute it at one input. -/
def machRowsWrong : ChangeSpec := { name := "machRows", fn := fun _ => fun
  | [d1, d2, d3] => { results := [.lit (.bool false)], args := [d1, d2, d3] }
  | _ => none }
def MachRowsWrongFalsely : Prop := machRowsRow.holds Try.pinned (OpenSpec.ofChange machRowsWrong)

/-- 'vouchlaw9.MachLifo': WHATEVER THE INPUT: true; the input reads as it did. -/
def machLifoSpec : ChangeSpec := { name := "machLifo", fn := fun _ => fun
  | [d] => { results := [.lit (.bool true)], args := [d] }
  | _ => none }
def machLifoRow : OpenClaim := { program := "ytpkjbeebhdgleaa", sum := "4ae6d4dd92a8d7754b98b53f28a3763de59d866f0d3fa49af0c710a38e6bd54a", func := "vouch/vouchlaw9.MachLifo", spec := "machLifo", apart := false }
def MachLifoSaid : Prop := machLifoRow.holds Try.pinned (OpenSpec.ofChange machLifoSpec)

/-- ITS FALSE NEIGHBOUR: 'it returns false'. Refute it at one input. -/
def machLifoWrong : ChangeSpec := { name := "machLifo", fn := fun _ => fun
  | [d] => { results := [.lit (.bool false)], args := [d] }
  | _ => none }
def MachLifoWrongFalsely : Prop := machLifoRow.holds Try.pinned (OpenSpec.ofChange machLifoWrong)

/-- 'vouchlaw9.MachTurns': WHATEVER THE INPUT: true; the input reads as it did. -/
def machTurnsSpec : ChangeSpec := { name := "machTurns", fn := fun _ => fun
  | [d1, d2, d3] => { results := [.lit (.bool true)], args := [d1, d2, d3] }
  | _ => none }
def machTurnsRow : OpenClaim := { program := "ytpkjbeebhdgleaa", sum := "4ae6d4dd92a8d7754b98b53f28a3763de59d866f0d3fa49af0c710a38e6bd54a", func := "vouch/vouchlaw9.MachTurns", spec := "machTurns", apart := false }
def MachTurnsSaid : Prop := machTurnsRow.holds Try.pinned (OpenSpec.ofChange machTurnsSpec)

/-- ITS FALSE NEIGHBOUR: 'it returns false'. Refute it at one input. -/
def machTurnsWrong : ChangeSpec := { name := "machTurns", fn := fun _ => fun
  | [d1, d2, d3] => { results := [.lit (.bool false)], args := [d1, d2, d3] }
  | _ => none }
def MachTurnsWrongFalsely : Prop := machTurnsRow.holds Try.pinned (OpenSpec.ofChange machTurnsWrong)

/-- 'vouchlaw9.MachAlike': WHATEVER THE INPUT: true; the input reads as it did. -/
def machAlikeSpec : ChangeSpec := { name := "machAlike", fn := fun _ => fun
  | [d] => { results := [.lit (.bool true)], args := [d] }
  | _ => none }
def machAlikeRow : OpenClaim := { program := "ytpkjbeebhdgleaa", sum := "4ae6d4dd92a8d7754b98b53f28a3763de59d866f0d3fa49af0c710a38e6bd54a", func := "vouch/vouchlaw9.MachAlike", spec := "machAlike", apart := false }
def MachAlikeSaid : Prop := machAlikeRow.holds Try.pinned (OpenSpec.ofChange machAlikeSpec)

/-- ITS FALSE NEIGHBOUR: 'it returns false'. Refute it at one input. -/
def machAlikeWrong : ChangeSpec := { name := "machAlike", fn := fun _ => fun
  | [d] => { results := [.lit (.bool false)], args := [d] }
  | _ => none }
def MachAlikeWrongFalsely : Prop := machAlikeRow.holds Try.pinned (OpenSpec.ofChange machAlikeWrong)

/-- 'vouchlaw9.MachRing': WHATEVER THE INPUT: true; the input reads as it did. -/
def machRingSpec : ChangeSpec := { name := "machRing", fn := fun _ => fun
  | [d1, d2, d3, d4, d5] => { results := [.lit (.bool true)], args := [d1, d2, d3, d4, d5] }
  | _ => none }
def machRingRow : OpenClaim := { program := "ytpkjbeebhdgleaa", sum := "4ae6d4dd92a8d7754b98b53f28a3763de59d866f0d3fa49af0c710a38e6bd54a", func := "vouch/vouchlaw9.MachRing", spec := "machRing", apart := false }
def MachRingSaid : Prop := machRingRow.holds Try.pinned (OpenSpec.ofChange machRingSpec)

/-- ITS FALSE NEIGHBOUR: 'it returns false'. Refute it at one input. -/
def machRingWrong : ChangeSpec := { name := "machRing", fn := fun _ => fun
  | [d1, d2, d3, d4, d5] => { results := [.lit (.bool false)], args := [d1, d2, d3, d4, d5] }
  | _ => none }
def MachRingWrongFalsely : Prop := machRingRow.holds Try.pinned (OpenSpec.ofChange machRingWrong)

/-- 'vouchlaw9.MachMemories': WHATEVER THE INPUT: true; the input reads as it did. -/
def machMemoriesSpec : ChangeSpec := { name := "machMemories", fn := fun _ => fun
  | [d] => { results := [.lit (.bool true)], args := [d] }
  | _ => none }
def machMemoriesRow : OpenClaim := { program := "ytpkjbeebhdgleaa", sum := "4ae6d4dd92a8d7754b98b53f28a3763de59d866f0d3fa49af0c710a38e6bd54a", func := "vouch/vouchlaw9.MachMemories", spec := "machMemories", inPlace := ["math/bits.Add64", "math/bits.Sub64"], apart := false }
def MachMemoriesSaid : Prop := machMemoriesRow.holds Try.pinned (OpenSpec.ofChange machMemoriesSpec)

/-- ITS FALSE NEIGHBOUR: 'it returns false'. Refute it at one input. -/
def machMemoriesWrong : ChangeSpec := { name := "machMemories", fn := fun _ => fun
  | [d] => { results := [.lit (.bool false)], args := [d] }
  | _ => none }
def MachMemoriesWrongFalsely : Prop := machMemoriesRow.holds Try.pinned (OpenSpec.ofChange machMemoriesWrong)

/-- 'vouchlaw9.MachKeeps': WHATEVER THE INPUT: true; the input reads as it did. -/
def machKeepsSpec : ChangeSpec := { name := "machKeeps", fn := fun _ => fun
  | [d] => { results := [.lit (.bool true)], args := [d] }
  | _ => none }
def machKeepsRow : OpenClaim := { program := "ytpkjbeebhdgleaa", sum := "4ae6d4dd92a8d7754b98b53f28a3763de59d866f0d3fa49af0c710a38e6bd54a", func := "vouch/vouchlaw9.MachKeeps", spec := "machKeeps", inPlace := ["math/bits.Add64", "math/bits.Sub64"], apart := false }
def MachKeepsSaid : Prop := machKeepsRow.holds Try.pinned (OpenSpec.ofChange machKeepsSpec)

/-- ITS FALSE NEIGHBOUR: 'it returns false'. Refute it at one input. -/
def machKeepsWrong : ChangeSpec := { name := "machKeeps", fn := fun _ => fun
  | [d] => { results := [.lit (.bool false)], args := [d] }
  | _ => none }
def MachKeepsWrongFalsely : Prop := machKeepsRow.holds Try.pinned (OpenSpec.ofChange machKeepsWrong)

/-- 'vouchlaw9.MachPieces': WHATEVER THE INPUT: true; the input reads as it did. -/
def machPiecesSpec : ChangeSpec := { name := "machPieces", fn := fun _ => fun
  | [d1, d2, d3, d4] => { results := [.lit (.bool true)], args := [d1, d2, d3, d4] }
  | _ => none }
def machPiecesRow : OpenClaim := { program := "ytpkjbeebhdgleaa", sum := "4ae6d4dd92a8d7754b98b53f28a3763de59d866f0d3fa49af0c710a38e6bd54a", func := "vouch/vouchlaw9.MachPieces", spec := "machPieces", inPlace := ["math/bits.Add64", "math/bits.Sub64"], apart := false }
def MachPiecesSaid : Prop := machPiecesRow.holds Try.pinned (OpenSpec.ofChange machPiecesSpec)

/-- ITS FALSE NEIGHBOUR: 'it returns false'. Refute it at one input. -/
def machPiecesWrong : ChangeSpec := { name := "machPieces", fn := fun _ => fun
  | [d1, d2, d3, d4] => { results := [.lit (.bool false)], args := [d1, d2, d3, d4] }
  | _ => none }
def MachPiecesWrongFalsely : Prop := machPiecesRow.holds Try.pinned (OpenSpec.ofChange machPiecesWrong)

/-- 'vouchlaw9.MachReaches': WHATEVER THE INPUT: true; the input reads as it did. -/
def machReachesSpec : ChangeSpec := { name := "machReaches", fn := fun _ => fun
  | [d1, d2, d3] => { results := [.lit (.bool true)], args := [d1, d2, d3] }
  | _ => none }
def machReachesRow : OpenClaim := { program := "ytpkjbeebhdgleaa", sum := "4ae6d4dd92a8d7754b98b53f28a3763de59d866f0d3fa49af0c710a38e6bd54a", func := "vouch/vouchlaw9.MachReaches", spec := "machReaches", inPlace := ["math/bits.Add64", "math/bits.Sub64"], apart := false }
def MachReachesSaid : Prop := machReachesRow.holds Try.pinned (OpenSpec.ofChange machReachesSpec)

/-- ITS FALSE NEIGHBOUR: 'it returns false'. Refute it at one input. -/
def machReachesWrong : ChangeSpec := { name := "machReaches", fn := fun _ => fun
  | [d1, d2, d3] => { results := [.lit (.bool false)], args := [d1, d2, d3] }
  | _ => none }
def MachReachesWrongFalsely : Prop := machReachesRow.holds Try.pinned (OpenSpec.ofChange machReachesWrong)

/-- 'vouchlaw9.MachRowed': WHATEVER THE INPUT: true; the input reads as it did. -/
def machRowedSpec : ChangeSpec := { name := "machRowed", fn := fun _ => fun
  | [d1, d2, d3] => { results := [.lit (.bool true)], args := [d1, d2, d3] }
  | _ => none }
def machRowedRow : OpenClaim := { program := "ytpkjbeebhdgleaa", sum := "4ae6d4dd92a8d7754b98b53f28a3763de59d866f0d3fa49af0c710a38e6bd54a", func := "vouch/vouchlaw9.MachRowed", spec := "machRowed", inPlace := ["math/bits.Add64", "math/bits.Sub64"], apart := false }
def MachRowedSaid : Prop := machRowedRow.holds Try.pinned (OpenSpec.ofChange machRowedSpec)

/-- ITS FALSE NEIGHBOUR: 'it returns false'. Refute it at one input. -/
def machRowedWrong : ChangeSpec := { name := "machRowed", fn := fun _ => fun
  | [d1, d2, d3] => { results := [.lit (.bool false)], args := [d1, d2, d3] }
  | _ => none }
def MachRowedWrongFalsely : Prop := machRowedRow.holds Try.pinned (OpenSpec.ofChange machRowedWrong)

/-- 'vouchlaw9.MachOwn': WHATEVER THE INPUT: true; the input reads as it did. -/
def machOwnSpec : ChangeSpec := { name := "machOwn", fn := fun _ => fun
  | [d1, d2, d3] => { results := [.lit (.bool true)], args := [d1, d2, d3] }
  | _ => none }
def machOwnRow : OpenClaim := { program := "ytpkjbeebhdgleaa", sum := "4ae6d4dd92a8d7754b98b53f28a3763de59d866f0d3fa49af0c710a38e6bd54a", func := "vouch/vouchlaw9.MachOwn", spec := "machOwn", inPlace := ["math/bits.Add64", "math/bits.Sub64"], apart := false }
def MachOwnSaid : Prop := machOwnRow.holds Try.pinned (OpenSpec.ofChange machOwnSpec)

/-- ITS FALSE NEIGHBOUR: 'it returns false'. Refute it at one input. -/
def machOwnWrong : ChangeSpec := { name := "machOwn", fn := fun _ => fun
  | [d1, d2, d3] => { results := [.lit (.bool false)], args := [d1, d2, d3] }
  | _ => none }
def MachOwnWrongFalsely : Prop := machOwnRow.holds Try.pinned (OpenSpec.ofChange machOwnWrong)

/- THE SECOND FORM. 'bulk': how many values and letters a reading holds, each counted each time it is reached (what is shared counts as often as it is met; a slice's spare places count too). A statement '..UptoSaid' is the law's where the arguments, and the package variables that the reading takes, are together of bulk at most 1048576: NARROWER than '..Said'. Prove '..Said' where nothing that the law and all that it calls make is longer than what came in: it says more and counts as full. Else prove '..UptoSaid'. A law counts once. -/
mutual
def uptoBulk {H : Type} : DataW H → Nat
  | .lit (.string bytes) => bytes.length + 1
  | .lit _ => 1
  | .nil => 1
  | .ptr d => uptoBulk d + 1
  | .slice elems spare => uptoBulkAll elems + uptoBulkAll spare + 1
  | .agg parts => uptoBulkAll parts + 1
  | .iface _ d => uptoBulk d + 1
  | .map entries => uptoBulkEntries entries + 1
  | .held _ => 1
def uptoBulkAll {H : Type} : List (DataW H) → Nat
  | [] => 0
  | d :: r => uptoBulk d + uptoBulkAll r
def uptoBulkEntries {H : Type} : List (Lit × DataW H) → Nat
  | [] => 0
  | x :: r => uptoBulkEntry x + uptoBulkEntries r
def uptoBulkEntry {H : Type} : Lit × DataW H → Nat
  | (.string bytes, d) => bytes.length + uptoBulk d + 1
  | (_, d) => uptoBulk d + 1
 end
def uptoSmall : (H : Type) → List (DataW H) → Bool := fun _ ds => decide (uptoBulkAll ds ≤ 1048576)
def OpenSpec.upto (s : _root_.Go.ChangeSpec) : _root_.Go.OpenSpec := { _root_.Go.OpenSpec.ofChange s with cond := some uptoSmall }

/-- 'vouchlaw9.MachRows', WHERE WHAT IT READS IS OF BULK AT MOST 1048576: true; the input reads as it did. -/
def machRowsUptoRow : OpenClaim := { program := "ytpkjbeebhdgleaa", sum := "4ae6d4dd92a8d7754b98b53f28a3763de59d866f0d3fa49af0c710a38e6bd54a", func := "vouch/vouchlaw9.MachRows", spec := "machRows", apart := false, narrowed := true }
def MachRowsUptoSaid : Prop := machRowsUptoRow.holds Try.pinned (OpenSpec.upto machRowsSpec)

/-- 'vouchlaw9.MachLifo', WHERE WHAT IT READS IS OF BULK AT MOST 1048576: true; the input reads as it did. -/
def machLifoUptoRow : OpenClaim := { program := "ytpkjbeebhdgleaa", sum := "4ae6d4dd92a8d7754b98b53f28a3763de59d866f0d3fa49af0c710a38e6bd54a", func := "vouch/vouchlaw9.MachLifo", spec := "machLifo", apart := false, narrowed := true }
def MachLifoUptoSaid : Prop := machLifoUptoRow.holds Try.pinned (OpenSpec.upto machLifoSpec)

/-- 'vouchlaw9.MachTurns', WHERE WHAT IT READS IS OF BULK AT MOST 1048576: true; the input reads as it did. -/
def machTurnsUptoRow : OpenClaim := { program := "ytpkjbeebhdgleaa", sum := "4ae6d4dd92a8d7754b98b53f28a3763de59d866f0d3fa49af0c710a38e6bd54a", func := "vouch/vouchlaw9.MachTurns", spec := "machTurns", apart := false, narrowed := true }
def MachTurnsUptoSaid : Prop := machTurnsUptoRow.holds Try.pinned (OpenSpec.upto machTurnsSpec)

/-- 'vouchlaw9.MachAlike', WHERE WHAT IT READS IS OF BULK AT MOST 1048576: true; the input reads as it did. -/
def machAlikeUptoRow : OpenClaim := { program := "ytpkjbeebhdgleaa", sum := "4ae6d4dd92a8d7754b98b53f28a3763de59d866f0d3fa49af0c710a38e6bd54a", func := "vouch/vouchlaw9.MachAlike", spec := "machAlike", apart := false, narrowed := true }
def MachAlikeUptoSaid : Prop := machAlikeUptoRow.holds Try.pinned (OpenSpec.upto machAlikeSpec)

/-- 'vouchlaw9.MachRing', WHERE WHAT IT READS IS OF BULK AT MOST 1048576: true; the input reads as it did. -/
def machRingUptoRow : OpenClaim := { program := "ytpkjbeebhdgleaa", sum := "4ae6d4dd92a8d7754b98b53f28a3763de59d866f0d3fa49af0c710a38e6bd54a", func := "vouch/vouchlaw9.MachRing", spec := "machRing", apart := false, narrowed := true }
def MachRingUptoSaid : Prop := machRingUptoRow.holds Try.pinned (OpenSpec.upto machRingSpec)

/-- 'vouchlaw9.MachMemories', WHERE WHAT IT READS IS OF BULK AT MOST 1048576: true; the input reads as it did. -/
def machMemoriesUptoRow : OpenClaim := { program := "ytpkjbeebhdgleaa", sum := "4ae6d4dd92a8d7754b98b53f28a3763de59d866f0d3fa49af0c710a38e6bd54a", func := "vouch/vouchlaw9.MachMemories", spec := "machMemories", inPlace := ["math/bits.Add64", "math/bits.Sub64"], apart := false, narrowed := true }
def MachMemoriesUptoSaid : Prop := machMemoriesUptoRow.holds Try.pinned (OpenSpec.upto machMemoriesSpec)

/-- 'vouchlaw9.MachKeeps', WHERE WHAT IT READS IS OF BULK AT MOST 1048576: true; the input reads as it did. -/
def machKeepsUptoRow : OpenClaim := { program := "ytpkjbeebhdgleaa", sum := "4ae6d4dd92a8d7754b98b53f28a3763de59d866f0d3fa49af0c710a38e6bd54a", func := "vouch/vouchlaw9.MachKeeps", spec := "machKeeps", inPlace := ["math/bits.Add64", "math/bits.Sub64"], apart := false, narrowed := true }
def MachKeepsUptoSaid : Prop := machKeepsUptoRow.holds Try.pinned (OpenSpec.upto machKeepsSpec)

/-- 'vouchlaw9.MachPieces', WHERE WHAT IT READS IS OF BULK AT MOST 1048576: true; the input reads as it did. -/
def machPiecesUptoRow : OpenClaim := { program := "ytpkjbeebhdgleaa", sum := "4ae6d4dd92a8d7754b98b53f28a3763de59d866f0d3fa49af0c710a38e6bd54a", func := "vouch/vouchlaw9.MachPieces", spec := "machPieces", inPlace := ["math/bits.Add64", "math/bits.Sub64"], apart := false, narrowed := true }
def MachPiecesUptoSaid : Prop := machPiecesUptoRow.holds Try.pinned (OpenSpec.upto machPiecesSpec)

/-- 'vouchlaw9.MachReaches', WHERE WHAT IT READS IS OF BULK AT MOST 1048576: true; the input reads as it did. -/
def machReachesUptoRow : OpenClaim := { program := "ytpkjbeebhdgleaa", sum := "4ae6d4dd92a8d7754b98b53f28a3763de59d866f0d3fa49af0c710a38e6bd54a", func := "vouch/vouchlaw9.MachReaches", spec := "machReaches", inPlace := ["math/bits.Add64", "math/bits.Sub64"], apart := false, narrowed := true }
def MachReachesUptoSaid : Prop := machReachesUptoRow.holds Try.pinned (OpenSpec.upto machReachesSpec)

/-- 'vouchlaw9.MachRowed', WHERE WHAT IT READS IS OF BULK AT MOST 1048576: true; the input reads as it did. -/
def machRowedUptoRow : OpenClaim := { program := "ytpkjbeebhdgleaa", sum := "4ae6d4dd92a8d7754b98b53f28a3763de59d866f0d3fa49af0c710a38e6bd54a", func := "vouch/vouchlaw9.MachRowed", spec := "machRowed", inPlace := ["math/bits.Add64", "math/bits.Sub64"], apart := false, narrowed := true }
def MachRowedUptoSaid : Prop := machRowedUptoRow.holds Try.pinned (OpenSpec.upto machRowedSpec)

/-- 'vouchlaw9.MachOwn', WHERE WHAT IT READS IS OF BULK AT MOST 1048576: true; the input reads as it did. -/
def machOwnUptoRow : OpenClaim := { program := "ytpkjbeebhdgleaa", sum := "4ae6d4dd92a8d7754b98b53f28a3763de59d866f0d3fa49af0c710a38e6bd54a", func := "vouch/vouchlaw9.MachOwn", spec := "machOwn", inPlace := ["math/bits.Add64", "math/bits.Sub64"], apart := false, narrowed := true }
def MachOwnUptoSaid : Prop := machOwnUptoRow.holds Try.pinned (OpenSpec.upto machOwnSpec)

end Rows
end Go.Proofs.Ytpkjbeebhdgleaa
