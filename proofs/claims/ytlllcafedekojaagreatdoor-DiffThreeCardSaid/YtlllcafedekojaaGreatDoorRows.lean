/-
  NARROWER THAN 'FOR EVERY INPUT', by the rows' own cells (each row's printed sentence says how): DiffFinds: laid · DiffMakes: laid · DiffTurns: laid · DiffJoins: laid · DiffLeads: laid · DiffBack: laid · DiffThree: laid · DiffSteps: laid · DiffGroups: laid · DiffApart: laid · DiffFresh: laid · DiffPlace: laid.
  DERIVED. THE GIVEN ROWS OF THIS SEAT. 12 by the template 'for every input the law returns true; each argument reads behind the call as it read before'; 0 by the template 'total and deterministic' (their statements: YtlllcafedekojaaGreatDoorTotals.lean).
  GIVEN WITH THE SEED: the statements are not yours to turn. If you find one false, say at which input.
  Laid BY PROGRAM, IN A SANDBOX (cutbox-rows.mjs): the forced cells as the released guide's own fill.sh prints them over the translation 1a7945e35865c2e5… (all of the seat's roots in one cut). By AI agents, Wed Nov 11 2026. No macro, syntax, notation, axiom, sorry.
-/
import Derived.Test.YtlllcafedekojaaGreatDoorChecked
import GoSem.Claim
import GoSem.ClaimJoined
import GoSem.ClaimMapViews
import Derived.JoinedTies
import Derived.KernelRfl
namespace Go.Proofs.YtlllcafedekojaaGreatDoor
/- THE CELL 'sum', in the pinned program and in every row, IS THE sha256 OF THE DUMP (.gsa) THAT YtlllcafedekojaaGreatDoorProg.lean LOADS. Nothing in Lean hashes anything: it is a label: what it is worth is what the hold of that sum in a sandbox is worth. -/
noncomputable def Tryz.pinned : Pinned := { name := "ytlllcafedekojaagreatdoor", sum := "1a7945e35865c2e50313e526a9199641b103f4f0f3b9c60c059725ac76c5231a", checked := Tryz.checked }
namespace Rows
def none {H : Type} : Left H := { results := [], args := [] }

/- WHAT THE LISTED PACKAGE-LEVEL VARIABLES READ AS WHEN THE CALL BEGINS. Each datum BY PROGRAM (the guide's laid-datum.mjs) off the statement by which the dump's own 'gosem.cut.vars' lays the variable. In a bare row this is a premise. The card (YtlllcafedekojaaGreatDoorCards.lean) ties it to the program's text. -/
def laid_math_bits_deBruijn32tab {H : Type} : DataW H := .agg [.lit (.int .u8 0), .lit (.int .u8 1), .lit (.int .u8 28), .lit (.int .u8 2), .lit (.int .u8 29), .lit (.int .u8 14), .lit (.int .u8 24), .lit (.int .u8 3), .lit (.int .u8 30), .lit (.int .u8 22), .lit (.int .u8 20), .lit (.int .u8 15), .lit (.int .u8 25), .lit (.int .u8 17), .lit (.int .u8 4), .lit (.int .u8 8), .lit (.int .u8 31), .lit (.int .u8 27), .lit (.int .u8 13), .lit (.int .u8 23), .lit (.int .u8 21), .lit (.int .u8 19), .lit (.int .u8 16), .lit (.int .u8 7), .lit (.int .u8 26), .lit (.int .u8 12), .lit (.int .u8 18), .lit (.int .u8 6), .lit (.int .u8 11), .lit (.int .u8 5), .lit (.int .u8 10), .lit (.int .u8 9)]
def laid_math_bits_deBruijn64tab {H : Type} : DataW H := .agg [.lit (.int .u8 0), .lit (.int .u8 1), .lit (.int .u8 56), .lit (.int .u8 2), .lit (.int .u8 57), .lit (.int .u8 49), .lit (.int .u8 28), .lit (.int .u8 3), .lit (.int .u8 61), .lit (.int .u8 58), .lit (.int .u8 42), .lit (.int .u8 50), .lit (.int .u8 38), .lit (.int .u8 29), .lit (.int .u8 17), .lit (.int .u8 4), .lit (.int .u8 62), .lit (.int .u8 47), .lit (.int .u8 59), .lit (.int .u8 36), .lit (.int .u8 45), .lit (.int .u8 43), .lit (.int .u8 51), .lit (.int .u8 22), .lit (.int .u8 53), .lit (.int .u8 39), .lit (.int .u8 33), .lit (.int .u8 30), .lit (.int .u8 24), .lit (.int .u8 18), .lit (.int .u8 12), .lit (.int .u8 5), .lit (.int .u8 63), .lit (.int .u8 55), .lit (.int .u8 48), .lit (.int .u8 27), .lit (.int .u8 60), .lit (.int .u8 41), .lit (.int .u8 37), .lit (.int .u8 16), .lit (.int .u8 46), .lit (.int .u8 35), .lit (.int .u8 44), .lit (.int .u8 21), .lit (.int .u8 52), .lit (.int .u8 32), .lit (.int .u8 23), .lit (.int .u8 11), .lit (.int .u8 54), .lit (.int .u8 26), .lit (.int .u8 40), .lit (.int .u8 15), .lit (.int .u8 34), .lit (.int .u8 20), .lit (.int .u8 31), .lit (.int .u8 10), .lit (.int .u8 25), .lit (.int .u8 14), .lit (.int .u8 19), .lit (.int .u8 9), .lit (.int .u8 13), .lit (.int .u8 8), .lit (.int .u8 7), .lit (.int .u8 6)]
def laid_internal_strconv_uint64pow10 {H : Type} : DataW H := .agg [.lit (.int .u64 1), .lit (.int .u64 10), .lit (.int .u64 100), .lit (.int .u64 1000), .lit (.int .u64 10000), .lit (.int .u64 100000), .lit (.int .u64 1000000), .lit (.int .u64 10000000), .lit (.int .u64 100000000), .lit (.int .u64 1000000000), .lit (.int .u64 10000000000), .lit (.int .u64 100000000000), .lit (.int .u64 1000000000000), .lit (.int .u64 10000000000000), .lit (.int .u64 100000000000000), .lit (.int .u64 1000000000000000), .lit (.int .u64 10000000000000000), .lit (.int .u64 100000000000000000), .lit (.int .u64 1000000000000000000), .lit (.int .u64 10000000000000000000)]

/-- 'vouchlaw24.DiffFinds': WHATEVER THE INPUT: true; the input reads as it did. -/
def diffFindsSpec : ChangeSpec := { name := "diffFinds", fn := fun _ => fun
  | [d1, d2] => { results := [.lit (.bool true)], args := [d1, d2] }
  | _ => none }
def diffFindsRow : OpenClaim := { program := "ytlllcafedekojaagreatdoor", sum := "1a7945e35865c2e50313e526a9199641b103f4f0f3b9c60c059725ac76c5231a", func := "vouch/vouchlaw24.DiffFinds", spec := "diffFinds", inPlace := ["internal/bytealg.Compare", "math/bits.Sub64", "math/bits.Add64"], unfollowed := true, recurses := true, named := ["internal/strconv.uint64pow10", "math/bits.deBruijn32tab", "math/bits.deBruijn64tab"], plainKeys := false, apart := false, laid := [("math/bits.deBruijn32tab", laid_math_bits_deBruijn32tab), ("math/bits.deBruijn64tab", laid_math_bits_deBruijn64tab), ("internal/strconv.uint64pow10", laid_internal_strconv_uint64pow10)] }
def DiffFindsSaid : Prop := diffFindsRow.holds Tryz.pinned (OpenSpec.ofChange diffFindsSpec)

/-- ITS FALSE NEIGHBOUR: 'it returns false'. Refute it at one input. -/
def diffFindsWrong : ChangeSpec := { name := "diffFinds", fn := fun _ => fun
  | [d1, d2] => { results := [.lit (.bool false)], args := [d1, d2] }
  | _ => none }
def DiffFindsWrongFalsely : Prop := diffFindsRow.holds Tryz.pinned (OpenSpec.ofChange diffFindsWrong)

/-- 'vouchlaw24.DiffMakes': WHATEVER THE INPUT: true; the input reads as it did. -/
def diffMakesSpec : ChangeSpec := { name := "diffMakes", fn := fun _ => fun
  | [d1, d2] => { results := [.lit (.bool true)], args := [d1, d2] }
  | _ => none }
def diffMakesRow : OpenClaim := { program := "ytlllcafedekojaagreatdoor", sum := "1a7945e35865c2e50313e526a9199641b103f4f0f3b9c60c059725ac76c5231a", func := "vouch/vouchlaw24.DiffMakes", spec := "diffMakes", inPlace := ["internal/bytealg.Compare", "math/bits.Sub64", "math/bits.Add64"], unfollowed := true, recurses := true, named := ["internal/strconv.uint64pow10", "math/bits.deBruijn32tab", "math/bits.deBruijn64tab"], plainKeys := false, apart := false, laid := [("math/bits.deBruijn32tab", laid_math_bits_deBruijn32tab), ("math/bits.deBruijn64tab", laid_math_bits_deBruijn64tab), ("internal/strconv.uint64pow10", laid_internal_strconv_uint64pow10)] }
def DiffMakesSaid : Prop := diffMakesRow.holds Tryz.pinned (OpenSpec.ofChange diffMakesSpec)

/-- ITS FALSE NEIGHBOUR: 'it returns false'. Refute it at one input. -/
def diffMakesWrong : ChangeSpec := { name := "diffMakes", fn := fun _ => fun
  | [d1, d2] => { results := [.lit (.bool false)], args := [d1, d2] }
  | _ => none }
def DiffMakesWrongFalsely : Prop := diffMakesRow.holds Tryz.pinned (OpenSpec.ofChange diffMakesWrong)

/-- 'vouchlaw24.DiffTurns': WHATEVER THE INPUT: true; the input reads as it did. -/
def diffTurnsSpec : ChangeSpec := { name := "diffTurns", fn := fun _ => fun
  | [d1, d2] => { results := [.lit (.bool true)], args := [d1, d2] }
  | _ => none }
def diffTurnsRow : OpenClaim := { program := "ytlllcafedekojaagreatdoor", sum := "1a7945e35865c2e50313e526a9199641b103f4f0f3b9c60c059725ac76c5231a", func := "vouch/vouchlaw24.DiffTurns", spec := "diffTurns", inPlace := ["internal/bytealg.Compare", "math/bits.Sub64", "math/bits.Add64"], unfollowed := true, recurses := true, named := ["internal/strconv.uint64pow10", "math/bits.deBruijn32tab", "math/bits.deBruijn64tab"], plainKeys := false, apart := false, laid := [("math/bits.deBruijn32tab", laid_math_bits_deBruijn32tab), ("math/bits.deBruijn64tab", laid_math_bits_deBruijn64tab), ("internal/strconv.uint64pow10", laid_internal_strconv_uint64pow10)] }
def DiffTurnsSaid : Prop := diffTurnsRow.holds Tryz.pinned (OpenSpec.ofChange diffTurnsSpec)

/-- ITS FALSE NEIGHBOUR: 'it returns false'. Refute it at one input. -/
def diffTurnsWrong : ChangeSpec := { name := "diffTurns", fn := fun _ => fun
  | [d1, d2] => { results := [.lit (.bool false)], args := [d1, d2] }
  | _ => none }
def DiffTurnsWrongFalsely : Prop := diffTurnsRow.holds Tryz.pinned (OpenSpec.ofChange diffTurnsWrong)

/-- 'vouchlaw24.DiffJoins': WHATEVER THE INPUT: true; the input reads as it did. -/
def diffJoinsSpec : ChangeSpec := { name := "diffJoins", fn := fun _ => fun
  | [d1, d2] => { results := [.lit (.bool true)], args := [d1, d2] }
  | _ => none }
def diffJoinsRow : OpenClaim := { program := "ytlllcafedekojaagreatdoor", sum := "1a7945e35865c2e50313e526a9199641b103f4f0f3b9c60c059725ac76c5231a", func := "vouch/vouchlaw24.DiffJoins", spec := "diffJoins", inPlace := ["internal/bytealg.Compare", "math/bits.Sub64", "math/bits.Add64"], unfollowed := true, recurses := true, named := ["internal/strconv.uint64pow10", "math/bits.deBruijn32tab", "math/bits.deBruijn64tab"], plainKeys := false, apart := false, laid := [("math/bits.deBruijn32tab", laid_math_bits_deBruijn32tab), ("math/bits.deBruijn64tab", laid_math_bits_deBruijn64tab), ("internal/strconv.uint64pow10", laid_internal_strconv_uint64pow10)] }
def DiffJoinsSaid : Prop := diffJoinsRow.holds Tryz.pinned (OpenSpec.ofChange diffJoinsSpec)

/-- ITS FALSE NEIGHBOUR: 'it returns false'. Refute it at one input. -/
def diffJoinsWrong : ChangeSpec := { name := "diffJoins", fn := fun _ => fun
  | [d1, d2] => { results := [.lit (.bool false)], args := [d1, d2] }
  | _ => none }
def DiffJoinsWrongFalsely : Prop := diffJoinsRow.holds Tryz.pinned (OpenSpec.ofChange diffJoinsWrong)

/-- 'vouchlaw24.DiffLeads': WHATEVER THE INPUT: true; the input reads as it did. -/
def diffLeadsSpec : ChangeSpec := { name := "diffLeads", fn := fun _ => fun
  | [d1, d2] => { results := [.lit (.bool true)], args := [d1, d2] }
  | _ => none }
def diffLeadsRow : OpenClaim := { program := "ytlllcafedekojaagreatdoor", sum := "1a7945e35865c2e50313e526a9199641b103f4f0f3b9c60c059725ac76c5231a", func := "vouch/vouchlaw24.DiffLeads", spec := "diffLeads", inPlace := ["internal/bytealg.Compare", "math/bits.Sub64", "math/bits.Add64"], unfollowed := true, recurses := true, named := ["internal/strconv.uint64pow10", "math/bits.deBruijn32tab", "math/bits.deBruijn64tab"], plainKeys := false, apart := false, laid := [("math/bits.deBruijn32tab", laid_math_bits_deBruijn32tab), ("math/bits.deBruijn64tab", laid_math_bits_deBruijn64tab), ("internal/strconv.uint64pow10", laid_internal_strconv_uint64pow10)] }
def DiffLeadsSaid : Prop := diffLeadsRow.holds Tryz.pinned (OpenSpec.ofChange diffLeadsSpec)

/-- ITS FALSE NEIGHBOUR: 'it returns false'. Refute it at one input. -/
def diffLeadsWrong : ChangeSpec := { name := "diffLeads", fn := fun _ => fun
  | [d1, d2] => { results := [.lit (.bool false)], args := [d1, d2] }
  | _ => none }
def DiffLeadsWrongFalsely : Prop := diffLeadsRow.holds Tryz.pinned (OpenSpec.ofChange diffLeadsWrong)

/-- 'vouchlaw24.DiffBack': WHATEVER THE INPUT: true; the input reads as it did. -/
def diffBackSpec : ChangeSpec := { name := "diffBack", fn := fun _ => fun
  | [d1, d2] => { results := [.lit (.bool true)], args := [d1, d2] }
  | _ => none }
def diffBackRow : OpenClaim := { program := "ytlllcafedekojaagreatdoor", sum := "1a7945e35865c2e50313e526a9199641b103f4f0f3b9c60c059725ac76c5231a", func := "vouch/vouchlaw24.DiffBack", spec := "diffBack", inPlace := ["internal/bytealg.Compare", "math/bits.Sub64", "math/bits.Add64"], unfollowed := true, recurses := true, named := ["internal/strconv.uint64pow10", "math/bits.deBruijn32tab", "math/bits.deBruijn64tab"], plainKeys := false, apart := false, laid := [("math/bits.deBruijn32tab", laid_math_bits_deBruijn32tab), ("math/bits.deBruijn64tab", laid_math_bits_deBruijn64tab), ("internal/strconv.uint64pow10", laid_internal_strconv_uint64pow10)] }
def DiffBackSaid : Prop := diffBackRow.holds Tryz.pinned (OpenSpec.ofChange diffBackSpec)

/-- ITS FALSE NEIGHBOUR: 'it returns false'. Refute it at one input. -/
def diffBackWrong : ChangeSpec := { name := "diffBack", fn := fun _ => fun
  | [d1, d2] => { results := [.lit (.bool false)], args := [d1, d2] }
  | _ => none }
def DiffBackWrongFalsely : Prop := diffBackRow.holds Tryz.pinned (OpenSpec.ofChange diffBackWrong)

/-- 'vouchlaw24.DiffThree': WHATEVER THE INPUT: true; the input reads as it did. -/
def diffThreeSpec : ChangeSpec := { name := "diffThree", fn := fun _ => fun
  | [d1, d2, d3] => { results := [.lit (.bool true)], args := [d1, d2, d3] }
  | _ => none }
def diffThreeRow : OpenClaim := { program := "ytlllcafedekojaagreatdoor", sum := "1a7945e35865c2e50313e526a9199641b103f4f0f3b9c60c059725ac76c5231a", func := "vouch/vouchlaw24.DiffThree", spec := "diffThree", inPlace := ["internal/bytealg.Compare", "math/bits.Sub64", "math/bits.Add64"], unfollowed := true, recurses := true, named := ["internal/strconv.uint64pow10", "math/bits.deBruijn32tab", "math/bits.deBruijn64tab"], plainKeys := false, apart := false, laid := [("math/bits.deBruijn32tab", laid_math_bits_deBruijn32tab), ("math/bits.deBruijn64tab", laid_math_bits_deBruijn64tab), ("internal/strconv.uint64pow10", laid_internal_strconv_uint64pow10)] }
def DiffThreeSaid : Prop := diffThreeRow.holds Tryz.pinned (OpenSpec.ofChange diffThreeSpec)

/-- ITS FALSE NEIGHBOUR: 'it returns false'. Refute it at one input. -/
def diffThreeWrong : ChangeSpec := { name := "diffThree", fn := fun _ => fun
  | [d1, d2, d3] => { results := [.lit (.bool false)], args := [d1, d2, d3] }
  | _ => none }
def DiffThreeWrongFalsely : Prop := diffThreeRow.holds Tryz.pinned (OpenSpec.ofChange diffThreeWrong)

/-- 'vouchlaw24.DiffSteps': WHATEVER THE INPUT: true; the input reads as it did. -/
def diffStepsSpec : ChangeSpec := { name := "diffSteps", fn := fun _ => fun
  | [d1, d2, d3] => { results := [.lit (.bool true)], args := [d1, d2, d3] }
  | _ => none }
def diffStepsRow : OpenClaim := { program := "ytlllcafedekojaagreatdoor", sum := "1a7945e35865c2e50313e526a9199641b103f4f0f3b9c60c059725ac76c5231a", func := "vouch/vouchlaw24.DiffSteps", spec := "diffSteps", inPlace := ["internal/bytealg.Compare", "math/bits.Sub64", "math/bits.Add64"], unfollowed := true, recurses := true, named := ["internal/strconv.uint64pow10", "math/bits.deBruijn32tab", "math/bits.deBruijn64tab"], plainKeys := false, apart := false, laid := [("math/bits.deBruijn32tab", laid_math_bits_deBruijn32tab), ("math/bits.deBruijn64tab", laid_math_bits_deBruijn64tab), ("internal/strconv.uint64pow10", laid_internal_strconv_uint64pow10)] }
def DiffStepsSaid : Prop := diffStepsRow.holds Tryz.pinned (OpenSpec.ofChange diffStepsSpec)

/-- ITS FALSE NEIGHBOUR: 'it returns false'. Refute it at one input. -/
def diffStepsWrong : ChangeSpec := { name := "diffSteps", fn := fun _ => fun
  | [d1, d2, d3] => { results := [.lit (.bool false)], args := [d1, d2, d3] }
  | _ => none }
def DiffStepsWrongFalsely : Prop := diffStepsRow.holds Tryz.pinned (OpenSpec.ofChange diffStepsWrong)

/-- 'vouchlaw24.DiffGroups': WHATEVER THE INPUT: true; the input reads as it did. -/
def diffGroupsSpec : ChangeSpec := { name := "diffGroups", fn := fun _ => fun
  | [d1, d2, d3] => { results := [.lit (.bool true)], args := [d1, d2, d3] }
  | _ => none }
def diffGroupsRow : OpenClaim := { program := "ytlllcafedekojaagreatdoor", sum := "1a7945e35865c2e50313e526a9199641b103f4f0f3b9c60c059725ac76c5231a", func := "vouch/vouchlaw24.DiffGroups", spec := "diffGroups", inPlace := ["internal/bytealg.Compare", "math/bits.Sub64", "math/bits.Add64"], unfollowed := true, recurses := true, named := ["internal/strconv.uint64pow10", "math/bits.deBruijn32tab", "math/bits.deBruijn64tab"], plainKeys := false, apart := false, laid := [("math/bits.deBruijn32tab", laid_math_bits_deBruijn32tab), ("math/bits.deBruijn64tab", laid_math_bits_deBruijn64tab), ("internal/strconv.uint64pow10", laid_internal_strconv_uint64pow10)] }
def DiffGroupsSaid : Prop := diffGroupsRow.holds Tryz.pinned (OpenSpec.ofChange diffGroupsSpec)

/-- ITS FALSE NEIGHBOUR: 'it returns false'. Refute it at one input. -/
def diffGroupsWrong : ChangeSpec := { name := "diffGroups", fn := fun _ => fun
  | [d1, d2, d3] => { results := [.lit (.bool false)], args := [d1, d2, d3] }
  | _ => none }
def DiffGroupsWrongFalsely : Prop := diffGroupsRow.holds Tryz.pinned (OpenSpec.ofChange diffGroupsWrong)

/-- 'vouchlaw24.DiffApart': WHATEVER THE INPUT: true; the input reads as it did. -/
def diffApartSpec : ChangeSpec := { name := "diffApart", fn := fun _ => fun
  | [d1, d2] => { results := [.lit (.bool true)], args := [d1, d2] }
  | _ => none }
def diffApartRow : OpenClaim := { program := "ytlllcafedekojaagreatdoor", sum := "1a7945e35865c2e50313e526a9199641b103f4f0f3b9c60c059725ac76c5231a", func := "vouch/vouchlaw24.DiffApart", spec := "diffApart", inPlace := ["internal/bytealg.Compare", "math/bits.Sub64", "math/bits.Add64"], unfollowed := true, recurses := true, named := ["internal/strconv.uint64pow10", "math/bits.deBruijn32tab", "math/bits.deBruijn64tab"], plainKeys := false, apart := false, laid := [("math/bits.deBruijn32tab", laid_math_bits_deBruijn32tab), ("math/bits.deBruijn64tab", laid_math_bits_deBruijn64tab), ("internal/strconv.uint64pow10", laid_internal_strconv_uint64pow10)] }
def DiffApartSaid : Prop := diffApartRow.holds Tryz.pinned (OpenSpec.ofChange diffApartSpec)

/-- ITS FALSE NEIGHBOUR: 'it returns false'. Refute it at one input. -/
def diffApartWrong : ChangeSpec := { name := "diffApart", fn := fun _ => fun
  | [d1, d2] => { results := [.lit (.bool false)], args := [d1, d2] }
  | _ => none }
def DiffApartWrongFalsely : Prop := diffApartRow.holds Tryz.pinned (OpenSpec.ofChange diffApartWrong)

/-- 'vouchlaw24.DiffFresh': WHATEVER THE INPUT: true; the input reads as it did. -/
def diffFreshSpec : ChangeSpec := { name := "diffFresh", fn := fun _ => fun
  | [d1, d2, d3] => { results := [.lit (.bool true)], args := [d1, d2, d3] }
  | _ => none }
def diffFreshRow : OpenClaim := { program := "ytlllcafedekojaagreatdoor", sum := "1a7945e35865c2e50313e526a9199641b103f4f0f3b9c60c059725ac76c5231a", func := "vouch/vouchlaw24.DiffFresh", spec := "diffFresh", inPlace := ["internal/bytealg.Compare", "math/bits.Sub64", "math/bits.Add64"], unfollowed := true, recurses := true, named := ["internal/strconv.uint64pow10", "math/bits.deBruijn32tab", "math/bits.deBruijn64tab"], plainKeys := false, apart := false, laid := [("math/bits.deBruijn32tab", laid_math_bits_deBruijn32tab), ("math/bits.deBruijn64tab", laid_math_bits_deBruijn64tab), ("internal/strconv.uint64pow10", laid_internal_strconv_uint64pow10)] }
def DiffFreshSaid : Prop := diffFreshRow.holds Tryz.pinned (OpenSpec.ofChange diffFreshSpec)

/-- ITS FALSE NEIGHBOUR: 'it returns false'. Refute it at one input. -/
def diffFreshWrong : ChangeSpec := { name := "diffFresh", fn := fun _ => fun
  | [d1, d2, d3] => { results := [.lit (.bool false)], args := [d1, d2, d3] }
  | _ => none }
def DiffFreshWrongFalsely : Prop := diffFreshRow.holds Tryz.pinned (OpenSpec.ofChange diffFreshWrong)

/-- 'vouchlaw24.DiffPlace': WHATEVER THE INPUT: true; the input reads as it did. -/
def diffPlaceSpec : ChangeSpec := { name := "diffPlace", fn := fun _ => fun
  | [d1, d2, d3] => { results := [.lit (.bool true)], args := [d1, d2, d3] }
  | _ => none }
def diffPlaceRow : OpenClaim := { program := "ytlllcafedekojaagreatdoor", sum := "1a7945e35865c2e50313e526a9199641b103f4f0f3b9c60c059725ac76c5231a", func := "vouch/vouchlaw24.DiffPlace", spec := "diffPlace", inPlace := ["internal/bytealg.Compare", "math/bits.Sub64", "math/bits.Add64"], unfollowed := true, recurses := true, named := ["internal/strconv.uint64pow10", "math/bits.deBruijn32tab", "math/bits.deBruijn64tab"], plainKeys := false, apart := false, laid := [("math/bits.deBruijn32tab", laid_math_bits_deBruijn32tab), ("math/bits.deBruijn64tab", laid_math_bits_deBruijn64tab), ("internal/strconv.uint64pow10", laid_internal_strconv_uint64pow10)] }
def DiffPlaceSaid : Prop := diffPlaceRow.holds Tryz.pinned (OpenSpec.ofChange diffPlaceSpec)

/-- ITS FALSE NEIGHBOUR: 'it returns false'. Refute it at one input. -/
def diffPlaceWrong : ChangeSpec := { name := "diffPlace", fn := fun _ => fun
  | [d1, d2, d3] => { results := [.lit (.bool false)], args := [d1, d2, d3] }
  | _ => none }
def DiffPlaceWrongFalsely : Prop := diffPlaceRow.holds Tryz.pinned (OpenSpec.ofChange diffPlaceWrong)

/- THE SECOND FORM. 'bulk': how many values and letters a reading holds, each counted each time it is reached (what is shared counts as often as it is met; a slice's spare places count too). A statement '..UptoSaid' is the law's where the arguments, and the package variables that the reading takes, are together of bulk at most 1048576: NARROWER than '..Said'. Prove '..Said' where nothing that the law and all that it calls make is longer than what came in: it says more and counts as full. Else prove '..UptoSaid'. A law counts once. -/
mutual
def uptoBulk {H : Type} : DataW H → Nat
  | .lit (.string bytes) => bytes.length + 1
  | .lit _ => 1
  | .nil => 1
  | .ptr d => uptoBulk d + 1
  | .slice elems spare => uptoBulkAll elems + uptoBulkAll spare + 1
  | .agg parts => uptoBulkAll parts + 1
  | .iface _ d => uptoBulk d + 1
  | .map entries => uptoBulkEntries entries + 1
  | .held _ => 1
def uptoBulkAll {H : Type} : List (DataW H) → Nat
  | [] => 0
  | d :: r => uptoBulk d + uptoBulkAll r
def uptoBulkEntries {H : Type} : List (Lit × DataW H) → Nat
  | [] => 0
  | x :: r => uptoBulkEntry x + uptoBulkEntries r
def uptoBulkEntry {H : Type} : Lit × DataW H → Nat
  | (.string bytes, d) => bytes.length + uptoBulk d + 1
  | (_, d) => uptoBulk d + 1
 end
def uptoSmall : (H : Type) → List (DataW H) → Bool := fun _ ds => decide (uptoBulkAll ds ≤ 1048576)
def OpenSpec.upto (s : _root_.Go.ChangeSpec) : _root_.Go.OpenSpec := { _root_.Go.OpenSpec.ofChange s with cond := some uptoSmall }

/-- 'vouchlaw24.DiffFinds', WHERE WHAT IT READS IS OF BULK AT MOST 1048576: true; the input reads as it did. -/
def diffFindsUptoRow : OpenClaim := { program := "ytlllcafedekojaagreatdoor", sum := "1a7945e35865c2e50313e526a9199641b103f4f0f3b9c60c059725ac76c5231a", func := "vouch/vouchlaw24.DiffFinds", spec := "diffFinds", inPlace := ["internal/bytealg.Compare", "math/bits.Sub64", "math/bits.Add64"], unfollowed := true, recurses := true, named := ["internal/strconv.uint64pow10", "math/bits.deBruijn32tab", "math/bits.deBruijn64tab"], plainKeys := false, apart := false, laid := [("math/bits.deBruijn32tab", laid_math_bits_deBruijn32tab), ("math/bits.deBruijn64tab", laid_math_bits_deBruijn64tab), ("internal/strconv.uint64pow10", laid_internal_strconv_uint64pow10)], narrowed := true }
def DiffFindsUptoSaid : Prop := diffFindsUptoRow.holds Tryz.pinned (OpenSpec.upto diffFindsSpec)

/-- 'vouchlaw24.DiffMakes', WHERE WHAT IT READS IS OF BULK AT MOST 1048576: true; the input reads as it did. -/
def diffMakesUptoRow : OpenClaim := { program := "ytlllcafedekojaagreatdoor", sum := "1a7945e35865c2e50313e526a9199641b103f4f0f3b9c60c059725ac76c5231a", func := "vouch/vouchlaw24.DiffMakes", spec := "diffMakes", inPlace := ["internal/bytealg.Compare", "math/bits.Sub64", "math/bits.Add64"], unfollowed := true, recurses := true, named := ["internal/strconv.uint64pow10", "math/bits.deBruijn32tab", "math/bits.deBruijn64tab"], plainKeys := false, apart := false, laid := [("math/bits.deBruijn32tab", laid_math_bits_deBruijn32tab), ("math/bits.deBruijn64tab", laid_math_bits_deBruijn64tab), ("internal/strconv.uint64pow10", laid_internal_strconv_uint64pow10)], narrowed := true }
def DiffMakesUptoSaid : Prop := diffMakesUptoRow.holds Tryz.pinned (OpenSpec.upto diffMakesSpec)

/-- 'vouchlaw24.DiffTurns', WHERE WHAT IT READS IS OF BULK AT MOST 1048576: true; the input reads as it did. -/
def diffTurnsUptoRow : OpenClaim := { program := "ytlllcafedekojaagreatdoor", sum := "1a7945e35865c2e50313e526a9199641b103f4f0f3b9c60c059725ac76c5231a", func := "vouch/vouchlaw24.DiffTurns", spec := "diffTurns", inPlace := ["internal/bytealg.Compare", "math/bits.Sub64", "math/bits.Add64"], unfollowed := true, recurses := true, named := ["internal/strconv.uint64pow10", "math/bits.deBruijn32tab", "math/bits.deBruijn64tab"], plainKeys := false, apart := false, laid := [("math/bits.deBruijn32tab", laid_math_bits_deBruijn32tab), ("math/bits.deBruijn64tab", laid_math_bits_deBruijn64tab), ("internal/strconv.uint64pow10", laid_internal_strconv_uint64pow10)], narrowed := true }
def DiffTurnsUptoSaid : Prop := diffTurnsUptoRow.holds Tryz.pinned (OpenSpec.upto diffTurnsSpec)

/-- 'vouchlaw24.DiffJoins', WHERE WHAT IT READS IS OF BULK AT MOST 1048576: true; the input reads as it did. -/
def diffJoinsUptoRow : OpenClaim := { program := "ytlllcafedekojaagreatdoor", sum := "1a7945e35865c2e50313e526a9199641b103f4f0f3b9c60c059725ac76c5231a", func := "vouch/vouchlaw24.DiffJoins", spec := "diffJoins", inPlace := ["internal/bytealg.Compare", "math/bits.Sub64", "math/bits.Add64"], unfollowed := true, recurses := true, named := ["internal/strconv.uint64pow10", "math/bits.deBruijn32tab", "math/bits.deBruijn64tab"], plainKeys := false, apart := false, laid := [("math/bits.deBruijn32tab", laid_math_bits_deBruijn32tab), ("math/bits.deBruijn64tab", laid_math_bits_deBruijn64tab), ("internal/strconv.uint64pow10", laid_internal_strconv_uint64pow10)], narrowed := true }
def DiffJoinsUptoSaid : Prop := diffJoinsUptoRow.holds Tryz.pinned (OpenSpec.upto diffJoinsSpec)

/-- 'vouchlaw24.DiffLeads', WHERE WHAT IT READS IS OF BULK AT MOST 1048576: true; the input reads as it did. -/
def diffLeadsUptoRow : OpenClaim := { program := "ytlllcafedekojaagreatdoor", sum := "1a7945e35865c2e50313e526a9199641b103f4f0f3b9c60c059725ac76c5231a", func := "vouch/vouchlaw24.DiffLeads", spec := "diffLeads", inPlace := ["internal/bytealg.Compare", "math/bits.Sub64", "math/bits.Add64"], unfollowed := true, recurses := true, named := ["internal/strconv.uint64pow10", "math/bits.deBruijn32tab", "math/bits.deBruijn64tab"], plainKeys := false, apart := false, laid := [("math/bits.deBruijn32tab", laid_math_bits_deBruijn32tab), ("math/bits.deBruijn64tab", laid_math_bits_deBruijn64tab), ("internal/strconv.uint64pow10", laid_internal_strconv_uint64pow10)], narrowed := true }
def DiffLeadsUptoSaid : Prop := diffLeadsUptoRow.holds Tryz.pinned (OpenSpec.upto diffLeadsSpec)

/-- 'vouchlaw24.DiffBack', WHERE WHAT IT READS IS OF BULK AT MOST 1048576: true; the input reads as it did. -/
def diffBackUptoRow : OpenClaim := { program := "ytlllcafedekojaagreatdoor", sum := "1a7945e35865c2e50313e526a9199641b103f4f0f3b9c60c059725ac76c5231a", func := "vouch/vouchlaw24.DiffBack", spec := "diffBack", inPlace := ["internal/bytealg.Compare", "math/bits.Sub64", "math/bits.Add64"], unfollowed := true, recurses := true, named := ["internal/strconv.uint64pow10", "math/bits.deBruijn32tab", "math/bits.deBruijn64tab"], plainKeys := false, apart := false, laid := [("math/bits.deBruijn32tab", laid_math_bits_deBruijn32tab), ("math/bits.deBruijn64tab", laid_math_bits_deBruijn64tab), ("internal/strconv.uint64pow10", laid_internal_strconv_uint64pow10)], narrowed := true }
def DiffBackUptoSaid : Prop := diffBackUptoRow.holds Tryz.pinned (OpenSpec.upto diffBackSpec)

/-- 'vouchlaw24.DiffThree', WHERE WHAT IT READS IS OF BULK AT MOST 1048576: true; the input reads as it did. -/
def diffThreeUptoRow : OpenClaim := { program := "ytlllcafedekojaagreatdoor", sum := "1a7945e35865c2e50313e526a9199641b103f4f0f3b9c60c059725ac76c5231a", func := "vouch/vouchlaw24.DiffThree", spec := "diffThree", inPlace := ["internal/bytealg.Compare", "math/bits.Sub64", "math/bits.Add64"], unfollowed := true, recurses := true, named := ["internal/strconv.uint64pow10", "math/bits.deBruijn32tab", "math/bits.deBruijn64tab"], plainKeys := false, apart := false, laid := [("math/bits.deBruijn32tab", laid_math_bits_deBruijn32tab), ("math/bits.deBruijn64tab", laid_math_bits_deBruijn64tab), ("internal/strconv.uint64pow10", laid_internal_strconv_uint64pow10)], narrowed := true }
def DiffThreeUptoSaid : Prop := diffThreeUptoRow.holds Tryz.pinned (OpenSpec.upto diffThreeSpec)

/-- 'vouchlaw24.DiffSteps', WHERE WHAT IT READS IS OF BULK AT MOST 1048576: true; the input reads as it did. -/
def diffStepsUptoRow : OpenClaim := { program := "ytlllcafedekojaagreatdoor", sum := "1a7945e35865c2e50313e526a9199641b103f4f0f3b9c60c059725ac76c5231a", func := "vouch/vouchlaw24.DiffSteps", spec := "diffSteps", inPlace := ["internal/bytealg.Compare", "math/bits.Sub64", "math/bits.Add64"], unfollowed := true, recurses := true, named := ["internal/strconv.uint64pow10", "math/bits.deBruijn32tab", "math/bits.deBruijn64tab"], plainKeys := false, apart := false, laid := [("math/bits.deBruijn32tab", laid_math_bits_deBruijn32tab), ("math/bits.deBruijn64tab", laid_math_bits_deBruijn64tab), ("internal/strconv.uint64pow10", laid_internal_strconv_uint64pow10)], narrowed := true }
def DiffStepsUptoSaid : Prop := diffStepsUptoRow.holds Tryz.pinned (OpenSpec.upto diffStepsSpec)

/-- 'vouchlaw24.DiffGroups', WHERE WHAT IT READS IS OF BULK AT MOST 1048576: true; the input reads as it did. -/
def diffGroupsUptoRow : OpenClaim := { program := "ytlllcafedekojaagreatdoor", sum := "1a7945e35865c2e50313e526a9199641b103f4f0f3b9c60c059725ac76c5231a", func := "vouch/vouchlaw24.DiffGroups", spec := "diffGroups", inPlace := ["internal/bytealg.Compare", "math/bits.Sub64", "math/bits.Add64"], unfollowed := true, recurses := true, named := ["internal/strconv.uint64pow10", "math/bits.deBruijn32tab", "math/bits.deBruijn64tab"], plainKeys := false, apart := false, laid := [("math/bits.deBruijn32tab", laid_math_bits_deBruijn32tab), ("math/bits.deBruijn64tab", laid_math_bits_deBruijn64tab), ("internal/strconv.uint64pow10", laid_internal_strconv_uint64pow10)], narrowed := true }
def DiffGroupsUptoSaid : Prop := diffGroupsUptoRow.holds Tryz.pinned (OpenSpec.upto diffGroupsSpec)

/-- 'vouchlaw24.DiffApart', WHERE WHAT IT READS IS OF BULK AT MOST 1048576: true; the input reads as it did. -/
def diffApartUptoRow : OpenClaim := { program := "ytlllcafedekojaagreatdoor", sum := "1a7945e35865c2e50313e526a9199641b103f4f0f3b9c60c059725ac76c5231a", func := "vouch/vouchlaw24.DiffApart", spec := "diffApart", inPlace := ["internal/bytealg.Compare", "math/bits.Sub64", "math/bits.Add64"], unfollowed := true, recurses := true, named := ["internal/strconv.uint64pow10", "math/bits.deBruijn32tab", "math/bits.deBruijn64tab"], plainKeys := false, apart := false, laid := [("math/bits.deBruijn32tab", laid_math_bits_deBruijn32tab), ("math/bits.deBruijn64tab", laid_math_bits_deBruijn64tab), ("internal/strconv.uint64pow10", laid_internal_strconv_uint64pow10)], narrowed := true }
def DiffApartUptoSaid : Prop := diffApartUptoRow.holds Tryz.pinned (OpenSpec.upto diffApartSpec)

/-- 'vouchlaw24.DiffFresh', WHERE WHAT IT READS IS OF BULK AT MOST 1048576: true; the input reads as it did. -/
def diffFreshUptoRow : OpenClaim := { program := "ytlllcafedekojaagreatdoor", sum := "1a7945e35865c2e50313e526a9199641b103f4f0f3b9c60c059725ac76c5231a", func := "vouch/vouchlaw24.DiffFresh", spec := "diffFresh", inPlace := ["internal/bytealg.Compare", "math/bits.Sub64", "math/bits.Add64"], unfollowed := true, recurses := true, named := ["internal/strconv.uint64pow10", "math/bits.deBruijn32tab", "math/bits.deBruijn64tab"], plainKeys := false, apart := false, laid := [("math/bits.deBruijn32tab", laid_math_bits_deBruijn32tab), ("math/bits.deBruijn64tab", laid_math_bits_deBruijn64tab), ("internal/strconv.uint64pow10", laid_internal_strconv_uint64pow10)], narrowed := true }
def DiffFreshUptoSaid : Prop := diffFreshUptoRow.holds Tryz.pinned (OpenSpec.upto diffFreshSpec)

/-- 'vouchlaw24.DiffPlace', WHERE WHAT IT READS IS OF BULK AT MOST 1048576: true; the input reads as it did. -/
def diffPlaceUptoRow : OpenClaim := { program := "ytlllcafedekojaagreatdoor", sum := "1a7945e35865c2e50313e526a9199641b103f4f0f3b9c60c059725ac76c5231a", func := "vouch/vouchlaw24.DiffPlace", spec := "diffPlace", inPlace := ["internal/bytealg.Compare", "math/bits.Sub64", "math/bits.Add64"], unfollowed := true, recurses := true, named := ["internal/strconv.uint64pow10", "math/bits.deBruijn32tab", "math/bits.deBruijn64tab"], plainKeys := false, apart := false, laid := [("math/bits.deBruijn32tab", laid_math_bits_deBruijn32tab), ("math/bits.deBruijn64tab", laid_math_bits_deBruijn64tab), ("internal/strconv.uint64pow10", laid_internal_strconv_uint64pow10)], narrowed := true }
def DiffPlaceUptoSaid : Prop := diffPlaceUptoRow.holds Tryz.pinned (OpenSpec.upto diffPlaceSpec)

end Rows
end Go.Proofs.YtlllcafedekojaaGreatDoor
