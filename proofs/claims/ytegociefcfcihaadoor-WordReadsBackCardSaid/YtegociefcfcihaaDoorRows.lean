/-
  NARROWER THAN 'FOR EVERY INPUT', by the rows' own cells (each row's printed sentence says how): WordReckons: laid · WordSigns: laid · WordModulos: laid · WordExps: laid · WordRing: laid · WordDivides: laid · WordSignedDivides: laid · WordResidues: laid · WordPowers: laid · WordShifts: laid · WordExtends: laid · WordBits: laid · WordCompares: laid · WordOrders: laid · WordSums: laid · WordPlainSums: laid · WordBytes: laid · WordForms: laid · WordTexts: laid · WordReadsBack: laid.
  DERIVED. THE GIVEN ROWS OF THIS SEAT. 20 by the template 'for every input the law returns true; each argument reads behind the call as it read before'; 0 by the template 'total and deterministic' (their statements: YtegociefcfcihaaDoorTotals.lean).
  GIVEN WITH THE SEED: the statements are not yours to turn. If you find one false, say at which input.
  Laid BY PROGRAM, IN A SANDBOX (cutbox-rows.mjs): the forced cells as the released guide's own fill.sh prints them over the translation febd9cbf44babaa5… (all of the seat's roots in one cut). By AI agents, Wed Nov 11 2026. No macro, syntax, notation, axiom, sorry.
-/
import Derived.Test.YtegociefcfcihaaDoorChecked
import GoSem.Claim
import GoSem.ClaimJoined
import GoSem.ClaimMapViews
import Derived.JoinedTies
import Derived.KernelRfl
namespace Go.Proofs.YtegociefcfcihaaDoor
/- THE CELL 'sum', in the pinned program and in every row, IS THE sha256 OF THE DUMP (.gsa) THAT YtegociefcfcihaaDoorProg.lean LOADS. Nothing in Lean hashes anything: it is a label: what it is worth is what the hold of that sum in a sandbox is worth. -/
noncomputable def Tryd.pinned : Pinned := { name := "ytegociefcfcihaadoor", sum := "febd9cbf44babaa5826dc8d3ea548586d41932f1f34a727c54d592859b4eb971", checked := Tryd.checked }
namespace Rows
def none {H : Type} : Left H := { results := [], args := [] }

/- WHAT THE LISTED PACKAGE-LEVEL VARIABLES READ AS WHEN THE CALL BEGINS. Each datum BY PROGRAM (the guide's laid-datum.mjs) off the statement by which the dump's own 'gosem.cut.vars' lays the variable. In a bare row this is a premise. The card (YtegociefcfcihaaDoorCards.lean) ties it to the program's text. -/
def laid_math_bits_deBruijn32tab {H : Type} : DataW H := .agg [.lit (.int .u8 0), .lit (.int .u8 1), .lit (.int .u8 28), .lit (.int .u8 2), .lit (.int .u8 29), .lit (.int .u8 14), .lit (.int .u8 24), .lit (.int .u8 3), .lit (.int .u8 30), .lit (.int .u8 22), .lit (.int .u8 20), .lit (.int .u8 15), .lit (.int .u8 25), .lit (.int .u8 17), .lit (.int .u8 4), .lit (.int .u8 8), .lit (.int .u8 31), .lit (.int .u8 27), .lit (.int .u8 13), .lit (.int .u8 23), .lit (.int .u8 21), .lit (.int .u8 19), .lit (.int .u8 16), .lit (.int .u8 7), .lit (.int .u8 26), .lit (.int .u8 12), .lit (.int .u8 18), .lit (.int .u8 6), .lit (.int .u8 11), .lit (.int .u8 5), .lit (.int .u8 10), .lit (.int .u8 9)]
def laid_math_bits_deBruijn64tab {H : Type} : DataW H := .agg [.lit (.int .u8 0), .lit (.int .u8 1), .lit (.int .u8 56), .lit (.int .u8 2), .lit (.int .u8 57), .lit (.int .u8 49), .lit (.int .u8 28), .lit (.int .u8 3), .lit (.int .u8 61), .lit (.int .u8 58), .lit (.int .u8 42), .lit (.int .u8 50), .lit (.int .u8 38), .lit (.int .u8 29), .lit (.int .u8 17), .lit (.int .u8 4), .lit (.int .u8 62), .lit (.int .u8 47), .lit (.int .u8 59), .lit (.int .u8 36), .lit (.int .u8 45), .lit (.int .u8 43), .lit (.int .u8 51), .lit (.int .u8 22), .lit (.int .u8 53), .lit (.int .u8 39), .lit (.int .u8 33), .lit (.int .u8 30), .lit (.int .u8 24), .lit (.int .u8 18), .lit (.int .u8 12), .lit (.int .u8 5), .lit (.int .u8 63), .lit (.int .u8 55), .lit (.int .u8 48), .lit (.int .u8 27), .lit (.int .u8 60), .lit (.int .u8 41), .lit (.int .u8 37), .lit (.int .u8 16), .lit (.int .u8 46), .lit (.int .u8 35), .lit (.int .u8 44), .lit (.int .u8 21), .lit (.int .u8 52), .lit (.int .u8 32), .lit (.int .u8 23), .lit (.int .u8 11), .lit (.int .u8 54), .lit (.int .u8 26), .lit (.int .u8 40), .lit (.int .u8 15), .lit (.int .u8 34), .lit (.int .u8 20), .lit (.int .u8 31), .lit (.int .u8 10), .lit (.int .u8 25), .lit (.int .u8 14), .lit (.int .u8 19), .lit (.int .u8 9), .lit (.int .u8 13), .lit (.int .u8 8), .lit (.int .u8 7), .lit (.int .u8 6)]
def laid_internal_strconv_uint64pow10 {H : Type} : DataW H := .agg [.lit (.int .u64 1), .lit (.int .u64 10), .lit (.int .u64 100), .lit (.int .u64 1000), .lit (.int .u64 10000), .lit (.int .u64 100000), .lit (.int .u64 1000000), .lit (.int .u64 10000000), .lit (.int .u64 100000000), .lit (.int .u64 1000000000), .lit (.int .u64 10000000000), .lit (.int .u64 100000000000), .lit (.int .u64 1000000000000), .lit (.int .u64 10000000000000), .lit (.int .u64 100000000000000), .lit (.int .u64 1000000000000000), .lit (.int .u64 10000000000000000), .lit (.int .u64 100000000000000000), .lit (.int .u64 1000000000000000000), .lit (.int .u64 10000000000000000000)]

/-- 'vouchlaw1.WordReckons': WHATEVER THE INPUT: true; the input reads as it did. -/
def wordReckonsSpec : ChangeSpec := { name := "wordReckons", fn := fun _ => fun
  | [d1, d2] => { results := [.lit (.bool true)], args := [d1, d2] }
  | _ => none }
def wordReckonsRow : OpenClaim := { program := "ytegociefcfcihaadoor", sum := "febd9cbf44babaa5826dc8d3ea548586d41932f1f34a727c54d592859b4eb971", func := "vouch/vouchlaw1.WordReckons", spec := "wordReckons", inPlace := ["math/bits.Add64", "math/bits.Sub64"], unfollowed := true, recurses := true, named := ["internal/strconv.uint64pow10", "math/bits.deBruijn32tab", "math/bits.deBruijn64tab"], apart := false, laid := [("math/bits.deBruijn32tab", laid_math_bits_deBruijn32tab), ("math/bits.deBruijn64tab", laid_math_bits_deBruijn64tab), ("internal/strconv.uint64pow10", laid_internal_strconv_uint64pow10)] }
def WordReckonsSaid : Prop := wordReckonsRow.holds Tryd.pinned (OpenSpec.ofChange wordReckonsSpec)

/-- ITS FALSE NEIGHBOUR: 'it returns false'. Refute it at one input. -/
def wordReckonsWrong : ChangeSpec := { name := "wordReckons", fn := fun _ => fun
  | [d1, d2] => { results := [.lit (.bool false)], args := [d1, d2] }
  | _ => none }
def WordReckonsWrongFalsely : Prop := wordReckonsRow.holds Tryd.pinned (OpenSpec.ofChange wordReckonsWrong)

/-- 'vouchlaw1.WordSigns': WHATEVER THE INPUT: true; the input reads as it did. -/
def wordSignsSpec : ChangeSpec := { name := "wordSigns", fn := fun _ => fun
  | [d1, d2] => { results := [.lit (.bool true)], args := [d1, d2] }
  | _ => none }
def wordSignsRow : OpenClaim := { program := "ytegociefcfcihaadoor", sum := "febd9cbf44babaa5826dc8d3ea548586d41932f1f34a727c54d592859b4eb971", func := "vouch/vouchlaw1.WordSigns", spec := "wordSigns", inPlace := ["math/bits.Sub64", "math/bits.Add64"], unfollowed := true, recurses := true, named := ["internal/strconv.uint64pow10", "math/bits.deBruijn32tab", "math/bits.deBruijn64tab"], apart := false, laid := [("math/bits.deBruijn32tab", laid_math_bits_deBruijn32tab), ("math/bits.deBruijn64tab", laid_math_bits_deBruijn64tab), ("internal/strconv.uint64pow10", laid_internal_strconv_uint64pow10)] }
def WordSignsSaid : Prop := wordSignsRow.holds Tryd.pinned (OpenSpec.ofChange wordSignsSpec)

/-- ITS FALSE NEIGHBOUR: 'it returns false'. Refute it at one input. -/
def wordSignsWrong : ChangeSpec := { name := "wordSigns", fn := fun _ => fun
  | [d1, d2] => { results := [.lit (.bool false)], args := [d1, d2] }
  | _ => none }
def WordSignsWrongFalsely : Prop := wordSignsRow.holds Tryd.pinned (OpenSpec.ofChange wordSignsWrong)

/-- 'vouchlaw1.WordModulos': WHATEVER THE INPUT: true; the input reads as it did. -/
def wordModulosSpec : ChangeSpec := { name := "wordModulos", fn := fun _ => fun
  | [d1, d2, d3] => { results := [.lit (.bool true)], args := [d1, d2, d3] }
  | _ => none }
def wordModulosRow : OpenClaim := { program := "ytegociefcfcihaadoor", sum := "febd9cbf44babaa5826dc8d3ea548586d41932f1f34a727c54d592859b4eb971", func := "vouch/vouchlaw1.WordModulos", spec := "wordModulos", inPlace := ["math/bits.Add64", "math/bits.Sub64"], unfollowed := true, recurses := true, named := ["internal/strconv.uint64pow10", "math/bits.deBruijn32tab", "math/bits.deBruijn64tab"], apart := false, laid := [("math/bits.deBruijn32tab", laid_math_bits_deBruijn32tab), ("math/bits.deBruijn64tab", laid_math_bits_deBruijn64tab), ("internal/strconv.uint64pow10", laid_internal_strconv_uint64pow10)] }
def WordModulosSaid : Prop := wordModulosRow.holds Tryd.pinned (OpenSpec.ofChange wordModulosSpec)

/-- ITS FALSE NEIGHBOUR: 'it returns false'. Refute it at one input. -/
def wordModulosWrong : ChangeSpec := { name := "wordModulos", fn := fun _ => fun
  | [d1, d2, d3] => { results := [.lit (.bool false)], args := [d1, d2, d3] }
  | _ => none }
def WordModulosWrongFalsely : Prop := wordModulosRow.holds Tryd.pinned (OpenSpec.ofChange wordModulosWrong)

/-- 'vouchlaw1.WordExps': WHATEVER THE INPUT: true; the input reads as it did. -/
def wordExpsSpec : ChangeSpec := { name := "wordExps", fn := fun _ => fun
  | [d1, d2] => { results := [.lit (.bool true)], args := [d1, d2] }
  | _ => none }
def wordExpsRow : OpenClaim := { program := "ytegociefcfcihaadoor", sum := "febd9cbf44babaa5826dc8d3ea548586d41932f1f34a727c54d592859b4eb971", func := "vouch/vouchlaw1.WordExps", spec := "wordExps", inPlace := ["math/bits.Add64", "math/bits.Sub64"], unfollowed := true, recurses := true, named := ["internal/strconv.uint64pow10", "math/bits.deBruijn32tab", "math/bits.deBruijn64tab"], apart := false, laid := [("math/bits.deBruijn32tab", laid_math_bits_deBruijn32tab), ("math/bits.deBruijn64tab", laid_math_bits_deBruijn64tab), ("internal/strconv.uint64pow10", laid_internal_strconv_uint64pow10)] }
def WordExpsSaid : Prop := wordExpsRow.holds Tryd.pinned (OpenSpec.ofChange wordExpsSpec)

/-- ITS FALSE NEIGHBOUR: 'it returns false'. Refute it at one input. -/
def wordExpsWrong : ChangeSpec := { name := "wordExps", fn := fun _ => fun
  | [d1, d2] => { results := [.lit (.bool false)], args := [d1, d2] }
  | _ => none }
def WordExpsWrongFalsely : Prop := wordExpsRow.holds Tryd.pinned (OpenSpec.ofChange wordExpsWrong)

/-- 'vouchlaw1.WordRing': WHATEVER THE INPUT: true; the input reads as it did. -/
def wordRingSpec : ChangeSpec := { name := "wordRing", fn := fun _ => fun
  | [d1, d2, d3] => { results := [.lit (.bool true)], args := [d1, d2, d3] }
  | _ => none }
def wordRingRow : OpenClaim := { program := "ytegociefcfcihaadoor", sum := "febd9cbf44babaa5826dc8d3ea548586d41932f1f34a727c54d592859b4eb971", func := "vouch/vouchlaw1.WordRing", spec := "wordRing", inPlace := ["math/bits.Add64", "math/bits.Sub64"], unfollowed := true, recurses := true, named := ["internal/strconv.uint64pow10", "math/bits.deBruijn32tab", "math/bits.deBruijn64tab"], apart := false, laid := [("math/bits.deBruijn32tab", laid_math_bits_deBruijn32tab), ("math/bits.deBruijn64tab", laid_math_bits_deBruijn64tab), ("internal/strconv.uint64pow10", laid_internal_strconv_uint64pow10)] }
def WordRingSaid : Prop := wordRingRow.holds Tryd.pinned (OpenSpec.ofChange wordRingSpec)

/-- ITS FALSE NEIGHBOUR: 'it returns false'. Refute it at one input. -/
def wordRingWrong : ChangeSpec := { name := "wordRing", fn := fun _ => fun
  | [d1, d2, d3] => { results := [.lit (.bool false)], args := [d1, d2, d3] }
  | _ => none }
def WordRingWrongFalsely : Prop := wordRingRow.holds Tryd.pinned (OpenSpec.ofChange wordRingWrong)

/-- 'vouchlaw1.WordDivides': WHATEVER THE INPUT: true; the input reads as it did. -/
def wordDividesSpec : ChangeSpec := { name := "wordDivides", fn := fun _ => fun
  | [d1, d2] => { results := [.lit (.bool true)], args := [d1, d2] }
  | _ => none }
def wordDividesRow : OpenClaim := { program := "ytegociefcfcihaadoor", sum := "febd9cbf44babaa5826dc8d3ea548586d41932f1f34a727c54d592859b4eb971", func := "vouch/vouchlaw1.WordDivides", spec := "wordDivides", inPlace := ["math/bits.Sub64", "math/bits.Add64"], unfollowed := true, recurses := true, named := ["internal/strconv.uint64pow10", "math/bits.deBruijn32tab", "math/bits.deBruijn64tab"], apart := false, laid := [("math/bits.deBruijn32tab", laid_math_bits_deBruijn32tab), ("math/bits.deBruijn64tab", laid_math_bits_deBruijn64tab), ("internal/strconv.uint64pow10", laid_internal_strconv_uint64pow10)] }
def WordDividesSaid : Prop := wordDividesRow.holds Tryd.pinned (OpenSpec.ofChange wordDividesSpec)

/-- ITS FALSE NEIGHBOUR: 'it returns false'. Refute it at one input. -/
def wordDividesWrong : ChangeSpec := { name := "wordDivides", fn := fun _ => fun
  | [d1, d2] => { results := [.lit (.bool false)], args := [d1, d2] }
  | _ => none }
def WordDividesWrongFalsely : Prop := wordDividesRow.holds Tryd.pinned (OpenSpec.ofChange wordDividesWrong)

/-- 'vouchlaw1.WordSignedDivides': WHATEVER THE INPUT: true; the input reads as it did. -/
def wordSignedDividesSpec : ChangeSpec := { name := "wordSignedDivides", fn := fun _ => fun
  | [d1, d2] => { results := [.lit (.bool true)], args := [d1, d2] }
  | _ => none }
def wordSignedDividesRow : OpenClaim := { program := "ytegociefcfcihaadoor", sum := "febd9cbf44babaa5826dc8d3ea548586d41932f1f34a727c54d592859b4eb971", func := "vouch/vouchlaw1.WordSignedDivides", spec := "wordSignedDivides", inPlace := ["math/bits.Sub64", "math/bits.Add64"], unfollowed := true, recurses := true, named := ["internal/strconv.uint64pow10", "math/bits.deBruijn32tab", "math/bits.deBruijn64tab"], apart := false, laid := [("math/bits.deBruijn32tab", laid_math_bits_deBruijn32tab), ("math/bits.deBruijn64tab", laid_math_bits_deBruijn64tab), ("internal/strconv.uint64pow10", laid_internal_strconv_uint64pow10)] }
def WordSignedDividesSaid : Prop := wordSignedDividesRow.holds Tryd.pinned (OpenSpec.ofChange wordSignedDividesSpec)

/-- ITS FALSE NEIGHBOUR: 'it returns false'. Refute it at one input. -/
def wordSignedDividesWrong : ChangeSpec := { name := "wordSignedDivides", fn := fun _ => fun
  | [d1, d2] => { results := [.lit (.bool false)], args := [d1, d2] }
  | _ => none }
def WordSignedDividesWrongFalsely : Prop := wordSignedDividesRow.holds Tryd.pinned (OpenSpec.ofChange wordSignedDividesWrong)

/-- 'vouchlaw1.WordResidues': WHATEVER THE INPUT: true; the input reads as it did. -/
def wordResiduesSpec : ChangeSpec := { name := "wordResidues", fn := fun _ => fun
  | [d1, d2, d3] => { results := [.lit (.bool true)], args := [d1, d2, d3] }
  | _ => none }
def wordResiduesRow : OpenClaim := { program := "ytegociefcfcihaadoor", sum := "febd9cbf44babaa5826dc8d3ea548586d41932f1f34a727c54d592859b4eb971", func := "vouch/vouchlaw1.WordResidues", spec := "wordResidues", inPlace := ["math/bits.Add64", "math/bits.Sub64"], unfollowed := true, recurses := true, named := ["internal/strconv.uint64pow10", "math/bits.deBruijn32tab", "math/bits.deBruijn64tab"], apart := false, laid := [("math/bits.deBruijn32tab", laid_math_bits_deBruijn32tab), ("math/bits.deBruijn64tab", laid_math_bits_deBruijn64tab), ("internal/strconv.uint64pow10", laid_internal_strconv_uint64pow10)] }
def WordResiduesSaid : Prop := wordResiduesRow.holds Tryd.pinned (OpenSpec.ofChange wordResiduesSpec)

/-- ITS FALSE NEIGHBOUR: 'it returns false'. Refute it at one input. -/
def wordResiduesWrong : ChangeSpec := { name := "wordResidues", fn := fun _ => fun
  | [d1, d2, d3] => { results := [.lit (.bool false)], args := [d1, d2, d3] }
  | _ => none }
def WordResiduesWrongFalsely : Prop := wordResiduesRow.holds Tryd.pinned (OpenSpec.ofChange wordResiduesWrong)

/-- 'vouchlaw1.WordPowers': WHATEVER THE INPUT: true; the input reads as it did. -/
def wordPowersSpec : ChangeSpec := { name := "wordPowers", fn := fun _ => fun
  | [d1, d2, d3] => { results := [.lit (.bool true)], args := [d1, d2, d3] }
  | _ => none }
def wordPowersRow : OpenClaim := { program := "ytegociefcfcihaadoor", sum := "febd9cbf44babaa5826dc8d3ea548586d41932f1f34a727c54d592859b4eb971", func := "vouch/vouchlaw1.WordPowers", spec := "wordPowers", inPlace := ["math/bits.Add64", "math/bits.Sub64"], unfollowed := true, recurses := true, named := ["internal/strconv.uint64pow10", "math/bits.deBruijn32tab", "math/bits.deBruijn64tab"], apart := false, laid := [("math/bits.deBruijn32tab", laid_math_bits_deBruijn32tab), ("math/bits.deBruijn64tab", laid_math_bits_deBruijn64tab), ("internal/strconv.uint64pow10", laid_internal_strconv_uint64pow10)] }
def WordPowersSaid : Prop := wordPowersRow.holds Tryd.pinned (OpenSpec.ofChange wordPowersSpec)

/-- ITS FALSE NEIGHBOUR: 'it returns false'. Refute it at one input. -/
def wordPowersWrong : ChangeSpec := { name := "wordPowers", fn := fun _ => fun
  | [d1, d2, d3] => { results := [.lit (.bool false)], args := [d1, d2, d3] }
  | _ => none }
def WordPowersWrongFalsely : Prop := wordPowersRow.holds Tryd.pinned (OpenSpec.ofChange wordPowersWrong)

/-- 'vouchlaw1.WordShifts': WHATEVER THE INPUT: true; the input reads as it did. -/
def wordShiftsSpec : ChangeSpec := { name := "wordShifts", fn := fun _ => fun
  | [d1, d2] => { results := [.lit (.bool true)], args := [d1, d2] }
  | _ => none }
def wordShiftsRow : OpenClaim := { program := "ytegociefcfcihaadoor", sum := "febd9cbf44babaa5826dc8d3ea548586d41932f1f34a727c54d592859b4eb971", func := "vouch/vouchlaw1.WordShifts", spec := "wordShifts", inPlace := ["math/bits.Add64", "math/bits.Sub64"], unfollowed := true, recurses := true, named := ["internal/strconv.uint64pow10", "math/bits.deBruijn32tab", "math/bits.deBruijn64tab"], apart := false, laid := [("math/bits.deBruijn32tab", laid_math_bits_deBruijn32tab), ("math/bits.deBruijn64tab", laid_math_bits_deBruijn64tab), ("internal/strconv.uint64pow10", laid_internal_strconv_uint64pow10)] }
def WordShiftsSaid : Prop := wordShiftsRow.holds Tryd.pinned (OpenSpec.ofChange wordShiftsSpec)

/-- ITS FALSE NEIGHBOUR: 'it returns false'. Refute it at one input. -/
def wordShiftsWrong : ChangeSpec := { name := "wordShifts", fn := fun _ => fun
  | [d1, d2] => { results := [.lit (.bool false)], args := [d1, d2] }
  | _ => none }
def WordShiftsWrongFalsely : Prop := wordShiftsRow.holds Tryd.pinned (OpenSpec.ofChange wordShiftsWrong)

/-- 'vouchlaw1.WordExtends': WHATEVER THE INPUT: true; the input reads as it did. -/
def wordExtendsSpec : ChangeSpec := { name := "wordExtends", fn := fun _ => fun
  | [d1, d2] => { results := [.lit (.bool true)], args := [d1, d2] }
  | _ => none }
def wordExtendsRow : OpenClaim := { program := "ytegociefcfcihaadoor", sum := "febd9cbf44babaa5826dc8d3ea548586d41932f1f34a727c54d592859b4eb971", func := "vouch/vouchlaw1.WordExtends", spec := "wordExtends", inPlace := ["math/bits.Sub64", "math/bits.Add64"], unfollowed := true, recurses := true, named := ["internal/strconv.uint64pow10", "math/bits.deBruijn32tab", "math/bits.deBruijn64tab"], apart := false, laid := [("math/bits.deBruijn32tab", laid_math_bits_deBruijn32tab), ("math/bits.deBruijn64tab", laid_math_bits_deBruijn64tab), ("internal/strconv.uint64pow10", laid_internal_strconv_uint64pow10)] }
def WordExtendsSaid : Prop := wordExtendsRow.holds Tryd.pinned (OpenSpec.ofChange wordExtendsSpec)

/-- ITS FALSE NEIGHBOUR: 'it returns false'. Refute it at one input. -/
def wordExtendsWrong : ChangeSpec := { name := "wordExtends", fn := fun _ => fun
  | [d1, d2] => { results := [.lit (.bool false)], args := [d1, d2] }
  | _ => none }
def WordExtendsWrongFalsely : Prop := wordExtendsRow.holds Tryd.pinned (OpenSpec.ofChange wordExtendsWrong)

/-- 'vouchlaw1.WordBits': WHATEVER THE INPUT: true; the input reads as it did. -/
def wordBitsSpec : ChangeSpec := { name := "wordBits", fn := fun _ => fun
  | [d1, d2] => { results := [.lit (.bool true)], args := [d1, d2] }
  | _ => none }
def wordBitsRow : OpenClaim := { program := "ytegociefcfcihaadoor", sum := "febd9cbf44babaa5826dc8d3ea548586d41932f1f34a727c54d592859b4eb971", func := "vouch/vouchlaw1.WordBits", spec := "wordBits", inPlace := ["math/bits.Sub64", "math/bits.Add64"], unfollowed := true, recurses := true, named := ["internal/strconv.uint64pow10", "math/bits.deBruijn32tab", "math/bits.deBruijn64tab"], apart := false, laid := [("math/bits.deBruijn32tab", laid_math_bits_deBruijn32tab), ("math/bits.deBruijn64tab", laid_math_bits_deBruijn64tab), ("internal/strconv.uint64pow10", laid_internal_strconv_uint64pow10)] }
def WordBitsSaid : Prop := wordBitsRow.holds Tryd.pinned (OpenSpec.ofChange wordBitsSpec)

/-- ITS FALSE NEIGHBOUR: 'it returns false'. Refute it at one input. -/
def wordBitsWrong : ChangeSpec := { name := "wordBits", fn := fun _ => fun
  | [d1, d2] => { results := [.lit (.bool false)], args := [d1, d2] }
  | _ => none }
def WordBitsWrongFalsely : Prop := wordBitsRow.holds Tryd.pinned (OpenSpec.ofChange wordBitsWrong)

/-- 'vouchlaw1.WordCompares': WHATEVER THE INPUT: true; the input reads as it did. -/
def wordComparesSpec : ChangeSpec := { name := "wordCompares", fn := fun _ => fun
  | [d1, d2] => { results := [.lit (.bool true)], args := [d1, d2] }
  | _ => none }
def wordComparesRow : OpenClaim := { program := "ytegociefcfcihaadoor", sum := "febd9cbf44babaa5826dc8d3ea548586d41932f1f34a727c54d592859b4eb971", func := "vouch/vouchlaw1.WordCompares", spec := "wordCompares", inPlace := ["math/bits.Sub64", "math/bits.Add64"], unfollowed := true, recurses := true, named := ["internal/strconv.uint64pow10", "math/bits.deBruijn32tab", "math/bits.deBruijn64tab"], apart := false, laid := [("math/bits.deBruijn32tab", laid_math_bits_deBruijn32tab), ("math/bits.deBruijn64tab", laid_math_bits_deBruijn64tab), ("internal/strconv.uint64pow10", laid_internal_strconv_uint64pow10)] }
def WordComparesSaid : Prop := wordComparesRow.holds Tryd.pinned (OpenSpec.ofChange wordComparesSpec)

/-- ITS FALSE NEIGHBOUR: 'it returns false'. Refute it at one input. -/
def wordComparesWrong : ChangeSpec := { name := "wordCompares", fn := fun _ => fun
  | [d1, d2] => { results := [.lit (.bool false)], args := [d1, d2] }
  | _ => none }
def WordComparesWrongFalsely : Prop := wordComparesRow.holds Tryd.pinned (OpenSpec.ofChange wordComparesWrong)

/-- 'vouchlaw1.WordOrders': WHATEVER THE INPUT: true; the input reads as it did. -/
def wordOrdersSpec : ChangeSpec := { name := "wordOrders", fn := fun _ => fun
  | [d1, d2, d3] => { results := [.lit (.bool true)], args := [d1, d2, d3] }
  | _ => none }
def wordOrdersRow : OpenClaim := { program := "ytegociefcfcihaadoor", sum := "febd9cbf44babaa5826dc8d3ea548586d41932f1f34a727c54d592859b4eb971", func := "vouch/vouchlaw1.WordOrders", spec := "wordOrders", inPlace := ["math/bits.Sub64", "math/bits.Add64"], unfollowed := true, recurses := true, named := ["internal/strconv.uint64pow10", "math/bits.deBruijn32tab", "math/bits.deBruijn64tab"], apart := false, laid := [("math/bits.deBruijn32tab", laid_math_bits_deBruijn32tab), ("math/bits.deBruijn64tab", laid_math_bits_deBruijn64tab), ("internal/strconv.uint64pow10", laid_internal_strconv_uint64pow10)] }
def WordOrdersSaid : Prop := wordOrdersRow.holds Tryd.pinned (OpenSpec.ofChange wordOrdersSpec)

/-- ITS FALSE NEIGHBOUR: 'it returns false'. Refute it at one input. -/
def wordOrdersWrong : ChangeSpec := { name := "wordOrders", fn := fun _ => fun
  | [d1, d2, d3] => { results := [.lit (.bool false)], args := [d1, d2, d3] }
  | _ => none }
def WordOrdersWrongFalsely : Prop := wordOrdersRow.holds Tryd.pinned (OpenSpec.ofChange wordOrdersWrong)

/-- 'vouchlaw1.WordSums': WHATEVER THE INPUT: true; the input reads as it did. -/
def wordSumsSpec : ChangeSpec := { name := "wordSums", fn := fun _ => fun
  | [d] => { results := [.lit (.bool true)], args := [d] }
  | _ => none }
def wordSumsRow : OpenClaim := { program := "ytegociefcfcihaadoor", sum := "febd9cbf44babaa5826dc8d3ea548586d41932f1f34a727c54d592859b4eb971", func := "vouch/vouchlaw1.WordSums", spec := "wordSums", inPlace := ["math/bits.Add64", "math/bits.Sub64"], unfollowed := true, recurses := true, named := ["internal/strconv.uint64pow10", "math/bits.deBruijn32tab", "math/bits.deBruijn64tab"], apart := false, laid := [("math/bits.deBruijn32tab", laid_math_bits_deBruijn32tab), ("math/bits.deBruijn64tab", laid_math_bits_deBruijn64tab), ("internal/strconv.uint64pow10", laid_internal_strconv_uint64pow10)] }
def WordSumsSaid : Prop := wordSumsRow.holds Tryd.pinned (OpenSpec.ofChange wordSumsSpec)

/-- ITS FALSE NEIGHBOUR: 'it returns false'. Refute it at one input. -/
def wordSumsWrong : ChangeSpec := { name := "wordSums", fn := fun _ => fun
  | [d] => { results := [.lit (.bool false)], args := [d] }
  | _ => none }
def WordSumsWrongFalsely : Prop := wordSumsRow.holds Tryd.pinned (OpenSpec.ofChange wordSumsWrong)

/-- 'vouchlaw1.WordPlainSums': WHATEVER THE INPUT: true; the input reads as it did. -/
def wordPlainSumsSpec : ChangeSpec := { name := "wordPlainSums", fn := fun _ => fun
  | [d] => { results := [.lit (.bool true)], args := [d] }
  | _ => none }
def wordPlainSumsRow : OpenClaim := { program := "ytegociefcfcihaadoor", sum := "febd9cbf44babaa5826dc8d3ea548586d41932f1f34a727c54d592859b4eb971", func := "vouch/vouchlaw1.WordPlainSums", spec := "wordPlainSums", inPlace := ["math/bits.Add64", "math/bits.Sub64"], unfollowed := true, recurses := true, named := ["internal/strconv.uint64pow10", "math/bits.deBruijn32tab", "math/bits.deBruijn64tab"], apart := false, laid := [("math/bits.deBruijn32tab", laid_math_bits_deBruijn32tab), ("math/bits.deBruijn64tab", laid_math_bits_deBruijn64tab), ("internal/strconv.uint64pow10", laid_internal_strconv_uint64pow10)] }
def WordPlainSumsSaid : Prop := wordPlainSumsRow.holds Tryd.pinned (OpenSpec.ofChange wordPlainSumsSpec)

/-- ITS FALSE NEIGHBOUR: 'it returns false'. Refute it at one input. -/
def wordPlainSumsWrong : ChangeSpec := { name := "wordPlainSums", fn := fun _ => fun
  | [d] => { results := [.lit (.bool false)], args := [d] }
  | _ => none }
def WordPlainSumsWrongFalsely : Prop := wordPlainSumsRow.holds Tryd.pinned (OpenSpec.ofChange wordPlainSumsWrong)

/-- 'vouchlaw1.WordBytes': WHATEVER THE INPUT: true; the input reads as it did. -/
def wordBytesSpec : ChangeSpec := { name := "wordBytes", fn := fun _ => fun
  | [d] => { results := [.lit (.bool true)], args := [d] }
  | _ => none }
def wordBytesRow : OpenClaim := { program := "ytegociefcfcihaadoor", sum := "febd9cbf44babaa5826dc8d3ea548586d41932f1f34a727c54d592859b4eb971", func := "vouch/vouchlaw1.WordBytes", spec := "wordBytes", inPlace := ["math/bits.Sub64", "math/bits.Add64"], unfollowed := true, recurses := true, named := ["internal/strconv.uint64pow10", "math/bits.deBruijn32tab", "math/bits.deBruijn64tab"], apart := false, laid := [("math/bits.deBruijn32tab", laid_math_bits_deBruijn32tab), ("math/bits.deBruijn64tab", laid_math_bits_deBruijn64tab), ("internal/strconv.uint64pow10", laid_internal_strconv_uint64pow10)] }
def WordBytesSaid : Prop := wordBytesRow.holds Tryd.pinned (OpenSpec.ofChange wordBytesSpec)

/-- ITS FALSE NEIGHBOUR: 'it returns false'. Refute it at one input. -/
def wordBytesWrong : ChangeSpec := { name := "wordBytes", fn := fun _ => fun
  | [d] => { results := [.lit (.bool false)], args := [d] }
  | _ => none }
def WordBytesWrongFalsely : Prop := wordBytesRow.holds Tryd.pinned (OpenSpec.ofChange wordBytesWrong)

/-- 'vouchlaw1.WordForms': WHATEVER THE INPUT: true; the input reads as it did. -/
def wordFormsSpec : ChangeSpec := { name := "wordForms", fn := fun _ => fun
  | [d1, d2, d3, d4] => { results := [.lit (.bool true)], args := [d1, d2, d3, d4] }
  | _ => none }
def wordFormsRow : OpenClaim := { program := "ytegociefcfcihaadoor", sum := "febd9cbf44babaa5826dc8d3ea548586d41932f1f34a727c54d592859b4eb971", func := "vouch/vouchlaw1.WordForms", spec := "wordForms", inPlace := ["math/bits.Add64", "math/bits.Sub64"], unfollowed := true, recurses := true, named := ["internal/strconv.uint64pow10", "math/bits.deBruijn32tab", "math/bits.deBruijn64tab"], apart := false, laid := [("math/bits.deBruijn32tab", laid_math_bits_deBruijn32tab), ("math/bits.deBruijn64tab", laid_math_bits_deBruijn64tab), ("internal/strconv.uint64pow10", laid_internal_strconv_uint64pow10)] }
def WordFormsSaid : Prop := wordFormsRow.holds Tryd.pinned (OpenSpec.ofChange wordFormsSpec)

/-- ITS FALSE NEIGHBOUR: 'it returns false'. Refute it at one input. -/
def wordFormsWrong : ChangeSpec := { name := "wordForms", fn := fun _ => fun
  | [d1, d2, d3, d4] => { results := [.lit (.bool false)], args := [d1, d2, d3, d4] }
  | _ => none }
def WordFormsWrongFalsely : Prop := wordFormsRow.holds Tryd.pinned (OpenSpec.ofChange wordFormsWrong)

/-- 'vouchlaw1.WordTexts': WHATEVER THE INPUT: true; the input reads as it did. -/
def wordTextsSpec : ChangeSpec := { name := "wordTexts", fn := fun _ => fun
  | [d1, d2] => { results := [.lit (.bool true)], args := [d1, d2] }
  | _ => none }
def wordTextsRow : OpenClaim := { program := "ytegociefcfcihaadoor", sum := "febd9cbf44babaa5826dc8d3ea548586d41932f1f34a727c54d592859b4eb971", func := "vouch/vouchlaw1.WordTexts", spec := "wordTexts", inPlace := ["math/bits.Add64", "math/bits.Sub64"], unfollowed := true, recurses := true, named := ["internal/strconv.uint64pow10", "math/bits.deBruijn32tab", "math/bits.deBruijn64tab"], apart := false, laid := [("math/bits.deBruijn32tab", laid_math_bits_deBruijn32tab), ("math/bits.deBruijn64tab", laid_math_bits_deBruijn64tab), ("internal/strconv.uint64pow10", laid_internal_strconv_uint64pow10)] }
def WordTextsSaid : Prop := wordTextsRow.holds Tryd.pinned (OpenSpec.ofChange wordTextsSpec)

/-- ITS FALSE NEIGHBOUR: 'it returns false'. Refute it at one input. -/
def wordTextsWrong : ChangeSpec := { name := "wordTexts", fn := fun _ => fun
  | [d1, d2] => { results := [.lit (.bool false)], args := [d1, d2] }
  | _ => none }
def WordTextsWrongFalsely : Prop := wordTextsRow.holds Tryd.pinned (OpenSpec.ofChange wordTextsWrong)

/-- 'vouchlaw1.WordReadsBack': WHATEVER THE INPUT: true; the input reads as it did. -/
def wordReadsBackSpec : ChangeSpec := { name := "wordReadsBack", fn := fun _ => fun
  | [d1, d2] => { results := [.lit (.bool true)], args := [d1, d2] }
  | _ => none }
def wordReadsBackRow : OpenClaim := { program := "ytegociefcfcihaadoor", sum := "febd9cbf44babaa5826dc8d3ea548586d41932f1f34a727c54d592859b4eb971", func := "vouch/vouchlaw1.WordReadsBack", spec := "wordReadsBack", inPlace := ["math/bits.Add64", "math/bits.Sub64"], unfollowed := true, recurses := true, named := ["internal/strconv.uint64pow10", "math/bits.deBruijn32tab", "math/bits.deBruijn64tab"], apart := false, laid := [("math/bits.deBruijn32tab", laid_math_bits_deBruijn32tab), ("math/bits.deBruijn64tab", laid_math_bits_deBruijn64tab), ("internal/strconv.uint64pow10", laid_internal_strconv_uint64pow10)] }
def WordReadsBackSaid : Prop := wordReadsBackRow.holds Tryd.pinned (OpenSpec.ofChange wordReadsBackSpec)

/-- ITS FALSE NEIGHBOUR: 'it returns false'. Refute it at one input. -/
def wordReadsBackWrong : ChangeSpec := { name := "wordReadsBack", fn := fun _ => fun
  | [d1, d2] => { results := [.lit (.bool false)], args := [d1, d2] }
  | _ => none }
def WordReadsBackWrongFalsely : Prop := wordReadsBackRow.holds Tryd.pinned (OpenSpec.ofChange wordReadsBackWrong)

/- THE SECOND FORM. 'bulk': how many values and letters a reading holds, each counted each time it is reached (what is shared counts as often as it is met; a slice's spare places count too). A statement '..UptoSaid' is the law's where the arguments, and the package variables that the reading takes, are together of bulk at most 1048576: NARROWER than '..Said'. Prove '..Said' where nothing that the law and all that it calls make is longer than what came in: it says more and counts as full. Else prove '..UptoSaid'. A law counts once. -/
mutual
def uptoBulk {H : Type} : DataW H → Nat
  | .lit (.string bytes) => bytes.length + 1
  | .lit _ => 1
  | .nil => 1
  | .ptr d => uptoBulk d + 1
  | .slice elems spare => uptoBulkAll elems + uptoBulkAll spare + 1
  | .agg parts => uptoBulkAll parts + 1
  | .iface _ d => uptoBulk d + 1
  | .map entries => uptoBulkEntries entries + 1
  | .held _ => 1
def uptoBulkAll {H : Type} : List (DataW H) → Nat
  | [] => 0
  | d :: r => uptoBulk d + uptoBulkAll r
def uptoBulkEntries {H : Type} : List (Lit × DataW H) → Nat
  | [] => 0
  | x :: r => uptoBulkEntry x + uptoBulkEntries r
def uptoBulkEntry {H : Type} : Lit × DataW H → Nat
  | (.string bytes, d) => bytes.length + uptoBulk d + 1
  | (_, d) => uptoBulk d + 1
 end
def uptoSmall : (H : Type) → List (DataW H) → Bool := fun _ ds => decide (uptoBulkAll ds ≤ 1048576)
def OpenSpec.upto (s : _root_.Go.ChangeSpec) : _root_.Go.OpenSpec := { _root_.Go.OpenSpec.ofChange s with cond := some uptoSmall }

/-- 'vouchlaw1.WordReckons', WHERE WHAT IT READS IS OF BULK AT MOST 1048576: true; the input reads as it did. -/
def wordReckonsUptoRow : OpenClaim := { program := "ytegociefcfcihaadoor", sum := "febd9cbf44babaa5826dc8d3ea548586d41932f1f34a727c54d592859b4eb971", func := "vouch/vouchlaw1.WordReckons", spec := "wordReckons", inPlace := ["math/bits.Add64", "math/bits.Sub64"], unfollowed := true, recurses := true, named := ["internal/strconv.uint64pow10", "math/bits.deBruijn32tab", "math/bits.deBruijn64tab"], apart := false, laid := [("math/bits.deBruijn32tab", laid_math_bits_deBruijn32tab), ("math/bits.deBruijn64tab", laid_math_bits_deBruijn64tab), ("internal/strconv.uint64pow10", laid_internal_strconv_uint64pow10)], narrowed := true }
def WordReckonsUptoSaid : Prop := wordReckonsUptoRow.holds Tryd.pinned (OpenSpec.upto wordReckonsSpec)

/-- 'vouchlaw1.WordSigns', WHERE WHAT IT READS IS OF BULK AT MOST 1048576: true; the input reads as it did. -/
def wordSignsUptoRow : OpenClaim := { program := "ytegociefcfcihaadoor", sum := "febd9cbf44babaa5826dc8d3ea548586d41932f1f34a727c54d592859b4eb971", func := "vouch/vouchlaw1.WordSigns", spec := "wordSigns", inPlace := ["math/bits.Sub64", "math/bits.Add64"], unfollowed := true, recurses := true, named := ["internal/strconv.uint64pow10", "math/bits.deBruijn32tab", "math/bits.deBruijn64tab"], apart := false, laid := [("math/bits.deBruijn32tab", laid_math_bits_deBruijn32tab), ("math/bits.deBruijn64tab", laid_math_bits_deBruijn64tab), ("internal/strconv.uint64pow10", laid_internal_strconv_uint64pow10)], narrowed := true }
def WordSignsUptoSaid : Prop := wordSignsUptoRow.holds Tryd.pinned (OpenSpec.upto wordSignsSpec)

/-- 'vouchlaw1.WordModulos', WHERE WHAT IT READS IS OF BULK AT MOST 1048576: true; the input reads as it did. -/
def wordModulosUptoRow : OpenClaim := { program := "ytegociefcfcihaadoor", sum := "febd9cbf44babaa5826dc8d3ea548586d41932f1f34a727c54d592859b4eb971", func := "vouch/vouchlaw1.WordModulos", spec := "wordModulos", inPlace := ["math/bits.Add64", "math/bits.Sub64"], unfollowed := true, recurses := true, named := ["internal/strconv.uint64pow10", "math/bits.deBruijn32tab", "math/bits.deBruijn64tab"], apart := false, laid := [("math/bits.deBruijn32tab", laid_math_bits_deBruijn32tab), ("math/bits.deBruijn64tab", laid_math_bits_deBruijn64tab), ("internal/strconv.uint64pow10", laid_internal_strconv_uint64pow10)], narrowed := true }
def WordModulosUptoSaid : Prop := wordModulosUptoRow.holds Tryd.pinned (OpenSpec.upto wordModulosSpec)

/-- 'vouchlaw1.WordExps', WHERE WHAT IT READS IS OF BULK AT MOST 1048576: true; the input reads as it did. -/
def wordExpsUptoRow : OpenClaim := { program := "ytegociefcfcihaadoor", sum := "febd9cbf44babaa5826dc8d3ea548586d41932f1f34a727c54d592859b4eb971", func := "vouch/vouchlaw1.WordExps", spec := "wordExps", inPlace := ["math/bits.Add64", "math/bits.Sub64"], unfollowed := true, recurses := true, named := ["internal/strconv.uint64pow10", "math/bits.deBruijn32tab", "math/bits.deBruijn64tab"], apart := false, laid := [("math/bits.deBruijn32tab", laid_math_bits_deBruijn32tab), ("math/bits.deBruijn64tab", laid_math_bits_deBruijn64tab), ("internal/strconv.uint64pow10", laid_internal_strconv_uint64pow10)], narrowed := true }
def WordExpsUptoSaid : Prop := wordExpsUptoRow.holds Tryd.pinned (OpenSpec.upto wordExpsSpec)

/-- 'vouchlaw1.WordRing', WHERE WHAT IT READS IS OF BULK AT MOST 1048576: true; the input reads as it did. -/
def wordRingUptoRow : OpenClaim := { program := "ytegociefcfcihaadoor", sum := "febd9cbf44babaa5826dc8d3ea548586d41932f1f34a727c54d592859b4eb971", func := "vouch/vouchlaw1.WordRing", spec := "wordRing", inPlace := ["math/bits.Add64", "math/bits.Sub64"], unfollowed := true, recurses := true, named := ["internal/strconv.uint64pow10", "math/bits.deBruijn32tab", "math/bits.deBruijn64tab"], apart := false, laid := [("math/bits.deBruijn32tab", laid_math_bits_deBruijn32tab), ("math/bits.deBruijn64tab", laid_math_bits_deBruijn64tab), ("internal/strconv.uint64pow10", laid_internal_strconv_uint64pow10)], narrowed := true }
def WordRingUptoSaid : Prop := wordRingUptoRow.holds Tryd.pinned (OpenSpec.upto wordRingSpec)

/-- 'vouchlaw1.WordDivides', WHERE WHAT IT READS IS OF BULK AT MOST 1048576: true; the input reads as it did. -/
def wordDividesUptoRow : OpenClaim := { program := "ytegociefcfcihaadoor", sum := "febd9cbf44babaa5826dc8d3ea548586d41932f1f34a727c54d592859b4eb971", func := "vouch/vouchlaw1.WordDivides", spec := "wordDivides", inPlace := ["math/bits.Sub64", "math/bits.Add64"], unfollowed := true, recurses := true, named := ["internal/strconv.uint64pow10", "math/bits.deBruijn32tab", "math/bits.deBruijn64tab"], apart := false, laid := [("math/bits.deBruijn32tab", laid_math_bits_deBruijn32tab), ("math/bits.deBruijn64tab", laid_math_bits_deBruijn64tab), ("internal/strconv.uint64pow10", laid_internal_strconv_uint64pow10)], narrowed := true }
def WordDividesUptoSaid : Prop := wordDividesUptoRow.holds Tryd.pinned (OpenSpec.upto wordDividesSpec)

/-- 'vouchlaw1.WordSignedDivides', WHERE WHAT IT READS IS OF BULK AT MOST 1048576: true; the input reads as it did. -/
def wordSignedDividesUptoRow : OpenClaim := { program := "ytegociefcfcihaadoor", sum := "febd9cbf44babaa5826dc8d3ea548586d41932f1f34a727c54d592859b4eb971", func := "vouch/vouchlaw1.WordSignedDivides", spec := "wordSignedDivides", inPlace := ["math/bits.Sub64", "math/bits.Add64"], unfollowed := true, recurses := true, named := ["internal/strconv.uint64pow10", "math/bits.deBruijn32tab", "math/bits.deBruijn64tab"], apart := false, laid := [("math/bits.deBruijn32tab", laid_math_bits_deBruijn32tab), ("math/bits.deBruijn64tab", laid_math_bits_deBruijn64tab), ("internal/strconv.uint64pow10", laid_internal_strconv_uint64pow10)], narrowed := true }
def WordSignedDividesUptoSaid : Prop := wordSignedDividesUptoRow.holds Tryd.pinned (OpenSpec.upto wordSignedDividesSpec)

/-- 'vouchlaw1.WordResidues', WHERE WHAT IT READS IS OF BULK AT MOST 1048576: true; the input reads as it did. -/
def wordResiduesUptoRow : OpenClaim := { program := "ytegociefcfcihaadoor", sum := "febd9cbf44babaa5826dc8d3ea548586d41932f1f34a727c54d592859b4eb971", func := "vouch/vouchlaw1.WordResidues", spec := "wordResidues", inPlace := ["math/bits.Add64", "math/bits.Sub64"], unfollowed := true, recurses := true, named := ["internal/strconv.uint64pow10", "math/bits.deBruijn32tab", "math/bits.deBruijn64tab"], apart := false, laid := [("math/bits.deBruijn32tab", laid_math_bits_deBruijn32tab), ("math/bits.deBruijn64tab", laid_math_bits_deBruijn64tab), ("internal/strconv.uint64pow10", laid_internal_strconv_uint64pow10)], narrowed := true }
def WordResiduesUptoSaid : Prop := wordResiduesUptoRow.holds Tryd.pinned (OpenSpec.upto wordResiduesSpec)

/-- 'vouchlaw1.WordPowers', WHERE WHAT IT READS IS OF BULK AT MOST 1048576: true; the input reads as it did. -/
def wordPowersUptoRow : OpenClaim := { program := "ytegociefcfcihaadoor", sum := "febd9cbf44babaa5826dc8d3ea548586d41932f1f34a727c54d592859b4eb971", func := "vouch/vouchlaw1.WordPowers", spec := "wordPowers", inPlace := ["math/bits.Add64", "math/bits.Sub64"], unfollowed := true, recurses := true, named := ["internal/strconv.uint64pow10", "math/bits.deBruijn32tab", "math/bits.deBruijn64tab"], apart := false, laid := [("math/bits.deBruijn32tab", laid_math_bits_deBruijn32tab), ("math/bits.deBruijn64tab", laid_math_bits_deBruijn64tab), ("internal/strconv.uint64pow10", laid_internal_strconv_uint64pow10)], narrowed := true }
def WordPowersUptoSaid : Prop := wordPowersUptoRow.holds Tryd.pinned (OpenSpec.upto wordPowersSpec)

/-- 'vouchlaw1.WordShifts', WHERE WHAT IT READS IS OF BULK AT MOST 1048576: true; the input reads as it did. -/
def wordShiftsUptoRow : OpenClaim := { program := "ytegociefcfcihaadoor", sum := "febd9cbf44babaa5826dc8d3ea548586d41932f1f34a727c54d592859b4eb971", func := "vouch/vouchlaw1.WordShifts", spec := "wordShifts", inPlace := ["math/bits.Add64", "math/bits.Sub64"], unfollowed := true, recurses := true, named := ["internal/strconv.uint64pow10", "math/bits.deBruijn32tab", "math/bits.deBruijn64tab"], apart := false, laid := [("math/bits.deBruijn32tab", laid_math_bits_deBruijn32tab), ("math/bits.deBruijn64tab", laid_math_bits_deBruijn64tab), ("internal/strconv.uint64pow10", laid_internal_strconv_uint64pow10)], narrowed := true }
def WordShiftsUptoSaid : Prop := wordShiftsUptoRow.holds Tryd.pinned (OpenSpec.upto wordShiftsSpec)

/-- 'vouchlaw1.WordExtends', WHERE WHAT IT READS IS OF BULK AT MOST 1048576: true; the input reads as it did. -/
def wordExtendsUptoRow : OpenClaim := { program := "ytegociefcfcihaadoor", sum := "febd9cbf44babaa5826dc8d3ea548586d41932f1f34a727c54d592859b4eb971", func := "vouch/vouchlaw1.WordExtends", spec := "wordExtends", inPlace := ["math/bits.Sub64", "math/bits.Add64"], unfollowed := true, recurses := true, named := ["internal/strconv.uint64pow10", "math/bits.deBruijn32tab", "math/bits.deBruijn64tab"], apart := false, laid := [("math/bits.deBruijn32tab", laid_math_bits_deBruijn32tab), ("math/bits.deBruijn64tab", laid_math_bits_deBruijn64tab), ("internal/strconv.uint64pow10", laid_internal_strconv_uint64pow10)], narrowed := true }
def WordExtendsUptoSaid : Prop := wordExtendsUptoRow.holds Tryd.pinned (OpenSpec.upto wordExtendsSpec)

/-- 'vouchlaw1.WordBits', WHERE WHAT IT READS IS OF BULK AT MOST 1048576: true; the input reads as it did. -/
def wordBitsUptoRow : OpenClaim := { program := "ytegociefcfcihaadoor", sum := "febd9cbf44babaa5826dc8d3ea548586d41932f1f34a727c54d592859b4eb971", func := "vouch/vouchlaw1.WordBits", spec := "wordBits", inPlace := ["math/bits.Sub64", "math/bits.Add64"], unfollowed := true, recurses := true, named := ["internal/strconv.uint64pow10", "math/bits.deBruijn32tab", "math/bits.deBruijn64tab"], apart := false, laid := [("math/bits.deBruijn32tab", laid_math_bits_deBruijn32tab), ("math/bits.deBruijn64tab", laid_math_bits_deBruijn64tab), ("internal/strconv.uint64pow10", laid_internal_strconv_uint64pow10)], narrowed := true }
def WordBitsUptoSaid : Prop := wordBitsUptoRow.holds Tryd.pinned (OpenSpec.upto wordBitsSpec)

/-- 'vouchlaw1.WordCompares', WHERE WHAT IT READS IS OF BULK AT MOST 1048576: true; the input reads as it did. -/
def wordComparesUptoRow : OpenClaim := { program := "ytegociefcfcihaadoor", sum := "febd9cbf44babaa5826dc8d3ea548586d41932f1f34a727c54d592859b4eb971", func := "vouch/vouchlaw1.WordCompares", spec := "wordCompares", inPlace := ["math/bits.Sub64", "math/bits.Add64"], unfollowed := true, recurses := true, named := ["internal/strconv.uint64pow10", "math/bits.deBruijn32tab", "math/bits.deBruijn64tab"], apart := false, laid := [("math/bits.deBruijn32tab", laid_math_bits_deBruijn32tab), ("math/bits.deBruijn64tab", laid_math_bits_deBruijn64tab), ("internal/strconv.uint64pow10", laid_internal_strconv_uint64pow10)], narrowed := true }
def WordComparesUptoSaid : Prop := wordComparesUptoRow.holds Tryd.pinned (OpenSpec.upto wordComparesSpec)

/-- 'vouchlaw1.WordOrders', WHERE WHAT IT READS IS OF BULK AT MOST 1048576: true; the input reads as it did. -/
def wordOrdersUptoRow : OpenClaim := { program := "ytegociefcfcihaadoor", sum := "febd9cbf44babaa5826dc8d3ea548586d41932f1f34a727c54d592859b4eb971", func := "vouch/vouchlaw1.WordOrders", spec := "wordOrders", inPlace := ["math/bits.Sub64", "math/bits.Add64"], unfollowed := true, recurses := true, named := ["internal/strconv.uint64pow10", "math/bits.deBruijn32tab", "math/bits.deBruijn64tab"], apart := false, laid := [("math/bits.deBruijn32tab", laid_math_bits_deBruijn32tab), ("math/bits.deBruijn64tab", laid_math_bits_deBruijn64tab), ("internal/strconv.uint64pow10", laid_internal_strconv_uint64pow10)], narrowed := true }
def WordOrdersUptoSaid : Prop := wordOrdersUptoRow.holds Tryd.pinned (OpenSpec.upto wordOrdersSpec)

/-- 'vouchlaw1.WordSums', WHERE WHAT IT READS IS OF BULK AT MOST 1048576: true; the input reads as it did. -/
def wordSumsUptoRow : OpenClaim := { program := "ytegociefcfcihaadoor", sum := "febd9cbf44babaa5826dc8d3ea548586d41932f1f34a727c54d592859b4eb971", func := "vouch/vouchlaw1.WordSums", spec := "wordSums", inPlace := ["math/bits.Add64", "math/bits.Sub64"], unfollowed := true, recurses := true, named := ["internal/strconv.uint64pow10", "math/bits.deBruijn32tab", "math/bits.deBruijn64tab"], apart := false, laid := [("math/bits.deBruijn32tab", laid_math_bits_deBruijn32tab), ("math/bits.deBruijn64tab", laid_math_bits_deBruijn64tab), ("internal/strconv.uint64pow10", laid_internal_strconv_uint64pow10)], narrowed := true }
def WordSumsUptoSaid : Prop := wordSumsUptoRow.holds Tryd.pinned (OpenSpec.upto wordSumsSpec)

/-- 'vouchlaw1.WordPlainSums', WHERE WHAT IT READS IS OF BULK AT MOST 1048576: true; the input reads as it did. -/
def wordPlainSumsUptoRow : OpenClaim := { program := "ytegociefcfcihaadoor", sum := "febd9cbf44babaa5826dc8d3ea548586d41932f1f34a727c54d592859b4eb971", func := "vouch/vouchlaw1.WordPlainSums", spec := "wordPlainSums", inPlace := ["math/bits.Add64", "math/bits.Sub64"], unfollowed := true, recurses := true, named := ["internal/strconv.uint64pow10", "math/bits.deBruijn32tab", "math/bits.deBruijn64tab"], apart := false, laid := [("math/bits.deBruijn32tab", laid_math_bits_deBruijn32tab), ("math/bits.deBruijn64tab", laid_math_bits_deBruijn64tab), ("internal/strconv.uint64pow10", laid_internal_strconv_uint64pow10)], narrowed := true }
def WordPlainSumsUptoSaid : Prop := wordPlainSumsUptoRow.holds Tryd.pinned (OpenSpec.upto wordPlainSumsSpec)

/-- 'vouchlaw1.WordBytes', WHERE WHAT IT READS IS OF BULK AT MOST 1048576: true; the input reads as it did. -/
def wordBytesUptoRow : OpenClaim := { program := "ytegociefcfcihaadoor", sum := "febd9cbf44babaa5826dc8d3ea548586d41932f1f34a727c54d592859b4eb971", func := "vouch/vouchlaw1.WordBytes", spec := "wordBytes", inPlace := ["math/bits.Sub64", "math/bits.Add64"], unfollowed := true, recurses := true, named := ["internal/strconv.uint64pow10", "math/bits.deBruijn32tab", "math/bits.deBruijn64tab"], apart := false, laid := [("math/bits.deBruijn32tab", laid_math_bits_deBruijn32tab), ("math/bits.deBruijn64tab", laid_math_bits_deBruijn64tab), ("internal/strconv.uint64pow10", laid_internal_strconv_uint64pow10)], narrowed := true }
def WordBytesUptoSaid : Prop := wordBytesUptoRow.holds Tryd.pinned (OpenSpec.upto wordBytesSpec)

/-- 'vouchlaw1.WordForms', WHERE WHAT IT READS IS OF BULK AT MOST 1048576: true; the input reads as it did. -/
def wordFormsUptoRow : OpenClaim := { program := "ytegociefcfcihaadoor", sum := "febd9cbf44babaa5826dc8d3ea548586d41932f1f34a727c54d592859b4eb971", func := "vouch/vouchlaw1.WordForms", spec := "wordForms", inPlace := ["math/bits.Add64", "math/bits.Sub64"], unfollowed := true, recurses := true, named := ["internal/strconv.uint64pow10", "math/bits.deBruijn32tab", "math/bits.deBruijn64tab"], apart := false, laid := [("math/bits.deBruijn32tab", laid_math_bits_deBruijn32tab), ("math/bits.deBruijn64tab", laid_math_bits_deBruijn64tab), ("internal/strconv.uint64pow10", laid_internal_strconv_uint64pow10)], narrowed := true }
def WordFormsUptoSaid : Prop := wordFormsUptoRow.holds Tryd.pinned (OpenSpec.upto wordFormsSpec)

/-- 'vouchlaw1.WordTexts', WHERE WHAT IT READS IS OF BULK AT MOST 1048576: true; the input reads as it did. -/
def wordTextsUptoRow : OpenClaim := { program := "ytegociefcfcihaadoor", sum := "febd9cbf44babaa5826dc8d3ea548586d41932f1f34a727c54d592859b4eb971", func := "vouch/vouchlaw1.WordTexts", spec := "wordTexts", inPlace := ["math/bits.Add64", "math/bits.Sub64"], unfollowed := true, recurses := true, named := ["internal/strconv.uint64pow10", "math/bits.deBruijn32tab", "math/bits.deBruijn64tab"], apart := false, laid := [("math/bits.deBruijn32tab", laid_math_bits_deBruijn32tab), ("math/bits.deBruijn64tab", laid_math_bits_deBruijn64tab), ("internal/strconv.uint64pow10", laid_internal_strconv_uint64pow10)], narrowed := true }
def WordTextsUptoSaid : Prop := wordTextsUptoRow.holds Tryd.pinned (OpenSpec.upto wordTextsSpec)

/-- 'vouchlaw1.WordReadsBack', WHERE WHAT IT READS IS OF BULK AT MOST 1048576: true; the input reads as it did. -/
def wordReadsBackUptoRow : OpenClaim := { program := "ytegociefcfcihaadoor", sum := "febd9cbf44babaa5826dc8d3ea548586d41932f1f34a727c54d592859b4eb971", func := "vouch/vouchlaw1.WordReadsBack", spec := "wordReadsBack", inPlace := ["math/bits.Add64", "math/bits.Sub64"], unfollowed := true, recurses := true, named := ["internal/strconv.uint64pow10", "math/bits.deBruijn32tab", "math/bits.deBruijn64tab"], apart := false, laid := [("math/bits.deBruijn32tab", laid_math_bits_deBruijn32tab), ("math/bits.deBruijn64tab", laid_math_bits_deBruijn64tab), ("internal/strconv.uint64pow10", laid_internal_strconv_uint64pow10)], narrowed := true }
def WordReadsBackUptoSaid : Prop := wordReadsBackUptoRow.holds Tryd.pinned (OpenSpec.upto wordReadsBackSpec)

end Rows
end Go.Proofs.YtegociefcfcihaaDoor
