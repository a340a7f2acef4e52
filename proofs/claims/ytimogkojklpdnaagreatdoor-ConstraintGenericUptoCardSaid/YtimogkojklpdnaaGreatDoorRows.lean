/-
  NARROWER THAN 'FOR EVERY INPUT', by the rows' own cells (each row's printed sentence says how): ConstraintHolds: loops, laid · ConstraintDescribed: laid · ConstraintTrivial: laid · ConstraintDrops: laid · ConstraintInstance: loops, laid · ConstraintComposed: laid · ConstraintValid: loops, laid · ConstraintGeneric: laid.
  DERIVED. THE GIVEN ROWS OF THIS SEAT. 8 by the template 'for every input the law returns true; each argument reads behind the call as it read before'; 0 by the template 'total and deterministic' (their statements: YtimogkojklpdnaaGreatDoorTotals.lean).
  GIVEN WITH THE SEED: the statements are not yours to turn. If you find one false, say at which input.
  Laid BY PROGRAM, IN A SANDBOX (cutbox-rows.mjs): the forced cells as the released guide's own fill.sh prints them over the translation fe2b46a07f94f3c8… (all of the seat's roots in one cut). By AI agents, Wed Nov 11 2026. No macro, syntax, notation, axiom, sorry.
-/
import Derived.Test.YtimogkojklpdnaaGreatDoorChecked
import GoSem.PinnedTables
import GoSem.Claim
import GoSem.ClaimJoined
import GoSem.ClaimMapViews
import Derived.JoinedTies
import Derived.KernelRfl
namespace Go.Proofs.YtimogkojklpdnaaGreatDoor
/- THE CELL 'sum', in the pinned program and in every row, IS THE sha256 OF THE DUMP (.gsa) THAT YtimogkojklpdnaaGreatDoorProg.lean LOADS. Nothing in Lean hashes anything: it is a label: what it is worth is what the hold of that sum in a sandbox is worth. -/
noncomputable def Tryz.pinned : Pinned := { name := "ytimogkojklpdnaagreatdoor", sum := "fe2b46a07f94f3c816af1b46ec1e98d02bca67f85e220683a24d75dda45c5671", checked := Tryz.checked }
namespace Rows
def none {H : Type} : Left H := { results := [], args := [] }

/- WHAT THE LISTED PACKAGE-LEVEL VARIABLES READ AS WHEN THE CALL BEGINS. Each datum BY PROGRAM (the guide's laid-datum.mjs) off the statement by which the dump's own 'gosem.cut.vars' lays the variable. In a bare row this is a premise. The card (YtimogkojklpdnaaGreatDoorCards.lean) ties it to the program's text. -/
def laid_math_bits_deBruijn32tab {H : Type} : DataW H := .agg [.lit (.int .u8 0), .lit (.int .u8 1), .lit (.int .u8 28), .lit (.int .u8 2), .lit (.int .u8 29), .lit (.int .u8 14), .lit (.int .u8 24), .lit (.int .u8 3), .lit (.int .u8 30), .lit (.int .u8 22), .lit (.int .u8 20), .lit (.int .u8 15), .lit (.int .u8 25), .lit (.int .u8 17), .lit (.int .u8 4), .lit (.int .u8 8), .lit (.int .u8 31), .lit (.int .u8 27), .lit (.int .u8 13), .lit (.int .u8 23), .lit (.int .u8 21), .lit (.int .u8 19), .lit (.int .u8 16), .lit (.int .u8 7), .lit (.int .u8 26), .lit (.int .u8 12), .lit (.int .u8 18), .lit (.int .u8 6), .lit (.int .u8 11), .lit (.int .u8 5), .lit (.int .u8 10), .lit (.int .u8 9)]
def laid_math_bits_deBruijn64tab {H : Type} : DataW H := .agg [.lit (.int .u8 0), .lit (.int .u8 1), .lit (.int .u8 56), .lit (.int .u8 2), .lit (.int .u8 57), .lit (.int .u8 49), .lit (.int .u8 28), .lit (.int .u8 3), .lit (.int .u8 61), .lit (.int .u8 58), .lit (.int .u8 42), .lit (.int .u8 50), .lit (.int .u8 38), .lit (.int .u8 29), .lit (.int .u8 17), .lit (.int .u8 4), .lit (.int .u8 62), .lit (.int .u8 47), .lit (.int .u8 59), .lit (.int .u8 36), .lit (.int .u8 45), .lit (.int .u8 43), .lit (.int .u8 51), .lit (.int .u8 22), .lit (.int .u8 53), .lit (.int .u8 39), .lit (.int .u8 33), .lit (.int .u8 30), .lit (.int .u8 24), .lit (.int .u8 18), .lit (.int .u8 12), .lit (.int .u8 5), .lit (.int .u8 63), .lit (.int .u8 55), .lit (.int .u8 48), .lit (.int .u8 27), .lit (.int .u8 60), .lit (.int .u8 41), .lit (.int .u8 37), .lit (.int .u8 16), .lit (.int .u8 46), .lit (.int .u8 35), .lit (.int .u8 44), .lit (.int .u8 21), .lit (.int .u8 52), .lit (.int .u8 32), .lit (.int .u8 23), .lit (.int .u8 11), .lit (.int .u8 54), .lit (.int .u8 26), .lit (.int .u8 40), .lit (.int .u8 15), .lit (.int .u8 34), .lit (.int .u8 20), .lit (.int .u8 31), .lit (.int .u8 10), .lit (.int .u8 25), .lit (.int .u8 14), .lit (.int .u8 19), .lit (.int .u8 9), .lit (.int .u8 13), .lit (.int .u8 8), .lit (.int .u8 7), .lit (.int .u8 6)]
def laid_internal_strconv_uint64pow10 {H : Type} : DataW H := .agg [.lit (.int .u64 1), .lit (.int .u64 10), .lit (.int .u64 100), .lit (.int .u64 1000), .lit (.int .u64 10000), .lit (.int .u64 100000), .lit (.int .u64 1000000), .lit (.int .u64 10000000), .lit (.int .u64 100000000), .lit (.int .u64 1000000000), .lit (.int .u64 10000000000), .lit (.int .u64 100000000000), .lit (.int .u64 1000000000000), .lit (.int .u64 10000000000000), .lit (.int .u64 100000000000000), .lit (.int .u64 1000000000000000), .lit (.int .u64 10000000000000000), .lit (.int .u64 100000000000000000), .lit (.int .u64 1000000000000000000), .lit (.int .u64 10000000000000000000)]
def laid_unicode_utf8_acceptRanges {H : Type} : DataW H := .agg [.agg [.lit (.int .u8 128), .lit (.int .u8 191)], .agg [.lit (.int .u8 160), .lit (.int .u8 191)], .agg [.lit (.int .u8 128), .lit (.int .u8 159)], .agg [.lit (.int .u8 144), .lit (.int .u8 191)], .agg [.lit (.int .u8 128), .lit (.int .u8 143)], .agg [.lit (.int .u8 0), .lit (.int .u8 0)], .agg [.lit (.int .u8 0), .lit (.int .u8 0)], .agg [.lit (.int .u8 0), .lit (.int .u8 0)], .agg [.lit (.int .u8 0), .lit (.int .u8 0)], .agg [.lit (.int .u8 0), .lit (.int .u8 0)], .agg [.lit (.int .u8 0), .lit (.int .u8 0)], .agg [.lit (.int .u8 0), .lit (.int .u8 0)], .agg [.lit (.int .u8 0), .lit (.int .u8 0)], .agg [.lit (.int .u8 0), .lit (.int .u8 0)], .agg [.lit (.int .u8 0), .lit (.int .u8 0)], .agg [.lit (.int .u8 0), .lit (.int .u8 0)]]
/-- One of Go's own tables, pinned by name: the form's constant. -/
def laid_unicode_utf8_first : DataW Unit := Go.Pinned.utf8First
def laid_sealring_term_words {H : Type} : DataW H := .slice [.lit (.string [97, 110, 121]), .lit (.string [97, 103, 101, 110, 116]), .lit (.string [110, 111, 110, 99, 101]), .lit (.string [107, 101, 121]), .lit (.string [100, 97, 116, 97]), .lit (.string [116, 97, 103])] []

/-- 'sealringlaw36.ConstraintHolds': WHATEVER THE INPUT: true; the input reads as it did. -/
def constraintHoldsSpec : ChangeSpec := { name := "constraintHolds", fn := fun _ => fun
  | [d1, d2] => { results := [.lit (.bool true)], args := [d1, d2] }
  | _ => none }
def constraintHoldsRow : OpenClaim := { program := "ytimogkojklpdnaagreatdoor", sum := "fe2b46a07f94f3c816af1b46ec1e98d02bca67f85e220683a24d75dda45c5671", func := "sealring/sealringlaw36.ConstraintHolds", spec := "constraintHolds", inPlace := ["internal/bytealg.abigen_runtime_cmpstring", "slices.overlaps[sealring/api.Power]", "slices.overlaps[sealring/api.Term]", "internal/bytealg.IndexByteString", "internal/bytealg.IndexString"], unfollowed := true, recurses := true, named := ["internal/strconv.uint64pow10", "math/bits.deBruijn32tab", "math/bits.deBruijn64tab", "unicode/utf8.first", "unicode/utf8.acceptRanges", "internal/bytealg.MaxLen"], loops := true, apart := false, laid := [("math/bits.deBruijn32tab", laid_math_bits_deBruijn32tab), ("math/bits.deBruijn64tab", laid_math_bits_deBruijn64tab), ("internal/strconv.uint64pow10", laid_internal_strconv_uint64pow10), ("unicode/utf8.acceptRanges", laid_unicode_utf8_acceptRanges), ("unicode/utf8.first", laid_unicode_utf8_first)] }
def ConstraintHoldsSaid : Prop := constraintHoldsRow.holds Tryz.pinned (OpenSpec.ofChange constraintHoldsSpec)

/-- ITS FALSE NEIGHBOUR: 'it returns false'. Refute it at one input. -/
def constraintHoldsWrong : ChangeSpec := { name := "constraintHolds", fn := fun _ => fun
  | [d1, d2] => { results := [.lit (.bool false)], args := [d1, d2] }
  | _ => none }
def ConstraintHoldsWrongFalsely : Prop := constraintHoldsRow.holds Tryz.pinned (OpenSpec.ofChange constraintHoldsWrong)

/-- 'sealringlaw36.ConstraintDescribed': WHATEVER THE INPUT: true; the input reads as it did. -/
def constraintDescribedSpec : ChangeSpec := { name := "constraintDescribed", fn := fun _ => fun
  | [d1, d2] => { results := [.lit (.bool true)], args := [d1, d2] }
  | _ => none }
def constraintDescribedRow : OpenClaim := { program := "ytimogkojklpdnaagreatdoor", sum := "fe2b46a07f94f3c816af1b46ec1e98d02bca67f85e220683a24d75dda45c5671", func := "sealring/sealringlaw36.ConstraintDescribed", spec := "constraintDescribed", inPlace := ["internal/bytealg.abigen_runtime_cmpstring", "slices.overlaps[sealring/api.Power]", "slices.overlaps[sealring/api.Term]", "internal/bytealg.IndexByteString", "internal/bytealg.IndexString"], unfollowed := true, recurses := true, named := ["internal/strconv.uint64pow10", "math/bits.deBruijn32tab", "math/bits.deBruijn64tab", "unicode/utf8.first", "unicode/utf8.acceptRanges", "internal/bytealg.MaxLen"], apart := false, laid := [("math/bits.deBruijn32tab", laid_math_bits_deBruijn32tab), ("math/bits.deBruijn64tab", laid_math_bits_deBruijn64tab), ("internal/strconv.uint64pow10", laid_internal_strconv_uint64pow10), ("unicode/utf8.acceptRanges", laid_unicode_utf8_acceptRanges), ("unicode/utf8.first", laid_unicode_utf8_first)] }
def ConstraintDescribedSaid : Prop := constraintDescribedRow.holds Tryz.pinned (OpenSpec.ofChange constraintDescribedSpec)

/-- ITS FALSE NEIGHBOUR: 'it returns false'. Refute it at one input. -/
def constraintDescribedWrong : ChangeSpec := { name := "constraintDescribed", fn := fun _ => fun
  | [d1, d2] => { results := [.lit (.bool false)], args := [d1, d2] }
  | _ => none }
def ConstraintDescribedWrongFalsely : Prop := constraintDescribedRow.holds Tryz.pinned (OpenSpec.ofChange constraintDescribedWrong)

/-- 'sealringlaw36.ConstraintTrivial': WHATEVER THE INPUT: true; the input reads as it did. -/
def constraintTrivialSpec : ChangeSpec := { name := "constraintTrivial", fn := fun _ => fun
  | [d1, d2] => { results := [.lit (.bool true)], args := [d1, d2] }
  | _ => none }
def constraintTrivialRow : OpenClaim := { program := "ytimogkojklpdnaagreatdoor", sum := "fe2b46a07f94f3c816af1b46ec1e98d02bca67f85e220683a24d75dda45c5671", func := "sealring/sealringlaw36.ConstraintTrivial", spec := "constraintTrivial", inPlace := ["internal/bytealg.abigen_runtime_cmpstring", "slices.overlaps[sealring/api.Power]", "slices.overlaps[sealring/api.Term]", "internal/bytealg.IndexByteString", "internal/bytealg.IndexString"], unfollowed := true, recurses := true, named := ["internal/strconv.uint64pow10", "math/bits.deBruijn32tab", "math/bits.deBruijn64tab", "unicode/utf8.first", "unicode/utf8.acceptRanges", "internal/bytealg.MaxLen"], apart := false, laid := [("math/bits.deBruijn32tab", laid_math_bits_deBruijn32tab), ("math/bits.deBruijn64tab", laid_math_bits_deBruijn64tab), ("internal/strconv.uint64pow10", laid_internal_strconv_uint64pow10), ("unicode/utf8.acceptRanges", laid_unicode_utf8_acceptRanges), ("unicode/utf8.first", laid_unicode_utf8_first)] }
def ConstraintTrivialSaid : Prop := constraintTrivialRow.holds Tryz.pinned (OpenSpec.ofChange constraintTrivialSpec)

/-- ITS FALSE NEIGHBOUR: 'it returns false'. Refute it at one input. -/
def constraintTrivialWrong : ChangeSpec := { name := "constraintTrivial", fn := fun _ => fun
  | [d1, d2] => { results := [.lit (.bool false)], args := [d1, d2] }
  | _ => none }
def ConstraintTrivialWrongFalsely : Prop := constraintTrivialRow.holds Tryz.pinned (OpenSpec.ofChange constraintTrivialWrong)

/-- 'sealringlaw36.ConstraintDrops': WHATEVER THE INPUT: true; the input reads as it did. -/
def constraintDropsSpec : ChangeSpec := { name := "constraintDrops", fn := fun _ => fun
  | [d1, d2] => { results := [.lit (.bool true)], args := [d1, d2] }
  | _ => none }
def constraintDropsRow : OpenClaim := { program := "ytimogkojklpdnaagreatdoor", sum := "fe2b46a07f94f3c816af1b46ec1e98d02bca67f85e220683a24d75dda45c5671", func := "sealring/sealringlaw36.ConstraintDrops", spec := "constraintDrops", inPlace := ["internal/bytealg.abigen_runtime_cmpstring", "slices.overlaps[sealring/api.Power]", "slices.overlaps[sealring/api.Term]", "internal/bytealg.IndexByteString", "internal/bytealg.IndexString"], unfollowed := true, recurses := true, named := ["internal/strconv.uint64pow10", "math/bits.deBruijn32tab", "math/bits.deBruijn64tab", "unicode/utf8.first", "unicode/utf8.acceptRanges", "internal/bytealg.MaxLen"], apart := false, laid := [("math/bits.deBruijn32tab", laid_math_bits_deBruijn32tab), ("math/bits.deBruijn64tab", laid_math_bits_deBruijn64tab), ("internal/strconv.uint64pow10", laid_internal_strconv_uint64pow10), ("unicode/utf8.acceptRanges", laid_unicode_utf8_acceptRanges), ("unicode/utf8.first", laid_unicode_utf8_first)] }
def ConstraintDropsSaid : Prop := constraintDropsRow.holds Tryz.pinned (OpenSpec.ofChange constraintDropsSpec)

/-- ITS FALSE NEIGHBOUR: 'it returns false'. Refute it at one input. -/
def constraintDropsWrong : ChangeSpec := { name := "constraintDrops", fn := fun _ => fun
  | [d1, d2] => { results := [.lit (.bool false)], args := [d1, d2] }
  | _ => none }
def ConstraintDropsWrongFalsely : Prop := constraintDropsRow.holds Tryz.pinned (OpenSpec.ofChange constraintDropsWrong)

/-- 'sealringlaw36.ConstraintInstance': WHATEVER THE INPUT: true; the input reads as it did. -/
def constraintInstanceSpec : ChangeSpec := { name := "constraintInstance", fn := fun _ => fun
  | [d1, d2] => { results := [.lit (.bool true)], args := [d1, d2] }
  | _ => none }
def constraintInstanceRow : OpenClaim := { program := "ytimogkojklpdnaagreatdoor", sum := "fe2b46a07f94f3c816af1b46ec1e98d02bca67f85e220683a24d75dda45c5671", func := "sealring/sealringlaw36.ConstraintInstance", spec := "constraintInstance", inPlace := ["internal/bytealg.abigen_runtime_cmpstring", "slices.overlaps[sealring/api.Power]", "slices.overlaps[sealring/api.Term]", "internal/bytealg.IndexByteString", "internal/bytealg.IndexString"], unfollowed := true, recurses := true, named := ["internal/strconv.uint64pow10", "math/bits.deBruijn32tab", "math/bits.deBruijn64tab", "unicode/utf8.first", "unicode/utf8.acceptRanges", "internal/bytealg.MaxLen"], loops := true, apart := false, laid := [("math/bits.deBruijn32tab", laid_math_bits_deBruijn32tab), ("math/bits.deBruijn64tab", laid_math_bits_deBruijn64tab), ("internal/strconv.uint64pow10", laid_internal_strconv_uint64pow10), ("unicode/utf8.acceptRanges", laid_unicode_utf8_acceptRanges), ("unicode/utf8.first", laid_unicode_utf8_first)] }
def ConstraintInstanceSaid : Prop := constraintInstanceRow.holds Tryz.pinned (OpenSpec.ofChange constraintInstanceSpec)

/-- ITS FALSE NEIGHBOUR: 'it returns false'. Refute it at one input. -/
def constraintInstanceWrong : ChangeSpec := { name := "constraintInstance", fn := fun _ => fun
  | [d1, d2] => { results := [.lit (.bool false)], args := [d1, d2] }
  | _ => none }
def ConstraintInstanceWrongFalsely : Prop := constraintInstanceRow.holds Tryz.pinned (OpenSpec.ofChange constraintInstanceWrong)

/-- 'sealringlaw36.ConstraintComposed': WHATEVER THE INPUT: true; the input reads as it did. -/
def constraintComposedSpec : ChangeSpec := { name := "constraintComposed", fn := fun _ => fun
  | [d1, d2, d3] => { results := [.lit (.bool true)], args := [d1, d2, d3] }
  | _ => none }
def constraintComposedRow : OpenClaim := { program := "ytimogkojklpdnaagreatdoor", sum := "fe2b46a07f94f3c816af1b46ec1e98d02bca67f85e220683a24d75dda45c5671", func := "sealring/sealringlaw36.ConstraintComposed", spec := "constraintComposed", inPlace := ["internal/bytealg.abigen_runtime_cmpstring", "slices.overlaps[sealring/api.Power]", "slices.overlaps[sealring/api.Term]", "internal/bytealg.IndexByteString", "internal/bytealg.IndexString"], unfollowed := true, recurses := true, named := ["internal/strconv.uint64pow10", "math/bits.deBruijn32tab", "math/bits.deBruijn64tab", "unicode/utf8.first", "unicode/utf8.acceptRanges", "internal/bytealg.MaxLen"], apart := false, laid := [("math/bits.deBruijn32tab", laid_math_bits_deBruijn32tab), ("math/bits.deBruijn64tab", laid_math_bits_deBruijn64tab), ("internal/strconv.uint64pow10", laid_internal_strconv_uint64pow10), ("unicode/utf8.acceptRanges", laid_unicode_utf8_acceptRanges), ("unicode/utf8.first", laid_unicode_utf8_first)] }
def ConstraintComposedSaid : Prop := constraintComposedRow.holds Tryz.pinned (OpenSpec.ofChange constraintComposedSpec)

/-- ITS FALSE NEIGHBOUR: 'it returns false'. Refute it at one input. -/
def constraintComposedWrong : ChangeSpec := { name := "constraintComposed", fn := fun _ => fun
  | [d1, d2, d3] => { results := [.lit (.bool false)], args := [d1, d2, d3] }
  | _ => none }
def ConstraintComposedWrongFalsely : Prop := constraintComposedRow.holds Tryz.pinned (OpenSpec.ofChange constraintComposedWrong)

/-- 'sealringlaw36.ConstraintValid': WHATEVER THE INPUT: true; the input reads as it did. -/
def constraintValidSpec : ChangeSpec := { name := "constraintValid", fn := fun _ => fun
  | [d] => { results := [.lit (.bool true)], args := [d] }
  | _ => none }
def constraintValidRow : OpenClaim := { program := "ytimogkojklpdnaagreatdoor", sum := "fe2b46a07f94f3c816af1b46ec1e98d02bca67f85e220683a24d75dda45c5671", func := "sealring/sealringlaw36.ConstraintValid", spec := "constraintValid", inPlace := ["internal/bytealg.abigen_runtime_cmpstring", "slices.overlaps[sealring/api.Power]", "slices.overlaps[sealring/api.Term]", "internal/bytealg.IndexByteString", "internal/bytealg.IndexString", "internal/abi.NoEscape", "internal/bytealg.MakeNoZero"], unfollowed := true, recurses := true, named := ["internal/strconv.uint64pow10", "math/bits.deBruijn32tab", "math/bits.deBruijn64tab", "unicode/utf8.first", "unicode/utf8.acceptRanges", "sealring/term.words", "internal/bytealg.MaxLen"], loops := true, apart := false, laid := [("math/bits.deBruijn32tab", laid_math_bits_deBruijn32tab), ("math/bits.deBruijn64tab", laid_math_bits_deBruijn64tab), ("internal/strconv.uint64pow10", laid_internal_strconv_uint64pow10), ("unicode/utf8.acceptRanges", laid_unicode_utf8_acceptRanges), ("sealring/term.words", laid_sealring_term_words), ("unicode/utf8.first", laid_unicode_utf8_first)] }
def ConstraintValidSaid : Prop := constraintValidRow.holds Tryz.pinned (OpenSpec.ofChange constraintValidSpec)

/-- ITS FALSE NEIGHBOUR: 'it returns false'. Refute it at one input. -/
def constraintValidWrong : ChangeSpec := { name := "constraintValid", fn := fun _ => fun
  | [d] => { results := [.lit (.bool false)], args := [d] }
  | _ => none }
def ConstraintValidWrongFalsely : Prop := constraintValidRow.holds Tryz.pinned (OpenSpec.ofChange constraintValidWrong)

/-- 'sealringlaw36.ConstraintGeneric': WHATEVER THE INPUT: true; the input reads as it did. -/
def constraintGenericSpec : ChangeSpec := { name := "constraintGeneric", fn := fun _ => fun
  | [d1, d2] => { results := [.lit (.bool true)], args := [d1, d2] }
  | _ => none }
def constraintGenericRow : OpenClaim := { program := "ytimogkojklpdnaagreatdoor", sum := "fe2b46a07f94f3c816af1b46ec1e98d02bca67f85e220683a24d75dda45c5671", func := "sealring/sealringlaw36.ConstraintGeneric", spec := "constraintGeneric", inPlace := ["internal/bytealg.abigen_runtime_cmpstring", "slices.overlaps[sealring/api.Power]", "slices.overlaps[sealring/api.Term]", "internal/bytealg.IndexByteString", "internal/bytealg.IndexString"], unfollowed := true, recurses := true, named := ["internal/strconv.uint64pow10", "math/bits.deBruijn32tab", "math/bits.deBruijn64tab", "unicode/utf8.first", "unicode/utf8.acceptRanges", "internal/bytealg.MaxLen"], apart := false, laid := [("math/bits.deBruijn32tab", laid_math_bits_deBruijn32tab), ("math/bits.deBruijn64tab", laid_math_bits_deBruijn64tab), ("internal/strconv.uint64pow10", laid_internal_strconv_uint64pow10), ("unicode/utf8.acceptRanges", laid_unicode_utf8_acceptRanges), ("unicode/utf8.first", laid_unicode_utf8_first)] }
def ConstraintGenericSaid : Prop := constraintGenericRow.holds Tryz.pinned (OpenSpec.ofChange constraintGenericSpec)

/-- ITS FALSE NEIGHBOUR: 'it returns false'. Refute it at one input. -/
def constraintGenericWrong : ChangeSpec := { name := "constraintGeneric", fn := fun _ => fun
  | [d1, d2] => { results := [.lit (.bool false)], args := [d1, d2] }
  | _ => none }
def ConstraintGenericWrongFalsely : Prop := constraintGenericRow.holds Tryz.pinned (OpenSpec.ofChange constraintGenericWrong)

/- THE SECOND FORM. 'bulk': how many values and letters a reading holds, each counted each time it is reached (what is shared counts as often as it is met; a slice's spare places count too). A statement '..UptoSaid' is the law's where the arguments, and the package variables that the reading takes, are together of bulk at most 1048576: NARROWER than '..Said'. Prove '..Said' where nothing that the law and all that it calls make is longer than what came in: it says more and counts as full. Else prove '..UptoSaid'. A law counts once. -/
mutual
def uptoBulk {H : Type} : DataW H → Nat
  | .lit (.string bytes) => bytes.length + 1
  | .lit _ => 1
  | .nil => 1
  | .ptr d => uptoBulk d + 1
  | .slice elems spare => uptoBulkAll elems + uptoBulkAll spare + 1
  | .agg parts => uptoBulkAll parts + 1
  | .iface _ d => uptoBulk d + 1
  | .map entries => uptoBulkEntries entries + 1
  | .held _ => 1
def uptoBulkAll {H : Type} : List (DataW H) → Nat
  | [] => 0
  | d :: r => uptoBulk d + uptoBulkAll r
def uptoBulkEntries {H : Type} : List (Lit × DataW H) → Nat
  | [] => 0
  | x :: r => uptoBulkEntry x + uptoBulkEntries r
def uptoBulkEntry {H : Type} : Lit × DataW H → Nat
  | (.string bytes, d) => bytes.length + uptoBulk d + 1
  | (_, d) => uptoBulk d + 1
 end
def uptoSmall : (H : Type) → List (DataW H) → Bool := fun _ ds => decide (uptoBulkAll ds ≤ 1048576)
def OpenSpec.upto (s : _root_.Go.ChangeSpec) : _root_.Go.OpenSpec := { _root_.Go.OpenSpec.ofChange s with cond := some uptoSmall }

/-- 'sealringlaw36.ConstraintHolds', WHERE WHAT IT READS IS OF BULK AT MOST 1048576: true; the input reads as it did. -/
def constraintHoldsUptoRow : OpenClaim := { program := "ytimogkojklpdnaagreatdoor", sum := "fe2b46a07f94f3c816af1b46ec1e98d02bca67f85e220683a24d75dda45c5671", func := "sealring/sealringlaw36.ConstraintHolds", spec := "constraintHolds", inPlace := ["internal/bytealg.abigen_runtime_cmpstring", "slices.overlaps[sealring/api.Power]", "slices.overlaps[sealring/api.Term]", "internal/bytealg.IndexByteString", "internal/bytealg.IndexString"], unfollowed := true, recurses := true, named := ["internal/strconv.uint64pow10", "math/bits.deBruijn32tab", "math/bits.deBruijn64tab", "unicode/utf8.first", "unicode/utf8.acceptRanges", "internal/bytealg.MaxLen"], loops := true, apart := false, laid := [("math/bits.deBruijn32tab", laid_math_bits_deBruijn32tab), ("math/bits.deBruijn64tab", laid_math_bits_deBruijn64tab), ("internal/strconv.uint64pow10", laid_internal_strconv_uint64pow10), ("unicode/utf8.acceptRanges", laid_unicode_utf8_acceptRanges), ("unicode/utf8.first", laid_unicode_utf8_first)], narrowed := true }
def ConstraintHoldsUptoSaid : Prop := constraintHoldsUptoRow.holds Tryz.pinned (OpenSpec.upto constraintHoldsSpec)

/-- 'sealringlaw36.ConstraintDescribed', WHERE WHAT IT READS IS OF BULK AT MOST 1048576: true; the input reads as it did. -/
def constraintDescribedUptoRow : OpenClaim := { program := "ytimogkojklpdnaagreatdoor", sum := "fe2b46a07f94f3c816af1b46ec1e98d02bca67f85e220683a24d75dda45c5671", func := "sealring/sealringlaw36.ConstraintDescribed", spec := "constraintDescribed", inPlace := ["internal/bytealg.abigen_runtime_cmpstring", "slices.overlaps[sealring/api.Power]", "slices.overlaps[sealring/api.Term]", "internal/bytealg.IndexByteString", "internal/bytealg.IndexString"], unfollowed := true, recurses := true, named := ["internal/strconv.uint64pow10", "math/bits.deBruijn32tab", "math/bits.deBruijn64tab", "unicode/utf8.first", "unicode/utf8.acceptRanges", "internal/bytealg.MaxLen"], apart := false, laid := [("math/bits.deBruijn32tab", laid_math_bits_deBruijn32tab), ("math/bits.deBruijn64tab", laid_math_bits_deBruijn64tab), ("internal/strconv.uint64pow10", laid_internal_strconv_uint64pow10), ("unicode/utf8.acceptRanges", laid_unicode_utf8_acceptRanges), ("unicode/utf8.first", laid_unicode_utf8_first)], narrowed := true }
def ConstraintDescribedUptoSaid : Prop := constraintDescribedUptoRow.holds Tryz.pinned (OpenSpec.upto constraintDescribedSpec)

/-- 'sealringlaw36.ConstraintTrivial', WHERE WHAT IT READS IS OF BULK AT MOST 1048576: true; the input reads as it did. -/
def constraintTrivialUptoRow : OpenClaim := { program := "ytimogkojklpdnaagreatdoor", sum := "fe2b46a07f94f3c816af1b46ec1e98d02bca67f85e220683a24d75dda45c5671", func := "sealring/sealringlaw36.ConstraintTrivial", spec := "constraintTrivial", inPlace := ["internal/bytealg.abigen_runtime_cmpstring", "slices.overlaps[sealring/api.Power]", "slices.overlaps[sealring/api.Term]", "internal/bytealg.IndexByteString", "internal/bytealg.IndexString"], unfollowed := true, recurses := true, named := ["internal/strconv.uint64pow10", "math/bits.deBruijn32tab", "math/bits.deBruijn64tab", "unicode/utf8.first", "unicode/utf8.acceptRanges", "internal/bytealg.MaxLen"], apart := false, laid := [("math/bits.deBruijn32tab", laid_math_bits_deBruijn32tab), ("math/bits.deBruijn64tab", laid_math_bits_deBruijn64tab), ("internal/strconv.uint64pow10", laid_internal_strconv_uint64pow10), ("unicode/utf8.acceptRanges", laid_unicode_utf8_acceptRanges), ("unicode/utf8.first", laid_unicode_utf8_first)], narrowed := true }
def ConstraintTrivialUptoSaid : Prop := constraintTrivialUptoRow.holds Tryz.pinned (OpenSpec.upto constraintTrivialSpec)

/-- 'sealringlaw36.ConstraintDrops', WHERE WHAT IT READS IS OF BULK AT MOST 1048576: true; the input reads as it did. -/
def constraintDropsUptoRow : OpenClaim := { program := "ytimogkojklpdnaagreatdoor", sum := "fe2b46a07f94f3c816af1b46ec1e98d02bca67f85e220683a24d75dda45c5671", func := "sealring/sealringlaw36.ConstraintDrops", spec := "constraintDrops", inPlace := ["internal/bytealg.abigen_runtime_cmpstring", "slices.overlaps[sealring/api.Power]", "slices.overlaps[sealring/api.Term]", "internal/bytealg.IndexByteString", "internal/bytealg.IndexString"], unfollowed := true, recurses := true, named := ["internal/strconv.uint64pow10", "math/bits.deBruijn32tab", "math/bits.deBruijn64tab", "unicode/utf8.first", "unicode/utf8.acceptRanges", "internal/bytealg.MaxLen"], apart := false, laid := [("math/bits.deBruijn32tab", laid_math_bits_deBruijn32tab), ("math/bits.deBruijn64tab", laid_math_bits_deBruijn64tab), ("internal/strconv.uint64pow10", laid_internal_strconv_uint64pow10), ("unicode/utf8.acceptRanges", laid_unicode_utf8_acceptRanges), ("unicode/utf8.first", laid_unicode_utf8_first)], narrowed := true }
def ConstraintDropsUptoSaid : Prop := constraintDropsUptoRow.holds Tryz.pinned (OpenSpec.upto constraintDropsSpec)

/-- 'sealringlaw36.ConstraintInstance', WHERE WHAT IT READS IS OF BULK AT MOST 1048576: true; the input reads as it did. -/
def constraintInstanceUptoRow : OpenClaim := { program := "ytimogkojklpdnaagreatdoor", sum := "fe2b46a07f94f3c816af1b46ec1e98d02bca67f85e220683a24d75dda45c5671", func := "sealring/sealringlaw36.ConstraintInstance", spec := "constraintInstance", inPlace := ["internal/bytealg.abigen_runtime_cmpstring", "slices.overlaps[sealring/api.Power]", "slices.overlaps[sealring/api.Term]", "internal/bytealg.IndexByteString", "internal/bytealg.IndexString"], unfollowed := true, recurses := true, named := ["internal/strconv.uint64pow10", "math/bits.deBruijn32tab", "math/bits.deBruijn64tab", "unicode/utf8.first", "unicode/utf8.acceptRanges", "internal/bytealg.MaxLen"], loops := true, apart := false, laid := [("math/bits.deBruijn32tab", laid_math_bits_deBruijn32tab), ("math/bits.deBruijn64tab", laid_math_bits_deBruijn64tab), ("internal/strconv.uint64pow10", laid_internal_strconv_uint64pow10), ("unicode/utf8.acceptRanges", laid_unicode_utf8_acceptRanges), ("unicode/utf8.first", laid_unicode_utf8_first)], narrowed := true }
def ConstraintInstanceUptoSaid : Prop := constraintInstanceUptoRow.holds Tryz.pinned (OpenSpec.upto constraintInstanceSpec)

/-- 'sealringlaw36.ConstraintComposed', WHERE WHAT IT READS IS OF BULK AT MOST 1048576: true; the input reads as it did. -/
def constraintComposedUptoRow : OpenClaim := { program := "ytimogkojklpdnaagreatdoor", sum := "fe2b46a07f94f3c816af1b46ec1e98d02bca67f85e220683a24d75dda45c5671", func := "sealring/sealringlaw36.ConstraintComposed", spec := "constraintComposed", inPlace := ["internal/bytealg.abigen_runtime_cmpstring", "slices.overlaps[sealring/api.Power]", "slices.overlaps[sealring/api.Term]", "internal/bytealg.IndexByteString", "internal/bytealg.IndexString"], unfollowed := true, recurses := true, named := ["internal/strconv.uint64pow10", "math/bits.deBruijn32tab", "math/bits.deBruijn64tab", "unicode/utf8.first", "unicode/utf8.acceptRanges", "internal/bytealg.MaxLen"], apart := false, laid := [("math/bits.deBruijn32tab", laid_math_bits_deBruijn32tab), ("math/bits.deBruijn64tab", laid_math_bits_deBruijn64tab), ("internal/strconv.uint64pow10", laid_internal_strconv_uint64pow10), ("unicode/utf8.acceptRanges", laid_unicode_utf8_acceptRanges), ("unicode/utf8.first", laid_unicode_utf8_first)], narrowed := true }
def ConstraintComposedUptoSaid : Prop := constraintComposedUptoRow.holds Tryz.pinned (OpenSpec.upto constraintComposedSpec)

/-- 'sealringlaw36.ConstraintValid', WHERE WHAT IT READS IS OF BULK AT MOST 1048576: true; the input reads as it did. -/
def constraintValidUptoRow : OpenClaim := { program := "ytimogkojklpdnaagreatdoor", sum := "fe2b46a07f94f3c816af1b46ec1e98d02bca67f85e220683a24d75dda45c5671", func := "sealring/sealringlaw36.ConstraintValid", spec := "constraintValid", inPlace := ["internal/bytealg.abigen_runtime_cmpstring", "slices.overlaps[sealring/api.Power]", "slices.overlaps[sealring/api.Term]", "internal/bytealg.IndexByteString", "internal/bytealg.IndexString", "internal/abi.NoEscape", "internal/bytealg.MakeNoZero"], unfollowed := true, recurses := true, named := ["internal/strconv.uint64pow10", "math/bits.deBruijn32tab", "math/bits.deBruijn64tab", "unicode/utf8.first", "unicode/utf8.acceptRanges", "sealring/term.words", "internal/bytealg.MaxLen"], loops := true, apart := false, laid := [("math/bits.deBruijn32tab", laid_math_bits_deBruijn32tab), ("math/bits.deBruijn64tab", laid_math_bits_deBruijn64tab), ("internal/strconv.uint64pow10", laid_internal_strconv_uint64pow10), ("unicode/utf8.acceptRanges", laid_unicode_utf8_acceptRanges), ("sealring/term.words", laid_sealring_term_words), ("unicode/utf8.first", laid_unicode_utf8_first)], narrowed := true }
def ConstraintValidUptoSaid : Prop := constraintValidUptoRow.holds Tryz.pinned (OpenSpec.upto constraintValidSpec)

/-- 'sealringlaw36.ConstraintGeneric', WHERE WHAT IT READS IS OF BULK AT MOST 1048576: true; the input reads as it did. -/
def constraintGenericUptoRow : OpenClaim := { program := "ytimogkojklpdnaagreatdoor", sum := "fe2b46a07f94f3c816af1b46ec1e98d02bca67f85e220683a24d75dda45c5671", func := "sealring/sealringlaw36.ConstraintGeneric", spec := "constraintGeneric", inPlace := ["internal/bytealg.abigen_runtime_cmpstring", "slices.overlaps[sealring/api.Power]", "slices.overlaps[sealring/api.Term]", "internal/bytealg.IndexByteString", "internal/bytealg.IndexString"], unfollowed := true, recurses := true, named := ["internal/strconv.uint64pow10", "math/bits.deBruijn32tab", "math/bits.deBruijn64tab", "unicode/utf8.first", "unicode/utf8.acceptRanges", "internal/bytealg.MaxLen"], apart := false, laid := [("math/bits.deBruijn32tab", laid_math_bits_deBruijn32tab), ("math/bits.deBruijn64tab", laid_math_bits_deBruijn64tab), ("internal/strconv.uint64pow10", laid_internal_strconv_uint64pow10), ("unicode/utf8.acceptRanges", laid_unicode_utf8_acceptRanges), ("unicode/utf8.first", laid_unicode_utf8_first)], narrowed := true }
def ConstraintGenericUptoSaid : Prop := constraintGenericUptoRow.holds Tryz.pinned (OpenSpec.upto constraintGenericSpec)

end Rows
end Go.Proofs.YtimogkojklpdnaaGreatDoor
