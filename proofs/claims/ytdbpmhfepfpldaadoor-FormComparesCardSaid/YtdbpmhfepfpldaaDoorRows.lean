/-
  NARROWER THAN 'FOR EVERY INPUT', by the rows' own cells (each row's printed sentence says how): TypingTexts: loops, laid · FormBasics: laid · FormTexts: laid · FormSums: laid · FormCanonicals: laid · FormUnique: laid · FormCompares: laid · FormSubstitutes: laid.
  DERIVED. THE GIVEN ROWS OF THIS SEAT. 8 by the template 'for every input the law returns true; each argument reads behind the call as it read before'; 0 by the template 'total and deterministic' (their statements: YtdbpmhfepfpldaaDoorTotals.lean).
  GIVEN WITH THE SEED: the statements are not yours to turn. If you find one false, say at which input.
  Laid BY PROGRAM, IN A SANDBOX (cutbox-rows.mjs): the forced cells as the released guide's own fill.sh prints them over the translation 18f9a43cd7499b3a… (all of the seat's roots in one cut). By AI agents, Wed Nov 11 2026. No macro, syntax, notation, axiom, sorry.
-/
import Derived.Test.YtdbpmhfepfpldaaDoorChecked
import GoSem.Claim
import GoSem.ClaimJoined
import GoSem.ClaimMapViews
import Derived.JoinedTies
import Derived.KernelRfl
namespace Go.Proofs.YtdbpmhfepfpldaaDoor
/- THE CELL 'sum', in the pinned program and in every row, IS THE sha256 OF THE DUMP (.gsa) THAT YtdbpmhfepfpldaaDoorProg.lean LOADS. Nothing in Lean hashes anything: it is a label: what it is worth is what the hold of that sum in a sandbox is worth. -/
noncomputable def Tryd.pinned : Pinned := { name := "ytdbpmhfepfpldaadoor", sum := "18f9a43cd7499b3ab7375506d39386d379ef9a7b79b1b54607f83a9edcafeedb", checked := Tryd.checked }
namespace Rows
def none {H : Type} : Left H := { results := [], args := [] }

/- WHAT THE LISTED PACKAGE-LEVEL VARIABLES READ AS WHEN THE CALL BEGINS. Each datum BY PROGRAM (the guide's laid-datum.mjs) off the statement by which the dump's own 'gosem.cut.vars' lays the variable. In a bare row this is a premise. The card (YtdbpmhfepfpldaaDoorCards.lean) ties it to the program's text. -/
def laid_math_bits_deBruijn32tab {H : Type} : DataW H := .agg [.lit (.int .u8 0), .lit (.int .u8 1), .lit (.int .u8 28), .lit (.int .u8 2), .lit (.int .u8 29), .lit (.int .u8 14), .lit (.int .u8 24), .lit (.int .u8 3), .lit (.int .u8 30), .lit (.int .u8 22), .lit (.int .u8 20), .lit (.int .u8 15), .lit (.int .u8 25), .lit (.int .u8 17), .lit (.int .u8 4), .lit (.int .u8 8), .lit (.int .u8 31), .lit (.int .u8 27), .lit (.int .u8 13), .lit (.int .u8 23), .lit (.int .u8 21), .lit (.int .u8 19), .lit (.int .u8 16), .lit (.int .u8 7), .lit (.int .u8 26), .lit (.int .u8 12), .lit (.int .u8 18), .lit (.int .u8 6), .lit (.int .u8 11), .lit (.int .u8 5), .lit (.int .u8 10), .lit (.int .u8 9)]
def laid_math_bits_deBruijn64tab {H : Type} : DataW H := .agg [.lit (.int .u8 0), .lit (.int .u8 1), .lit (.int .u8 56), .lit (.int .u8 2), .lit (.int .u8 57), .lit (.int .u8 49), .lit (.int .u8 28), .lit (.int .u8 3), .lit (.int .u8 61), .lit (.int .u8 58), .lit (.int .u8 42), .lit (.int .u8 50), .lit (.int .u8 38), .lit (.int .u8 29), .lit (.int .u8 17), .lit (.int .u8 4), .lit (.int .u8 62), .lit (.int .u8 47), .lit (.int .u8 59), .lit (.int .u8 36), .lit (.int .u8 45), .lit (.int .u8 43), .lit (.int .u8 51), .lit (.int .u8 22), .lit (.int .u8 53), .lit (.int .u8 39), .lit (.int .u8 33), .lit (.int .u8 30), .lit (.int .u8 24), .lit (.int .u8 18), .lit (.int .u8 12), .lit (.int .u8 5), .lit (.int .u8 63), .lit (.int .u8 55), .lit (.int .u8 48), .lit (.int .u8 27), .lit (.int .u8 60), .lit (.int .u8 41), .lit (.int .u8 37), .lit (.int .u8 16), .lit (.int .u8 46), .lit (.int .u8 35), .lit (.int .u8 44), .lit (.int .u8 21), .lit (.int .u8 52), .lit (.int .u8 32), .lit (.int .u8 23), .lit (.int .u8 11), .lit (.int .u8 54), .lit (.int .u8 26), .lit (.int .u8 40), .lit (.int .u8 15), .lit (.int .u8 34), .lit (.int .u8 20), .lit (.int .u8 31), .lit (.int .u8 10), .lit (.int .u8 25), .lit (.int .u8 14), .lit (.int .u8 19), .lit (.int .u8 9), .lit (.int .u8 13), .lit (.int .u8 8), .lit (.int .u8 7), .lit (.int .u8 6)]
def laid_internal_strconv_uint64pow10 {H : Type} : DataW H := .agg [.lit (.int .u64 1), .lit (.int .u64 10), .lit (.int .u64 100), .lit (.int .u64 1000), .lit (.int .u64 10000), .lit (.int .u64 100000), .lit (.int .u64 1000000), .lit (.int .u64 10000000), .lit (.int .u64 100000000), .lit (.int .u64 1000000000), .lit (.int .u64 10000000000), .lit (.int .u64 100000000000), .lit (.int .u64 1000000000000), .lit (.int .u64 10000000000000), .lit (.int .u64 100000000000000), .lit (.int .u64 1000000000000000), .lit (.int .u64 10000000000000000), .lit (.int .u64 100000000000000000), .lit (.int .u64 1000000000000000000), .lit (.int .u64 10000000000000000000)]

/-- 'amortcostlaw06.TypingTexts': WHATEVER THE INPUT: true; the input reads as it did. -/
def typingTextsSpec : ChangeSpec := { name := "typingTexts", fn := fun _ => fun
  | [d1, d2, d3] => { results := [.lit (.bool true)], args := [d1, d2, d3] }
  | _ => none }
def typingTextsRow : OpenClaim := { program := "ytdbpmhfepfpldaadoor", sum := "18f9a43cd7499b3ab7375506d39386d379ef9a7b79b1b54607f83a9edcafeedb", func := "amortcost/amortcostlaw06.TypingTexts", spec := "typingTexts", inPlace := ["internal/abi.NoEscape", "internal/bytealg.MakeNoZero"], unfollowed := true, recurses := true, named := ["internal/strconv.uint64pow10", "math/bits.deBruijn32tab", "math/bits.deBruijn64tab"], loops := true, apart := false, laid := [("math/bits.deBruijn32tab", laid_math_bits_deBruijn32tab), ("math/bits.deBruijn64tab", laid_math_bits_deBruijn64tab), ("internal/strconv.uint64pow10", laid_internal_strconv_uint64pow10)] }
def TypingTextsSaid : Prop := typingTextsRow.holds Tryd.pinned (OpenSpec.ofChange typingTextsSpec)

/-- ITS FALSE NEIGHBOUR: 'it returns false'. Refute it at one input. -/
def typingTextsWrong : ChangeSpec := { name := "typingTexts", fn := fun _ => fun
  | [d1, d2, d3] => { results := [.lit (.bool false)], args := [d1, d2, d3] }
  | _ => none }
def TypingTextsWrongFalsely : Prop := typingTextsRow.holds Tryd.pinned (OpenSpec.ofChange typingTextsWrong)

/-- 'amortcostlaw19.FormBasics': WHATEVER THE INPUT: true; the input reads as it did. -/
def formBasicsSpec : ChangeSpec := { name := "formBasics", fn := fun _ => fun
  | [d1, d2] => { results := [.lit (.bool true)], args := [d1, d2] }
  | _ => none }
def formBasicsRow : OpenClaim := { program := "ytdbpmhfepfpldaadoor", sum := "18f9a43cd7499b3ab7375506d39386d379ef9a7b79b1b54607f83a9edcafeedb", func := "amortcost/amortcostlaw19.FormBasics", spec := "formBasics", inPlace := ["internal/abi.NoEscape"], unfollowed := true, recurses := true, named := ["internal/strconv.uint64pow10", "math/bits.deBruijn32tab", "math/bits.deBruijn64tab"], apart := false, laid := [("math/bits.deBruijn32tab", laid_math_bits_deBruijn32tab), ("math/bits.deBruijn64tab", laid_math_bits_deBruijn64tab), ("internal/strconv.uint64pow10", laid_internal_strconv_uint64pow10)] }
def FormBasicsSaid : Prop := formBasicsRow.holds Tryd.pinned (OpenSpec.ofChange formBasicsSpec)

/-- ITS FALSE NEIGHBOUR: 'it returns false'. Refute it at one input. -/
def formBasicsWrong : ChangeSpec := { name := "formBasics", fn := fun _ => fun
  | [d1, d2] => { results := [.lit (.bool false)], args := [d1, d2] }
  | _ => none }
def FormBasicsWrongFalsely : Prop := formBasicsRow.holds Tryd.pinned (OpenSpec.ofChange formBasicsWrong)

/-- 'amortcostlaw19.FormTexts': WHATEVER THE INPUT: true; the input reads as it did. -/
def formTextsSpec : ChangeSpec := { name := "formTexts", fn := fun _ => fun
  | [d1, d2] => { results := [.lit (.bool true)], args := [d1, d2] }
  | _ => none }
def formTextsRow : OpenClaim := { program := "ytdbpmhfepfpldaadoor", sum := "18f9a43cd7499b3ab7375506d39386d379ef9a7b79b1b54607f83a9edcafeedb", func := "amortcost/amortcostlaw19.FormTexts", spec := "formTexts", inPlace := ["internal/abi.NoEscape"], unfollowed := true, recurses := true, named := ["internal/strconv.uint64pow10", "math/bits.deBruijn32tab", "math/bits.deBruijn64tab"], apart := false, laid := [("math/bits.deBruijn32tab", laid_math_bits_deBruijn32tab), ("math/bits.deBruijn64tab", laid_math_bits_deBruijn64tab), ("internal/strconv.uint64pow10", laid_internal_strconv_uint64pow10)] }
def FormTextsSaid : Prop := formTextsRow.holds Tryd.pinned (OpenSpec.ofChange formTextsSpec)

/-- ITS FALSE NEIGHBOUR: 'it returns false'. Refute it at one input. -/
def formTextsWrong : ChangeSpec := { name := "formTexts", fn := fun _ => fun
  | [d1, d2] => { results := [.lit (.bool false)], args := [d1, d2] }
  | _ => none }
def FormTextsWrongFalsely : Prop := formTextsRow.holds Tryd.pinned (OpenSpec.ofChange formTextsWrong)

/-- 'amortcostlaw19.FormSums': WHATEVER THE INPUT: true; the input reads as it did. -/
def formSumsSpec : ChangeSpec := { name := "formSums", fn := fun _ => fun
  | [d1, d2, d3] => { results := [.lit (.bool true)], args := [d1, d2, d3] }
  | _ => none }
def formSumsRow : OpenClaim := { program := "ytdbpmhfepfpldaadoor", sum := "18f9a43cd7499b3ab7375506d39386d379ef9a7b79b1b54607f83a9edcafeedb", func := "amortcost/amortcostlaw19.FormSums", spec := "formSums", inPlace := ["internal/abi.NoEscape"], unfollowed := true, recurses := true, named := ["internal/strconv.uint64pow10", "math/bits.deBruijn32tab", "math/bits.deBruijn64tab"], apart := false, laid := [("math/bits.deBruijn32tab", laid_math_bits_deBruijn32tab), ("math/bits.deBruijn64tab", laid_math_bits_deBruijn64tab), ("internal/strconv.uint64pow10", laid_internal_strconv_uint64pow10)] }
def FormSumsSaid : Prop := formSumsRow.holds Tryd.pinned (OpenSpec.ofChange formSumsSpec)

/-- ITS FALSE NEIGHBOUR: 'it returns false'. Refute it at one input. -/
def formSumsWrong : ChangeSpec := { name := "formSums", fn := fun _ => fun
  | [d1, d2, d3] => { results := [.lit (.bool false)], args := [d1, d2, d3] }
  | _ => none }
def FormSumsWrongFalsely : Prop := formSumsRow.holds Tryd.pinned (OpenSpec.ofChange formSumsWrong)

/-- 'amortcostlaw19.FormCanonicals': WHATEVER THE INPUT: true; the input reads as it did. -/
def formCanonicalsSpec : ChangeSpec := { name := "formCanonicals", fn := fun _ => fun
  | [d] => { results := [.lit (.bool true)], args := [d] }
  | _ => none }
def formCanonicalsRow : OpenClaim := { program := "ytdbpmhfepfpldaadoor", sum := "18f9a43cd7499b3ab7375506d39386d379ef9a7b79b1b54607f83a9edcafeedb", func := "amortcost/amortcostlaw19.FormCanonicals", spec := "formCanonicals", inPlace := ["internal/abi.NoEscape"], unfollowed := true, recurses := true, named := ["internal/strconv.uint64pow10", "math/bits.deBruijn32tab", "math/bits.deBruijn64tab"], apart := false, laid := [("math/bits.deBruijn32tab", laid_math_bits_deBruijn32tab), ("math/bits.deBruijn64tab", laid_math_bits_deBruijn64tab), ("internal/strconv.uint64pow10", laid_internal_strconv_uint64pow10)] }
def FormCanonicalsSaid : Prop := formCanonicalsRow.holds Tryd.pinned (OpenSpec.ofChange formCanonicalsSpec)

/-- ITS FALSE NEIGHBOUR: 'it returns false'. Refute it at one input. -/
def formCanonicalsWrong : ChangeSpec := { name := "formCanonicals", fn := fun _ => fun
  | [d] => { results := [.lit (.bool false)], args := [d] }
  | _ => none }
def FormCanonicalsWrongFalsely : Prop := formCanonicalsRow.holds Tryd.pinned (OpenSpec.ofChange formCanonicalsWrong)

/-- 'amortcostlaw19.FormUnique': WHATEVER THE INPUT: true; the input reads as it did. -/
def formUniqueSpec : ChangeSpec := { name := "formUnique", fn := fun _ => fun
  | [d1, d2, d3] => { results := [.lit (.bool true)], args := [d1, d2, d3] }
  | _ => none }
def formUniqueRow : OpenClaim := { program := "ytdbpmhfepfpldaadoor", sum := "18f9a43cd7499b3ab7375506d39386d379ef9a7b79b1b54607f83a9edcafeedb", func := "amortcost/amortcostlaw19.FormUnique", spec := "formUnique", inPlace := ["internal/abi.NoEscape"], unfollowed := true, recurses := true, named := ["internal/strconv.uint64pow10", "math/bits.deBruijn32tab", "math/bits.deBruijn64tab"], apart := false, laid := [("math/bits.deBruijn32tab", laid_math_bits_deBruijn32tab), ("math/bits.deBruijn64tab", laid_math_bits_deBruijn64tab), ("internal/strconv.uint64pow10", laid_internal_strconv_uint64pow10)] }
def FormUniqueSaid : Prop := formUniqueRow.holds Tryd.pinned (OpenSpec.ofChange formUniqueSpec)

/-- ITS FALSE NEIGHBOUR: 'it returns false'. Refute it at one input. -/
def formUniqueWrong : ChangeSpec := { name := "formUnique", fn := fun _ => fun
  | [d1, d2, d3] => { results := [.lit (.bool false)], args := [d1, d2, d3] }
  | _ => none }
def FormUniqueWrongFalsely : Prop := formUniqueRow.holds Tryd.pinned (OpenSpec.ofChange formUniqueWrong)

/-- 'amortcostlaw19.FormCompares': WHATEVER THE INPUT: true; the input reads as it did. -/
def formComparesSpec : ChangeSpec := { name := "formCompares", fn := fun _ => fun
  | [d1, d2, d3, d4] => { results := [.lit (.bool true)], args := [d1, d2, d3, d4] }
  | _ => none }
def formComparesRow : OpenClaim := { program := "ytdbpmhfepfpldaadoor", sum := "18f9a43cd7499b3ab7375506d39386d379ef9a7b79b1b54607f83a9edcafeedb", func := "amortcost/amortcostlaw19.FormCompares", spec := "formCompares", inPlace := ["math/bits.Add64", "internal/abi.NoEscape"], unfollowed := true, recurses := true, named := ["internal/strconv.uint64pow10", "math/bits.deBruijn32tab", "math/bits.deBruijn64tab"], apart := false, laid := [("math/bits.deBruijn32tab", laid_math_bits_deBruijn32tab), ("math/bits.deBruijn64tab", laid_math_bits_deBruijn64tab), ("internal/strconv.uint64pow10", laid_internal_strconv_uint64pow10)] }
def FormComparesSaid : Prop := formComparesRow.holds Tryd.pinned (OpenSpec.ofChange formComparesSpec)

/-- ITS FALSE NEIGHBOUR: 'it returns false'. Refute it at one input. -/
def formComparesWrong : ChangeSpec := { name := "formCompares", fn := fun _ => fun
  | [d1, d2, d3, d4] => { results := [.lit (.bool false)], args := [d1, d2, d3, d4] }
  | _ => none }
def FormComparesWrongFalsely : Prop := formComparesRow.holds Tryd.pinned (OpenSpec.ofChange formComparesWrong)

/-- 'amortcostlaw19.FormSubstitutes': WHATEVER THE INPUT: true; the input reads as it did. -/
def formSubstitutesSpec : ChangeSpec := { name := "formSubstitutes", fn := fun _ => fun
  | [d1, d2, d3] => { results := [.lit (.bool true)], args := [d1, d2, d3] }
  | _ => none }
def formSubstitutesRow : OpenClaim := { program := "ytdbpmhfepfpldaadoor", sum := "18f9a43cd7499b3ab7375506d39386d379ef9a7b79b1b54607f83a9edcafeedb", func := "amortcost/amortcostlaw19.FormSubstitutes", spec := "formSubstitutes", inPlace := ["internal/abi.NoEscape"], unfollowed := true, recurses := true, named := ["internal/strconv.uint64pow10", "math/bits.deBruijn32tab", "math/bits.deBruijn64tab"], apart := false, laid := [("math/bits.deBruijn32tab", laid_math_bits_deBruijn32tab), ("math/bits.deBruijn64tab", laid_math_bits_deBruijn64tab), ("internal/strconv.uint64pow10", laid_internal_strconv_uint64pow10)] }
def FormSubstitutesSaid : Prop := formSubstitutesRow.holds Tryd.pinned (OpenSpec.ofChange formSubstitutesSpec)

/-- ITS FALSE NEIGHBOUR: 'it returns false'. Refute it at one input. -/
def formSubstitutesWrong : ChangeSpec := { name := "formSubstitutes", fn := fun _ => fun
  | [d1, d2, d3] => { results := [.lit (.bool false)], args := [d1, d2, d3] }
  | _ => none }
def FormSubstitutesWrongFalsely : Prop := formSubstitutesRow.holds Tryd.pinned (OpenSpec.ofChange formSubstitutesWrong)

/- THE SECOND FORM. 'bulk': how many values and letters a reading holds, each counted each time it is reached (what is shared counts as often as it is met; a slice's spare places count too). A statement '..UptoSaid' is the law's where the arguments, and the package variables that the reading takes, are together of bulk at most 1048576: NARROWER than '..Said'. Prove '..Said' where nothing that the law and all that it calls make is longer than what came in: it says more and counts as full. Else prove '..UptoSaid'. A law counts once. -/
mutual
def uptoBulk {H : Type} : DataW H → Nat
  | .lit (.string bytes) => bytes.length + 1
  | .lit _ => 1
  | .nil => 1
  | .ptr d => uptoBulk d + 1
  | .slice elems spare => uptoBulkAll elems + uptoBulkAll spare + 1
  | .agg parts => uptoBulkAll parts + 1
  | .iface _ d => uptoBulk d + 1
  | .map entries => uptoBulkEntries entries + 1
  | .held _ => 1
def uptoBulkAll {H : Type} : List (DataW H) → Nat
  | [] => 0
  | d :: r => uptoBulk d + uptoBulkAll r
def uptoBulkEntries {H : Type} : List (Lit × DataW H) → Nat
  | [] => 0
  | x :: r => uptoBulkEntry x + uptoBulkEntries r
def uptoBulkEntry {H : Type} : Lit × DataW H → Nat
  | (.string bytes, d) => bytes.length + uptoBulk d + 1
  | (_, d) => uptoBulk d + 1
 end
def uptoSmall : (H : Type) → List (DataW H) → Bool := fun _ ds => decide (uptoBulkAll ds ≤ 1048576)
def OpenSpec.upto (s : _root_.Go.ChangeSpec) : _root_.Go.OpenSpec := { _root_.Go.OpenSpec.ofChange s with cond := some uptoSmall }

/-- 'amortcostlaw06.TypingTexts', WHERE WHAT IT READS IS OF BULK AT MOST 1048576: true; the input reads as it did. -/
def typingTextsUptoRow : OpenClaim := { program := "ytdbpmhfepfpldaadoor", sum := "18f9a43cd7499b3ab7375506d39386d379ef9a7b79b1b54607f83a9edcafeedb", func := "amortcost/amortcostlaw06.TypingTexts", spec := "typingTexts", inPlace := ["internal/abi.NoEscape", "internal/bytealg.MakeNoZero"], unfollowed := true, recurses := true, named := ["internal/strconv.uint64pow10", "math/bits.deBruijn32tab", "math/bits.deBruijn64tab"], loops := true, apart := false, laid := [("math/bits.deBruijn32tab", laid_math_bits_deBruijn32tab), ("math/bits.deBruijn64tab", laid_math_bits_deBruijn64tab), ("internal/strconv.uint64pow10", laid_internal_strconv_uint64pow10)], narrowed := true }
def TypingTextsUptoSaid : Prop := typingTextsUptoRow.holds Tryd.pinned (OpenSpec.upto typingTextsSpec)

/-- 'amortcostlaw19.FormBasics', WHERE WHAT IT READS IS OF BULK AT MOST 1048576: true; the input reads as it did. -/
def formBasicsUptoRow : OpenClaim := { program := "ytdbpmhfepfpldaadoor", sum := "18f9a43cd7499b3ab7375506d39386d379ef9a7b79b1b54607f83a9edcafeedb", func := "amortcost/amortcostlaw19.FormBasics", spec := "formBasics", inPlace := ["internal/abi.NoEscape"], unfollowed := true, recurses := true, named := ["internal/strconv.uint64pow10", "math/bits.deBruijn32tab", "math/bits.deBruijn64tab"], apart := false, laid := [("math/bits.deBruijn32tab", laid_math_bits_deBruijn32tab), ("math/bits.deBruijn64tab", laid_math_bits_deBruijn64tab), ("internal/strconv.uint64pow10", laid_internal_strconv_uint64pow10)], narrowed := true }
def FormBasicsUptoSaid : Prop := formBasicsUptoRow.holds Tryd.pinned (OpenSpec.upto formBasicsSpec)

/-- 'amortcostlaw19.FormTexts', WHERE WHAT IT READS IS OF BULK AT MOST 1048576: true; the input reads as it did. -/
def formTextsUptoRow : OpenClaim := { program := "ytdbpmhfepfpldaadoor", sum := "18f9a43cd7499b3ab7375506d39386d379ef9a7b79b1b54607f83a9edcafeedb", func := "amortcost/amortcostlaw19.FormTexts", spec := "formTexts", inPlace := ["internal/abi.NoEscape"], unfollowed := true, recurses := true, named := ["internal/strconv.uint64pow10", "math/bits.deBruijn32tab", "math/bits.deBruijn64tab"], apart := false, laid := [("math/bits.deBruijn32tab", laid_math_bits_deBruijn32tab), ("math/bits.deBruijn64tab", laid_math_bits_deBruijn64tab), ("internal/strconv.uint64pow10", laid_internal_strconv_uint64pow10)], narrowed := true }
def FormTextsUptoSaid : Prop := formTextsUptoRow.holds Tryd.pinned (OpenSpec.upto formTextsSpec)

/-- 'amortcostlaw19.FormSums', WHERE WHAT IT READS IS OF BULK AT MOST 1048576: true; the input reads as it did. -/
def formSumsUptoRow : OpenClaim := { program := "ytdbpmhfepfpldaadoor", sum := "18f9a43cd7499b3ab7375506d39386d379ef9a7b79b1b54607f83a9edcafeedb", func := "amortcost/amortcostlaw19.FormSums", spec := "formSums", inPlace := ["internal/abi.NoEscape"], unfollowed := true, recurses := true, named := ["internal/strconv.uint64pow10", "math/bits.deBruijn32tab", "math/bits.deBruijn64tab"], apart := false, laid := [("math/bits.deBruijn32tab", laid_math_bits_deBruijn32tab), ("math/bits.deBruijn64tab", laid_math_bits_deBruijn64tab), ("internal/strconv.uint64pow10", laid_internal_strconv_uint64pow10)], narrowed := true }
def FormSumsUptoSaid : Prop := formSumsUptoRow.holds Tryd.pinned (OpenSpec.upto formSumsSpec)

/-- 'amortcostlaw19.FormCanonicals', WHERE WHAT IT READS IS OF BULK AT MOST 1048576: true; the input reads as it did. -/
def formCanonicalsUptoRow : OpenClaim := { program := "ytdbpmhfepfpldaadoor", sum := "18f9a43cd7499b3ab7375506d39386d379ef9a7b79b1b54607f83a9edcafeedb", func := "amortcost/amortcostlaw19.FormCanonicals", spec := "formCanonicals", inPlace := ["internal/abi.NoEscape"], unfollowed := true, recurses := true, named := ["internal/strconv.uint64pow10", "math/bits.deBruijn32tab", "math/bits.deBruijn64tab"], apart := false, laid := [("math/bits.deBruijn32tab", laid_math_bits_deBruijn32tab), ("math/bits.deBruijn64tab", laid_math_bits_deBruijn64tab), ("internal/strconv.uint64pow10", laid_internal_strconv_uint64pow10)], narrowed := true }
def FormCanonicalsUptoSaid : Prop := formCanonicalsUptoRow.holds Tryd.pinned (OpenSpec.upto formCanonicalsSpec)

/-- 'amortcostlaw19.FormUnique', WHERE WHAT IT READS IS OF BULK AT MOST 1048576: true; the input reads as it did. -/
def formUniqueUptoRow : OpenClaim := { program := "ytdbpmhfepfpldaadoor", sum := "18f9a43cd7499b3ab7375506d39386d379ef9a7b79b1b54607f83a9edcafeedb", func := "amortcost/amortcostlaw19.FormUnique", spec := "formUnique", inPlace := ["internal/abi.NoEscape"], unfollowed := true, recurses := true, named := ["internal/strconv.uint64pow10", "math/bits.deBruijn32tab", "math/bits.deBruijn64tab"], apart := false, laid := [("math/bits.deBruijn32tab", laid_math_bits_deBruijn32tab), ("math/bits.deBruijn64tab", laid_math_bits_deBruijn64tab), ("internal/strconv.uint64pow10", laid_internal_strconv_uint64pow10)], narrowed := true }
def FormUniqueUptoSaid : Prop := formUniqueUptoRow.holds Tryd.pinned (OpenSpec.upto formUniqueSpec)

/-- 'amortcostlaw19.FormCompares', WHERE WHAT IT READS IS OF BULK AT MOST 1048576: true; the input reads as it did. -/
def formComparesUptoRow : OpenClaim := { program := "ytdbpmhfepfpldaadoor", sum := "18f9a43cd7499b3ab7375506d39386d379ef9a7b79b1b54607f83a9edcafeedb", func := "amortcost/amortcostlaw19.FormCompares", spec := "formCompares", inPlace := ["math/bits.Add64", "internal/abi.NoEscape"], unfollowed := true, recurses := true, named := ["internal/strconv.uint64pow10", "math/bits.deBruijn32tab", "math/bits.deBruijn64tab"], apart := false, laid := [("math/bits.deBruijn32tab", laid_math_bits_deBruijn32tab), ("math/bits.deBruijn64tab", laid_math_bits_deBruijn64tab), ("internal/strconv.uint64pow10", laid_internal_strconv_uint64pow10)], narrowed := true }
def FormComparesUptoSaid : Prop := formComparesUptoRow.holds Tryd.pinned (OpenSpec.upto formComparesSpec)

/-- 'amortcostlaw19.FormSubstitutes', WHERE WHAT IT READS IS OF BULK AT MOST 1048576: true; the input reads as it did. -/
def formSubstitutesUptoRow : OpenClaim := { program := "ytdbpmhfepfpldaadoor", sum := "18f9a43cd7499b3ab7375506d39386d379ef9a7b79b1b54607f83a9edcafeedb", func := "amortcost/amortcostlaw19.FormSubstitutes", spec := "formSubstitutes", inPlace := ["internal/abi.NoEscape"], unfollowed := true, recurses := true, named := ["internal/strconv.uint64pow10", "math/bits.deBruijn32tab", "math/bits.deBruijn64tab"], apart := false, laid := [("math/bits.deBruijn32tab", laid_math_bits_deBruijn32tab), ("math/bits.deBruijn64tab", laid_math_bits_deBruijn64tab), ("internal/strconv.uint64pow10", laid_internal_strconv_uint64pow10)], narrowed := true }
def FormSubstitutesUptoSaid : Prop := formSubstitutesUptoRow.holds Tryd.pinned (OpenSpec.upto formSubstitutesSpec)

end Rows
end Go.Proofs.YtdbpmhfepfpldaaDoor
