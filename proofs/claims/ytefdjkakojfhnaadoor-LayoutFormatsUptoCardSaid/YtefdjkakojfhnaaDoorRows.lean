/-
  NARROWER THAN 'FOR EVERY INPUT', by the rows' own cells (each row's printed sentence says how): FieldsLines: laid · FieldsWords: laid · FieldsFirst: laid · FieldsNumbers: laid · LayoutFormats: laid · LayoutBack: laid · FieldsJoins: laid · FieldsBack: laid.
  DERIVED. THE GIVEN ROWS OF THIS SEAT. 8 by the template 'for every input the law returns true; each argument reads behind the call as it read before'; 0 by the template 'total and deterministic' (their statements: YtefdjkakojfhnaaDoorTotals.lean).
  GIVEN WITH THE SEED: the statements are not yours to turn. If you find one false, say at which input.
  Laid BY PROGRAM, IN A SANDBOX (cutbox-rows.mjs): the forced cells as the released guide's own fill.sh prints them over the translation a961dd6d7a2d7613… (all of the seat's roots in one cut). By AI agents, Wed Nov 11 2026. No macro, syntax, notation, axiom, sorry.
-/
import Derived.Test.YtefdjkakojfhnaaDoorChecked
import GoSem.PinnedTables
import GoSem.Claim
import GoSem.ClaimJoined
import GoSem.ClaimMapViews
import Derived.JoinedTies
import Derived.KernelRfl
namespace Go.Proofs.YtefdjkakojfhnaaDoor
/- THE CELL 'sum', in the pinned program and in every row, IS THE sha256 OF THE DUMP (.gsa) THAT YtefdjkakojfhnaaDoorProg.lean LOADS. Nothing in Lean hashes anything: it is a label: what it is worth is what the hold of that sum in a sandbox is worth. -/
noncomputable def Tryd.pinned : Pinned := { name := "ytefdjkakojfhnaadoor", sum := "a961dd6d7a2d7613b6b3be99b5567aae5ff42992fbe2e5de1f9d9bd7d45982cd", checked := Tryd.checked }
namespace Rows
def none {H : Type} : Left H := { results := [], args := [] }

/- WHAT THE LISTED PACKAGE-LEVEL VARIABLES READ AS WHEN THE CALL BEGINS. Each datum BY PROGRAM (the guide's laid-datum.mjs) off the statement by which the dump's own 'gosem.cut.vars' lays the variable. In a bare row this is a premise. The card (YtefdjkakojfhnaaDoorCards.lean) ties it to the program's text. -/
def laid_unicode_utf8_acceptRanges {H : Type} : DataW H := .agg [.agg [.lit (.int .u8 128), .lit (.int .u8 191)], .agg [.lit (.int .u8 160), .lit (.int .u8 191)], .agg [.lit (.int .u8 128), .lit (.int .u8 159)], .agg [.lit (.int .u8 144), .lit (.int .u8 191)], .agg [.lit (.int .u8 128), .lit (.int .u8 143)], .agg [.lit (.int .u8 0), .lit (.int .u8 0)], .agg [.lit (.int .u8 0), .lit (.int .u8 0)], .agg [.lit (.int .u8 0), .lit (.int .u8 0)], .agg [.lit (.int .u8 0), .lit (.int .u8 0)], .agg [.lit (.int .u8 0), .lit (.int .u8 0)], .agg [.lit (.int .u8 0), .lit (.int .u8 0)], .agg [.lit (.int .u8 0), .lit (.int .u8 0)], .agg [.lit (.int .u8 0), .lit (.int .u8 0)], .agg [.lit (.int .u8 0), .lit (.int .u8 0)], .agg [.lit (.int .u8 0), .lit (.int .u8 0)], .agg [.lit (.int .u8 0), .lit (.int .u8 0)]]
/-- One of Go's own tables, pinned by name: the form's constant. -/
def laid_unicode_utf8_first : DataW Unit := Go.Pinned.utf8First
def laid_math_bits_deBruijn32tab {H : Type} : DataW H := .agg [.lit (.int .u8 0), .lit (.int .u8 1), .lit (.int .u8 28), .lit (.int .u8 2), .lit (.int .u8 29), .lit (.int .u8 14), .lit (.int .u8 24), .lit (.int .u8 3), .lit (.int .u8 30), .lit (.int .u8 22), .lit (.int .u8 20), .lit (.int .u8 15), .lit (.int .u8 25), .lit (.int .u8 17), .lit (.int .u8 4), .lit (.int .u8 8), .lit (.int .u8 31), .lit (.int .u8 27), .lit (.int .u8 13), .lit (.int .u8 23), .lit (.int .u8 21), .lit (.int .u8 19), .lit (.int .u8 16), .lit (.int .u8 7), .lit (.int .u8 26), .lit (.int .u8 12), .lit (.int .u8 18), .lit (.int .u8 6), .lit (.int .u8 11), .lit (.int .u8 5), .lit (.int .u8 10), .lit (.int .u8 9)]
def laid_math_bits_deBruijn64tab {H : Type} : DataW H := .agg [.lit (.int .u8 0), .lit (.int .u8 1), .lit (.int .u8 56), .lit (.int .u8 2), .lit (.int .u8 57), .lit (.int .u8 49), .lit (.int .u8 28), .lit (.int .u8 3), .lit (.int .u8 61), .lit (.int .u8 58), .lit (.int .u8 42), .lit (.int .u8 50), .lit (.int .u8 38), .lit (.int .u8 29), .lit (.int .u8 17), .lit (.int .u8 4), .lit (.int .u8 62), .lit (.int .u8 47), .lit (.int .u8 59), .lit (.int .u8 36), .lit (.int .u8 45), .lit (.int .u8 43), .lit (.int .u8 51), .lit (.int .u8 22), .lit (.int .u8 53), .lit (.int .u8 39), .lit (.int .u8 33), .lit (.int .u8 30), .lit (.int .u8 24), .lit (.int .u8 18), .lit (.int .u8 12), .lit (.int .u8 5), .lit (.int .u8 63), .lit (.int .u8 55), .lit (.int .u8 48), .lit (.int .u8 27), .lit (.int .u8 60), .lit (.int .u8 41), .lit (.int .u8 37), .lit (.int .u8 16), .lit (.int .u8 46), .lit (.int .u8 35), .lit (.int .u8 44), .lit (.int .u8 21), .lit (.int .u8 52), .lit (.int .u8 32), .lit (.int .u8 23), .lit (.int .u8 11), .lit (.int .u8 54), .lit (.int .u8 26), .lit (.int .u8 40), .lit (.int .u8 15), .lit (.int .u8 34), .lit (.int .u8 20), .lit (.int .u8 31), .lit (.int .u8 10), .lit (.int .u8 25), .lit (.int .u8 14), .lit (.int .u8 19), .lit (.int .u8 9), .lit (.int .u8 13), .lit (.int .u8 8), .lit (.int .u8 7), .lit (.int .u8 6)]
def laid_internal_strconv_uint64pow10 {H : Type} : DataW H := .agg [.lit (.int .u64 1), .lit (.int .u64 10), .lit (.int .u64 100), .lit (.int .u64 1000), .lit (.int .u64 10000), .lit (.int .u64 100000), .lit (.int .u64 1000000), .lit (.int .u64 10000000), .lit (.int .u64 100000000), .lit (.int .u64 1000000000), .lit (.int .u64 10000000000), .lit (.int .u64 100000000000), .lit (.int .u64 1000000000000), .lit (.int .u64 10000000000000), .lit (.int .u64 100000000000000), .lit (.int .u64 1000000000000000), .lit (.int .u64 10000000000000000), .lit (.int .u64 100000000000000000), .lit (.int .u64 1000000000000000000), .lit (.int .u64 10000000000000000000)]

/-- 'blockwaylaw01.FieldsLines': WHATEVER THE INPUT: true; the input reads as it did. -/
def fieldsLinesSpec : ChangeSpec := { name := "fieldsLines", fn := fun _ => fun
  | [d1, d2] => { results := [.lit (.bool true)], args := [d1, d2] }
  | _ => none }
def fieldsLinesRow : OpenClaim := { program := "ytefdjkakojfhnaadoor", sum := "a961dd6d7a2d7613b6b3be99b5567aae5ff42992fbe2e5de1f9d9bd7d45982cd", func := "blockway/blockwaylaw01.FieldsLines", spec := "fieldsLines", inPlace := ["internal/bytealg.CountString", "internal/bytealg.IndexByteString", "internal/bytealg.IndexString"], named := ["unicode/utf8.first", "unicode/utf8.acceptRanges", "internal/bytealg.MaxLen"], apart := false, laid := [("unicode/utf8.acceptRanges", laid_unicode_utf8_acceptRanges), ("unicode/utf8.first", laid_unicode_utf8_first)] }
def FieldsLinesSaid : Prop := fieldsLinesRow.holds Tryd.pinned (OpenSpec.ofChange fieldsLinesSpec)

/-- ITS FALSE NEIGHBOUR: 'it returns false'. Refute it at one input. -/
def fieldsLinesWrong : ChangeSpec := { name := "fieldsLines", fn := fun _ => fun
  | [d1, d2] => { results := [.lit (.bool false)], args := [d1, d2] }
  | _ => none }
def FieldsLinesWrongFalsely : Prop := fieldsLinesRow.holds Tryd.pinned (OpenSpec.ofChange fieldsLinesWrong)

/-- 'blockwaylaw01.FieldsWords': WHATEVER THE INPUT: true; the input reads as it did. -/
def fieldsWordsSpec : ChangeSpec := { name := "fieldsWords", fn := fun _ => fun
  | [d1, d2] => { results := [.lit (.bool true)], args := [d1, d2] }
  | _ => none }
def fieldsWordsRow : OpenClaim := { program := "ytefdjkakojfhnaadoor", sum := "a961dd6d7a2d7613b6b3be99b5567aae5ff42992fbe2e5de1f9d9bd7d45982cd", func := "blockway/blockwaylaw01.FieldsWords", spec := "fieldsWords", inPlace := ["internal/bytealg.CountString", "internal/bytealg.IndexByteString", "internal/bytealg.IndexString"], recurses := true, named := ["unicode/utf8.first", "unicode/utf8.acceptRanges", "internal/bytealg.MaxLen"], apart := false, laid := [("unicode/utf8.acceptRanges", laid_unicode_utf8_acceptRanges), ("unicode/utf8.first", laid_unicode_utf8_first)] }
def FieldsWordsSaid : Prop := fieldsWordsRow.holds Tryd.pinned (OpenSpec.ofChange fieldsWordsSpec)

/-- ITS FALSE NEIGHBOUR: 'it returns false'. Refute it at one input. -/
def fieldsWordsWrong : ChangeSpec := { name := "fieldsWords", fn := fun _ => fun
  | [d1, d2] => { results := [.lit (.bool false)], args := [d1, d2] }
  | _ => none }
def FieldsWordsWrongFalsely : Prop := fieldsWordsRow.holds Tryd.pinned (OpenSpec.ofChange fieldsWordsWrong)

/-- 'blockwaylaw01.FieldsFirst': WHATEVER THE INPUT: true; the input reads as it did. -/
def fieldsFirstSpec : ChangeSpec := { name := "fieldsFirst", fn := fun _ => fun
  | [d1, d2] => { results := [.lit (.bool true)], args := [d1, d2] }
  | _ => none }
def fieldsFirstRow : OpenClaim := { program := "ytefdjkakojfhnaadoor", sum := "a961dd6d7a2d7613b6b3be99b5567aae5ff42992fbe2e5de1f9d9bd7d45982cd", func := "blockway/blockwaylaw01.FieldsFirst", spec := "fieldsFirst", inPlace := ["internal/bytealg.CountString", "internal/bytealg.IndexByteString", "internal/bytealg.IndexString"], named := ["unicode/utf8.first", "unicode/utf8.acceptRanges", "internal/bytealg.MaxLen"], apart := false, laid := [("unicode/utf8.acceptRanges", laid_unicode_utf8_acceptRanges), ("unicode/utf8.first", laid_unicode_utf8_first)] }
def FieldsFirstSaid : Prop := fieldsFirstRow.holds Tryd.pinned (OpenSpec.ofChange fieldsFirstSpec)

/-- ITS FALSE NEIGHBOUR: 'it returns false'. Refute it at one input. -/
def fieldsFirstWrong : ChangeSpec := { name := "fieldsFirst", fn := fun _ => fun
  | [d1, d2] => { results := [.lit (.bool false)], args := [d1, d2] }
  | _ => none }
def FieldsFirstWrongFalsely : Prop := fieldsFirstRow.holds Tryd.pinned (OpenSpec.ofChange fieldsFirstWrong)

/-- 'blockwaylaw01.FieldsNumbers': WHATEVER THE INPUT: true; the input reads as it did. -/
def fieldsNumbersSpec : ChangeSpec := { name := "fieldsNumbers", fn := fun _ => fun
  | [d] => { results := [.lit (.bool true)], args := [d] }
  | _ => none }
def fieldsNumbersRow : OpenClaim := { program := "ytefdjkakojfhnaadoor", sum := "a961dd6d7a2d7613b6b3be99b5567aae5ff42992fbe2e5de1f9d9bd7d45982cd", func := "blockway/blockwaylaw01.FieldsNumbers", spec := "fieldsNumbers", inPlace := ["internal/bytealg.CountString", "internal/bytealg.IndexByteString", "internal/bytealg.IndexString"], recurses := true, named := ["unicode/utf8.first", "unicode/utf8.acceptRanges", "internal/bytealg.MaxLen"], apart := false, laid := [("unicode/utf8.acceptRanges", laid_unicode_utf8_acceptRanges), ("unicode/utf8.first", laid_unicode_utf8_first)] }
def FieldsNumbersSaid : Prop := fieldsNumbersRow.holds Tryd.pinned (OpenSpec.ofChange fieldsNumbersSpec)

/-- ITS FALSE NEIGHBOUR: 'it returns false'. Refute it at one input. -/
def fieldsNumbersWrong : ChangeSpec := { name := "fieldsNumbers", fn := fun _ => fun
  | [d] => { results := [.lit (.bool false)], args := [d] }
  | _ => none }
def FieldsNumbersWrongFalsely : Prop := fieldsNumbersRow.holds Tryd.pinned (OpenSpec.ofChange fieldsNumbersWrong)

/-- 'blockwaylaw02.LayoutFormats': WHATEVER THE INPUT: true; the input reads as it did. -/
def layoutFormatsSpec : ChangeSpec := { name := "layoutFormats", fn := fun _ => fun
  | [d1, d2] => { results := [.lit (.bool true)], args := [d1, d2] }
  | _ => none }
def layoutFormatsRow : OpenClaim := { program := "ytefdjkakojfhnaadoor", sum := "a961dd6d7a2d7613b6b3be99b5567aae5ff42992fbe2e5de1f9d9bd7d45982cd", func := "blockway/blockwaylaw02.LayoutFormats", spec := "layoutFormats", unfollowed := true, recurses := true, named := ["internal/strconv.uint64pow10", "math/bits.deBruijn32tab", "math/bits.deBruijn64tab"], apart := false, laid := [("math/bits.deBruijn32tab", laid_math_bits_deBruijn32tab), ("math/bits.deBruijn64tab", laid_math_bits_deBruijn64tab), ("internal/strconv.uint64pow10", laid_internal_strconv_uint64pow10)] }
def LayoutFormatsSaid : Prop := layoutFormatsRow.holds Tryd.pinned (OpenSpec.ofChange layoutFormatsSpec)

/-- ITS FALSE NEIGHBOUR: 'it returns false'. Refute it at one input. -/
def layoutFormatsWrong : ChangeSpec := { name := "layoutFormats", fn := fun _ => fun
  | [d1, d2] => { results := [.lit (.bool false)], args := [d1, d2] }
  | _ => none }
def LayoutFormatsWrongFalsely : Prop := layoutFormatsRow.holds Tryd.pinned (OpenSpec.ofChange layoutFormatsWrong)

/-- 'blockwaylaw02.LayoutBack': WHATEVER THE INPUT: true; the input reads as it did. -/
def layoutBackSpec : ChangeSpec := { name := "layoutBack", fn := fun _ => fun
  | [d] => { results := [.lit (.bool true)], args := [d] }
  | _ => none }
def layoutBackRow : OpenClaim := { program := "ytefdjkakojfhnaadoor", sum := "a961dd6d7a2d7613b6b3be99b5567aae5ff42992fbe2e5de1f9d9bd7d45982cd", func := "blockway/blockwaylaw02.LayoutBack", spec := "layoutBack", unfollowed := true, recurses := true, named := ["internal/strconv.uint64pow10", "math/bits.deBruijn32tab", "math/bits.deBruijn64tab"], apart := false, laid := [("math/bits.deBruijn32tab", laid_math_bits_deBruijn32tab), ("math/bits.deBruijn64tab", laid_math_bits_deBruijn64tab), ("internal/strconv.uint64pow10", laid_internal_strconv_uint64pow10)] }
def LayoutBackSaid : Prop := layoutBackRow.holds Tryd.pinned (OpenSpec.ofChange layoutBackSpec)

/-- ITS FALSE NEIGHBOUR: 'it returns false'. Refute it at one input. -/
def layoutBackWrong : ChangeSpec := { name := "layoutBack", fn := fun _ => fun
  | [d] => { results := [.lit (.bool false)], args := [d] }
  | _ => none }
def LayoutBackWrongFalsely : Prop := layoutBackRow.holds Tryd.pinned (OpenSpec.ofChange layoutBackWrong)

/-- 'blockwaylaw01.FieldsJoins': WHATEVER THE INPUT: true; the input reads as it did. -/
def fieldsJoinsSpec : ChangeSpec := { name := "fieldsJoins", fn := fun _ => fun
  | [d1, d2] => { results := [.lit (.bool true)], args := [d1, d2] }
  | _ => none }
def fieldsJoinsRow : OpenClaim := { program := "ytefdjkakojfhnaadoor", sum := "a961dd6d7a2d7613b6b3be99b5567aae5ff42992fbe2e5de1f9d9bd7d45982cd", func := "blockway/blockwaylaw01.FieldsJoins", spec := "fieldsJoins", inPlace := ["internal/bytealg.CountString", "internal/bytealg.IndexByteString", "internal/bytealg.IndexString", "internal/abi.NoEscape", "internal/bytealg.MakeNoZero"], unfollowed := true, recurses := true, named := ["unicode/utf8.first", "unicode/utf8.acceptRanges", "internal/bytealg.MaxLen"], apart := false, laid := [("unicode/utf8.acceptRanges", laid_unicode_utf8_acceptRanges), ("unicode/utf8.first", laid_unicode_utf8_first)] }
def FieldsJoinsSaid : Prop := fieldsJoinsRow.holds Tryd.pinned (OpenSpec.ofChange fieldsJoinsSpec)

/-- ITS FALSE NEIGHBOUR: 'it returns false'. Refute it at one input. -/
def fieldsJoinsWrong : ChangeSpec := { name := "fieldsJoins", fn := fun _ => fun
  | [d1, d2] => { results := [.lit (.bool false)], args := [d1, d2] }
  | _ => none }
def FieldsJoinsWrongFalsely : Prop := fieldsJoinsRow.holds Tryd.pinned (OpenSpec.ofChange fieldsJoinsWrong)

/-- 'blockwaylaw01.FieldsBack': WHATEVER THE INPUT: true; the input reads as it did. -/
def fieldsBackSpec : ChangeSpec := { name := "fieldsBack", fn := fun _ => fun
  | [d1, d2] => { results := [.lit (.bool true)], args := [d1, d2] }
  | _ => none }
def fieldsBackRow : OpenClaim := { program := "ytefdjkakojfhnaadoor", sum := "a961dd6d7a2d7613b6b3be99b5567aae5ff42992fbe2e5de1f9d9bd7d45982cd", func := "blockway/blockwaylaw01.FieldsBack", spec := "fieldsBack", inPlace := ["internal/bytealg.CountString", "internal/bytealg.IndexByteString", "internal/bytealg.IndexString", "internal/abi.NoEscape", "internal/bytealg.MakeNoZero"], unfollowed := true, recurses := true, named := ["unicode/utf8.first", "unicode/utf8.acceptRanges", "internal/bytealg.MaxLen"], apart := false, laid := [("unicode/utf8.acceptRanges", laid_unicode_utf8_acceptRanges), ("unicode/utf8.first", laid_unicode_utf8_first)] }
def FieldsBackSaid : Prop := fieldsBackRow.holds Tryd.pinned (OpenSpec.ofChange fieldsBackSpec)

/-- ITS FALSE NEIGHBOUR: 'it returns false'. Refute it at one input. -/
def fieldsBackWrong : ChangeSpec := { name := "fieldsBack", fn := fun _ => fun
  | [d1, d2] => { results := [.lit (.bool false)], args := [d1, d2] }
  | _ => none }
def FieldsBackWrongFalsely : Prop := fieldsBackRow.holds Tryd.pinned (OpenSpec.ofChange fieldsBackWrong)

/- THE SECOND FORM. 'bulk': how many values and letters a reading holds, each counted each time it is reached (what is shared counts as often as it is met; a slice's spare places count too). A statement '..UptoSaid' is the law's where the arguments, and the package variables that the reading takes, are together of bulk at most 1048576: NARROWER than '..Said'. Prove '..Said' where nothing that the law and all that it calls make is longer than what came in: it says more and counts as full. Else prove '..UptoSaid'. A law counts once. -/
mutual
def uptoBulk {H : Type} : DataW H → Nat
  | .lit (.string bytes) => bytes.length + 1
  | .lit _ => 1
  | .nil => 1
  | .ptr d => uptoBulk d + 1
  | .slice elems spare => uptoBulkAll elems + uptoBulkAll spare + 1
  | .agg parts => uptoBulkAll parts + 1
  | .iface _ d => uptoBulk d + 1
  | .map entries => uptoBulkEntries entries + 1
  | .held _ => 1
def uptoBulkAll {H : Type} : List (DataW H) → Nat
  | [] => 0
  | d :: r => uptoBulk d + uptoBulkAll r
def uptoBulkEntries {H : Type} : List (Lit × DataW H) → Nat
  | [] => 0
  | x :: r => uptoBulkEntry x + uptoBulkEntries r
def uptoBulkEntry {H : Type} : Lit × DataW H → Nat
  | (.string bytes, d) => bytes.length + uptoBulk d + 1
  | (_, d) => uptoBulk d + 1
 end
def uptoSmall : (H : Type) → List (DataW H) → Bool := fun _ ds => decide (uptoBulkAll ds ≤ 1048576)
def OpenSpec.upto (s : _root_.Go.ChangeSpec) : _root_.Go.OpenSpec := { _root_.Go.OpenSpec.ofChange s with cond := some uptoSmall }

/-- 'blockwaylaw01.FieldsLines', WHERE WHAT IT READS IS OF BULK AT MOST 1048576: true; the input reads as it did. -/
def fieldsLinesUptoRow : OpenClaim := { program := "ytefdjkakojfhnaadoor", sum := "a961dd6d7a2d7613b6b3be99b5567aae5ff42992fbe2e5de1f9d9bd7d45982cd", func := "blockway/blockwaylaw01.FieldsLines", spec := "fieldsLines", inPlace := ["internal/bytealg.CountString", "internal/bytealg.IndexByteString", "internal/bytealg.IndexString"], named := ["unicode/utf8.first", "unicode/utf8.acceptRanges", "internal/bytealg.MaxLen"], apart := false, laid := [("unicode/utf8.acceptRanges", laid_unicode_utf8_acceptRanges), ("unicode/utf8.first", laid_unicode_utf8_first)], narrowed := true }
def FieldsLinesUptoSaid : Prop := fieldsLinesUptoRow.holds Tryd.pinned (OpenSpec.upto fieldsLinesSpec)

/-- 'blockwaylaw01.FieldsWords', WHERE WHAT IT READS IS OF BULK AT MOST 1048576: true; the input reads as it did. -/
def fieldsWordsUptoRow : OpenClaim := { program := "ytefdjkakojfhnaadoor", sum := "a961dd6d7a2d7613b6b3be99b5567aae5ff42992fbe2e5de1f9d9bd7d45982cd", func := "blockway/blockwaylaw01.FieldsWords", spec := "fieldsWords", inPlace := ["internal/bytealg.CountString", "internal/bytealg.IndexByteString", "internal/bytealg.IndexString"], recurses := true, named := ["unicode/utf8.first", "unicode/utf8.acceptRanges", "internal/bytealg.MaxLen"], apart := false, laid := [("unicode/utf8.acceptRanges", laid_unicode_utf8_acceptRanges), ("unicode/utf8.first", laid_unicode_utf8_first)], narrowed := true }
def FieldsWordsUptoSaid : Prop := fieldsWordsUptoRow.holds Tryd.pinned (OpenSpec.upto fieldsWordsSpec)

/-- 'blockwaylaw01.FieldsFirst', WHERE WHAT IT READS IS OF BULK AT MOST 1048576: true; the input reads as it did. -/
def fieldsFirstUptoRow : OpenClaim := { program := "ytefdjkakojfhnaadoor", sum := "a961dd6d7a2d7613b6b3be99b5567aae5ff42992fbe2e5de1f9d9bd7d45982cd", func := "blockway/blockwaylaw01.FieldsFirst", spec := "fieldsFirst", inPlace := ["internal/bytealg.CountString", "internal/bytealg.IndexByteString", "internal/bytealg.IndexString"], named := ["unicode/utf8.first", "unicode/utf8.acceptRanges", "internal/bytealg.MaxLen"], apart := false, laid := [("unicode/utf8.acceptRanges", laid_unicode_utf8_acceptRanges), ("unicode/utf8.first", laid_unicode_utf8_first)], narrowed := true }
def FieldsFirstUptoSaid : Prop := fieldsFirstUptoRow.holds Tryd.pinned (OpenSpec.upto fieldsFirstSpec)

/-- 'blockwaylaw01.FieldsNumbers', WHERE WHAT IT READS IS OF BULK AT MOST 1048576: true; the input reads as it did. -/
def fieldsNumbersUptoRow : OpenClaim := { program := "ytefdjkakojfhnaadoor", sum := "a961dd6d7a2d7613b6b3be99b5567aae5ff42992fbe2e5de1f9d9bd7d45982cd", func := "blockway/blockwaylaw01.FieldsNumbers", spec := "fieldsNumbers", inPlace := ["internal/bytealg.CountString", "internal/bytealg.IndexByteString", "internal/bytealg.IndexString"], recurses := true, named := ["unicode/utf8.first", "unicode/utf8.acceptRanges", "internal/bytealg.MaxLen"], apart := false, laid := [("unicode/utf8.acceptRanges", laid_unicode_utf8_acceptRanges), ("unicode/utf8.first", laid_unicode_utf8_first)], narrowed := true }
def FieldsNumbersUptoSaid : Prop := fieldsNumbersUptoRow.holds Tryd.pinned (OpenSpec.upto fieldsNumbersSpec)

/-- 'blockwaylaw02.LayoutFormats', WHERE WHAT IT READS IS OF BULK AT MOST 1048576: true; the input reads as it did. -/
def layoutFormatsUptoRow : OpenClaim := { program := "ytefdjkakojfhnaadoor", sum := "a961dd6d7a2d7613b6b3be99b5567aae5ff42992fbe2e5de1f9d9bd7d45982cd", func := "blockway/blockwaylaw02.LayoutFormats", spec := "layoutFormats", unfollowed := true, recurses := true, named := ["internal/strconv.uint64pow10", "math/bits.deBruijn32tab", "math/bits.deBruijn64tab"], apart := false, laid := [("math/bits.deBruijn32tab", laid_math_bits_deBruijn32tab), ("math/bits.deBruijn64tab", laid_math_bits_deBruijn64tab), ("internal/strconv.uint64pow10", laid_internal_strconv_uint64pow10)], narrowed := true }
def LayoutFormatsUptoSaid : Prop := layoutFormatsUptoRow.holds Tryd.pinned (OpenSpec.upto layoutFormatsSpec)

/-- 'blockwaylaw02.LayoutBack', WHERE WHAT IT READS IS OF BULK AT MOST 1048576: true; the input reads as it did. -/
def layoutBackUptoRow : OpenClaim := { program := "ytefdjkakojfhnaadoor", sum := "a961dd6d7a2d7613b6b3be99b5567aae5ff42992fbe2e5de1f9d9bd7d45982cd", func := "blockway/blockwaylaw02.LayoutBack", spec := "layoutBack", unfollowed := true, recurses := true, named := ["internal/strconv.uint64pow10", "math/bits.deBruijn32tab", "math/bits.deBruijn64tab"], apart := false, laid := [("math/bits.deBruijn32tab", laid_math_bits_deBruijn32tab), ("math/bits.deBruijn64tab", laid_math_bits_deBruijn64tab), ("internal/strconv.uint64pow10", laid_internal_strconv_uint64pow10)], narrowed := true }
def LayoutBackUptoSaid : Prop := layoutBackUptoRow.holds Tryd.pinned (OpenSpec.upto layoutBackSpec)

/-- 'blockwaylaw01.FieldsJoins', WHERE WHAT IT READS IS OF BULK AT MOST 1048576: true; the input reads as it did. -/
def fieldsJoinsUptoRow : OpenClaim := { program := "ytefdjkakojfhnaadoor", sum := "a961dd6d7a2d7613b6b3be99b5567aae5ff42992fbe2e5de1f9d9bd7d45982cd", func := "blockway/blockwaylaw01.FieldsJoins", spec := "fieldsJoins", inPlace := ["internal/bytealg.CountString", "internal/bytealg.IndexByteString", "internal/bytealg.IndexString", "internal/abi.NoEscape", "internal/bytealg.MakeNoZero"], unfollowed := true, recurses := true, named := ["unicode/utf8.first", "unicode/utf8.acceptRanges", "internal/bytealg.MaxLen"], apart := false, laid := [("unicode/utf8.acceptRanges", laid_unicode_utf8_acceptRanges), ("unicode/utf8.first", laid_unicode_utf8_first)], narrowed := true }
def FieldsJoinsUptoSaid : Prop := fieldsJoinsUptoRow.holds Tryd.pinned (OpenSpec.upto fieldsJoinsSpec)

/-- 'blockwaylaw01.FieldsBack', WHERE WHAT IT READS IS OF BULK AT MOST 1048576: true; the input reads as it did. -/
def fieldsBackUptoRow : OpenClaim := { program := "ytefdjkakojfhnaadoor", sum := "a961dd6d7a2d7613b6b3be99b5567aae5ff42992fbe2e5de1f9d9bd7d45982cd", func := "blockway/blockwaylaw01.FieldsBack", spec := "fieldsBack", inPlace := ["internal/bytealg.CountString", "internal/bytealg.IndexByteString", "internal/bytealg.IndexString", "internal/abi.NoEscape", "internal/bytealg.MakeNoZero"], unfollowed := true, recurses := true, named := ["unicode/utf8.first", "unicode/utf8.acceptRanges", "internal/bytealg.MaxLen"], apart := false, laid := [("unicode/utf8.acceptRanges", laid_unicode_utf8_acceptRanges), ("unicode/utf8.first", laid_unicode_utf8_first)], narrowed := true }
def FieldsBackUptoSaid : Prop := fieldsBackUptoRow.holds Tryd.pinned (OpenSpec.upto fieldsBackSpec)

end Rows
end Go.Proofs.YtefdjkakojfhnaaDoor
