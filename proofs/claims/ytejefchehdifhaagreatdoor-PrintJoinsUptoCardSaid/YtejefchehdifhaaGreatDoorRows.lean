/-
  NARROWER THAN 'FOR EVERY INPUT', by the rows' own cells (each row's printed sentence says how): TokenScans: laid · TokenAtoms: laid · PrintTexts: loops, laid · PrintQuotes: laid · PrintApart: loops, laid · PrintJoins: loops, laid · PrintBack: loops, laid.
  DERIVED. THE GIVEN ROWS OF THIS SEAT. 7 by the template 'for every input the law returns true; each argument reads behind the call as it read before'; 0 by the template 'total and deterministic' (their statements: YtejefchehdifhaaGreatDoorTotals.lean).
  GIVEN WITH THE SEED: the statements are not yours to turn. If you find one false, say at which input.
  Laid BY PROGRAM, IN A SANDBOX (cutbox-rows.mjs): the forced cells as the released guide's own fill.sh prints them over the translation 1925140badfb3ce1… (all of the seat's roots in one cut). By AI agents, Wed Nov 11 2026. No macro, syntax, notation, axiom, sorry.
-/
import Derived.Test.YtejefchehdifhaaGreatDoorChecked
import GoSem.PinnedTables
import GoSem.Claim
import GoSem.ClaimJoined
import GoSem.ClaimMapViews
import Derived.JoinedTies
import Derived.KernelRfl
namespace Go.Proofs.YtejefchehdifhaaGreatDoor
/- THE CELL 'sum', in the pinned program and in every row, IS THE sha256 OF THE DUMP (.gsa) THAT YtejefchehdifhaaGreatDoorProg.lean LOADS. Nothing in Lean hashes anything: it is a label: what it is worth is what the hold of that sum in a sandbox is worth. -/
noncomputable def Tryz.pinned : Pinned := { name := "ytejefchehdifhaagreatdoor", sum := "1925140badfb3ce1ea3e9118e7f8eab8cf4dcbc0cb9b7d60bc5129ef29b93da1", checked := Tryz.checked }
namespace Rows
def none {H : Type} : Left H := { results := [], args := [] }

/- WHAT THE LISTED PACKAGE-LEVEL VARIABLES READ AS WHEN THE CALL BEGINS. Each datum BY PROGRAM (the guide's laid-datum.mjs) off the statement by which the dump's own 'gosem.cut.vars' lays the variable. In a bare row this is a premise. The card (YtejefchehdifhaaGreatDoorCards.lean) ties it to the program's text. -/
def laid_math_bits_deBruijn32tab {H : Type} : DataW H := .agg [.lit (.int .u8 0), .lit (.int .u8 1), .lit (.int .u8 28), .lit (.int .u8 2), .lit (.int .u8 29), .lit (.int .u8 14), .lit (.int .u8 24), .lit (.int .u8 3), .lit (.int .u8 30), .lit (.int .u8 22), .lit (.int .u8 20), .lit (.int .u8 15), .lit (.int .u8 25), .lit (.int .u8 17), .lit (.int .u8 4), .lit (.int .u8 8), .lit (.int .u8 31), .lit (.int .u8 27), .lit (.int .u8 13), .lit (.int .u8 23), .lit (.int .u8 21), .lit (.int .u8 19), .lit (.int .u8 16), .lit (.int .u8 7), .lit (.int .u8 26), .lit (.int .u8 12), .lit (.int .u8 18), .lit (.int .u8 6), .lit (.int .u8 11), .lit (.int .u8 5), .lit (.int .u8 10), .lit (.int .u8 9)]
def laid_math_bits_deBruijn64tab {H : Type} : DataW H := .agg [.lit (.int .u8 0), .lit (.int .u8 1), .lit (.int .u8 56), .lit (.int .u8 2), .lit (.int .u8 57), .lit (.int .u8 49), .lit (.int .u8 28), .lit (.int .u8 3), .lit (.int .u8 61), .lit (.int .u8 58), .lit (.int .u8 42), .lit (.int .u8 50), .lit (.int .u8 38), .lit (.int .u8 29), .lit (.int .u8 17), .lit (.int .u8 4), .lit (.int .u8 62), .lit (.int .u8 47), .lit (.int .u8 59), .lit (.int .u8 36), .lit (.int .u8 45), .lit (.int .u8 43), .lit (.int .u8 51), .lit (.int .u8 22), .lit (.int .u8 53), .lit (.int .u8 39), .lit (.int .u8 33), .lit (.int .u8 30), .lit (.int .u8 24), .lit (.int .u8 18), .lit (.int .u8 12), .lit (.int .u8 5), .lit (.int .u8 63), .lit (.int .u8 55), .lit (.int .u8 48), .lit (.int .u8 27), .lit (.int .u8 60), .lit (.int .u8 41), .lit (.int .u8 37), .lit (.int .u8 16), .lit (.int .u8 46), .lit (.int .u8 35), .lit (.int .u8 44), .lit (.int .u8 21), .lit (.int .u8 52), .lit (.int .u8 32), .lit (.int .u8 23), .lit (.int .u8 11), .lit (.int .u8 54), .lit (.int .u8 26), .lit (.int .u8 40), .lit (.int .u8 15), .lit (.int .u8 34), .lit (.int .u8 20), .lit (.int .u8 31), .lit (.int .u8 10), .lit (.int .u8 25), .lit (.int .u8 14), .lit (.int .u8 19), .lit (.int .u8 9), .lit (.int .u8 13), .lit (.int .u8 8), .lit (.int .u8 7), .lit (.int .u8 6)]
def laid_internal_strconv_uint64pow10 {H : Type} : DataW H := .agg [.lit (.int .u64 1), .lit (.int .u64 10), .lit (.int .u64 100), .lit (.int .u64 1000), .lit (.int .u64 10000), .lit (.int .u64 100000), .lit (.int .u64 1000000), .lit (.int .u64 10000000), .lit (.int .u64 100000000), .lit (.int .u64 1000000000), .lit (.int .u64 10000000000), .lit (.int .u64 100000000000), .lit (.int .u64 1000000000000), .lit (.int .u64 10000000000000), .lit (.int .u64 100000000000000), .lit (.int .u64 1000000000000000), .lit (.int .u64 10000000000000000), .lit (.int .u64 100000000000000000), .lit (.int .u64 1000000000000000000), .lit (.int .u64 10000000000000000000)]
def laid_unicode_utf8_acceptRanges {H : Type} : DataW H := .agg [.agg [.lit (.int .u8 128), .lit (.int .u8 191)], .agg [.lit (.int .u8 160), .lit (.int .u8 191)], .agg [.lit (.int .u8 128), .lit (.int .u8 159)], .agg [.lit (.int .u8 144), .lit (.int .u8 191)], .agg [.lit (.int .u8 128), .lit (.int .u8 143)], .agg [.lit (.int .u8 0), .lit (.int .u8 0)], .agg [.lit (.int .u8 0), .lit (.int .u8 0)], .agg [.lit (.int .u8 0), .lit (.int .u8 0)], .agg [.lit (.int .u8 0), .lit (.int .u8 0)], .agg [.lit (.int .u8 0), .lit (.int .u8 0)], .agg [.lit (.int .u8 0), .lit (.int .u8 0)], .agg [.lit (.int .u8 0), .lit (.int .u8 0)], .agg [.lit (.int .u8 0), .lit (.int .u8 0)], .agg [.lit (.int .u8 0), .lit (.int .u8 0)], .agg [.lit (.int .u8 0), .lit (.int .u8 0)], .agg [.lit (.int .u8 0), .lit (.int .u8 0)]]
def laid_strconv_ErrRange {H : Type} : DataW H := .iface "*errors.errorString" (.ptr (.agg [.lit (.string [118, 97, 108, 117, 101, 32, 111, 117, 116, 32, 111, 102, 32, 114, 97, 110, 103, 101])]))
def laid_strconv_ErrSyntax {H : Type} : DataW H := .iface "*errors.errorString" (.ptr (.agg [.lit (.string [105, 110, 118, 97, 108, 105, 100, 32, 115, 121, 110, 116, 97, 120])]))
def laid_marginalia_utf_names {H : Type} : DataW H := .agg [.agg [.lit (.int .i64 32), .lit (.string [115, 112, 97, 99, 101])], .agg [.lit (.int .i64 10), .lit (.string [110, 101, 119, 108, 105, 110, 101])], .agg [.lit (.int .i64 9), .lit (.string [116, 97, 98])], .agg [.lit (.int .i64 13), .lit (.string [114, 101, 116, 117, 114, 110])], .agg [.lit (.int .i64 0), .lit (.string [110, 117, 108, 108])], .agg [.lit (.int .i64 127), .lit (.string [100, 101, 108, 101, 116, 101])]]
def laid_marginalia_token_signs {H : Type} : DataW H := .agg [.agg [.lit (.string [35, 44, 64]), .lit (.int .i64 6), .lit (.string [117, 110, 115, 121, 110, 116, 97, 120, 45, 115, 112, 108, 105, 99, 105, 110, 103])], .agg [.lit (.string [35, 40]), .lit (.int .i64 3), .lit (.string [])], .agg [.lit (.string [35, 59]), .lit (.int .i64 5), .lit (.string [])], .agg [.lit (.string [35, 39]), .lit (.int .i64 6), .lit (.string [115, 121, 110, 116, 97, 120])], .agg [.lit (.string [35, 96]), .lit (.int .i64 6), .lit (.string [113, 117, 97, 115, 105, 115, 121, 110, 116, 97, 120])], .agg [.lit (.string [35, 44]), .lit (.int .i64 6), .lit (.string [117, 110, 115, 121, 110, 116, 97, 120])], .agg [.lit (.string [44, 64]), .lit (.int .i64 6), .lit (.string [117, 110, 113, 117, 111, 116, 101, 45, 115, 112, 108, 105, 99, 105, 110, 103])], .agg [.lit (.string [40]), .lit (.int .i64 1), .lit (.string [])], .agg [.lit (.string [41]), .lit (.int .i64 2), .lit (.string [])], .agg [.lit (.string [39]), .lit (.int .i64 6), .lit (.string [113, 117, 111, 116, 101])], .agg [.lit (.string [96]), .lit (.int .i64 6), .lit (.string [113, 117, 97, 115, 105, 113, 117, 111, 116, 101])], .agg [.lit (.string [44]), .lit (.int .i64 6), .lit (.string [117, 110, 113, 117, 111, 116, 101])]]
/-- One of Go's own tables, pinned by name: the form's constant. -/
def laid_unicode_utf8_first : DataW Unit := Go.Pinned.utf8First

/-- 'marginalialaw03.TokenScans': WHATEVER THE INPUT: true; the input reads as it did. -/
def tokenScansSpec : ChangeSpec := { name := "tokenScans", fn := fun _ => fun
  | [d1, d2] => { results := [.lit (.bool true)], args := [d1, d2] }
  | _ => none }
def tokenScansRow : OpenClaim := { program := "ytejefchehdifhaagreatdoor", sum := "1925140badfb3ce1ea3e9118e7f8eab8cf4dcbc0cb9b7d60bc5129ef29b93da1", func := "marginalia/marginalialaw03.TokenScans", spec := "tokenScans", inPlace := ["internal/bytealg.IndexByteString", "internal/bytealg.IndexString"], unfollowed := true, recurses := true, named := ["marginalia/token.signs", "marginalia/utf.names", "unicode/utf8.first", "unicode/utf8.acceptRanges", "strconv.ErrSyntax", "strconv.ErrRange", "internal/strconv.uint64pow10", "math/bits.deBruijn32tab", "math/bits.deBruijn64tab", "internal/bytealg.MaxLen"], apart := false, laid := [("math/bits.deBruijn32tab", laid_math_bits_deBruijn32tab), ("math/bits.deBruijn64tab", laid_math_bits_deBruijn64tab), ("internal/strconv.uint64pow10", laid_internal_strconv_uint64pow10), ("unicode/utf8.acceptRanges", laid_unicode_utf8_acceptRanges), ("strconv.ErrRange", laid_strconv_ErrRange), ("strconv.ErrSyntax", laid_strconv_ErrSyntax), ("marginalia/utf.names", laid_marginalia_utf_names), ("marginalia/token.signs", laid_marginalia_token_signs), ("unicode/utf8.first", laid_unicode_utf8_first)] }
def TokenScansSaid : Prop := tokenScansRow.holds Tryz.pinned (OpenSpec.ofChange tokenScansSpec)

/-- ITS FALSE NEIGHBOUR: 'it returns false'. Refute it at one input. -/
def tokenScansWrong : ChangeSpec := { name := "tokenScans", fn := fun _ => fun
  | [d1, d2] => { results := [.lit (.bool false)], args := [d1, d2] }
  | _ => none }
def TokenScansWrongFalsely : Prop := tokenScansRow.holds Tryz.pinned (OpenSpec.ofChange tokenScansWrong)

/-- 'marginalialaw03.TokenAtoms': WHATEVER THE INPUT: true; the input reads as it did. -/
def tokenAtomsSpec : ChangeSpec := { name := "tokenAtoms", fn := fun _ => fun
  | [d] => { results := [.lit (.bool true)], args := [d] }
  | _ => none }
def tokenAtomsRow : OpenClaim := { program := "ytejefchehdifhaagreatdoor", sum := "1925140badfb3ce1ea3e9118e7f8eab8cf4dcbc0cb9b7d60bc5129ef29b93da1", func := "marginalia/marginalialaw03.TokenAtoms", spec := "tokenAtoms", inPlace := ["internal/bytealg.IndexByteString", "internal/bytealg.IndexString"], unfollowed := true, recurses := true, named := ["marginalia/token.signs", "marginalia/utf.names", "unicode/utf8.first", "unicode/utf8.acceptRanges", "strconv.ErrSyntax", "strconv.ErrRange", "internal/strconv.uint64pow10", "math/bits.deBruijn32tab", "math/bits.deBruijn64tab", "internal/bytealg.MaxLen"], apart := false, laid := [("math/bits.deBruijn32tab", laid_math_bits_deBruijn32tab), ("math/bits.deBruijn64tab", laid_math_bits_deBruijn64tab), ("internal/strconv.uint64pow10", laid_internal_strconv_uint64pow10), ("unicode/utf8.acceptRanges", laid_unicode_utf8_acceptRanges), ("strconv.ErrRange", laid_strconv_ErrRange), ("strconv.ErrSyntax", laid_strconv_ErrSyntax), ("marginalia/utf.names", laid_marginalia_utf_names), ("marginalia/token.signs", laid_marginalia_token_signs), ("unicode/utf8.first", laid_unicode_utf8_first)] }
def TokenAtomsSaid : Prop := tokenAtomsRow.holds Tryz.pinned (OpenSpec.ofChange tokenAtomsSpec)

/-- ITS FALSE NEIGHBOUR: 'it returns false'. Refute it at one input. -/
def tokenAtomsWrong : ChangeSpec := { name := "tokenAtoms", fn := fun _ => fun
  | [d] => { results := [.lit (.bool false)], args := [d] }
  | _ => none }
def TokenAtomsWrongFalsely : Prop := tokenAtomsRow.holds Tryz.pinned (OpenSpec.ofChange tokenAtomsWrong)

/-- 'marginalialaw05.PrintTexts': WHATEVER THE INPUT: true; the input reads as it did. -/
def printTextsSpec : ChangeSpec := { name := "printTexts", fn := fun _ => fun
  | [d] => { results := [.lit (.bool true)], args := [d] }
  | _ => none }
def printTextsRow : OpenClaim := { program := "ytejefchehdifhaagreatdoor", sum := "1925140badfb3ce1ea3e9118e7f8eab8cf4dcbc0cb9b7d60bc5129ef29b93da1", func := "marginalia/marginalialaw05.PrintTexts", spec := "printTexts", inPlace := ["internal/bytealg.IndexByteString", "internal/bytealg.IndexString", "internal/abi.NoEscape", "internal/bytealg.MakeNoZero"], unfollowed := true, recurses := true, named := ["unicode/utf8.first", "unicode/utf8.acceptRanges", "strconv.ErrSyntax", "strconv.ErrRange", "internal/strconv.uint64pow10", "math/bits.deBruijn32tab", "math/bits.deBruijn64tab", "marginalia/utf.names", "internal/bytealg.MaxLen"], loops := true, apart := false, laid := [("math/bits.deBruijn32tab", laid_math_bits_deBruijn32tab), ("math/bits.deBruijn64tab", laid_math_bits_deBruijn64tab), ("internal/strconv.uint64pow10", laid_internal_strconv_uint64pow10), ("unicode/utf8.acceptRanges", laid_unicode_utf8_acceptRanges), ("strconv.ErrRange", laid_strconv_ErrRange), ("strconv.ErrSyntax", laid_strconv_ErrSyntax), ("marginalia/utf.names", laid_marginalia_utf_names), ("unicode/utf8.first", laid_unicode_utf8_first)] }
def PrintTextsSaid : Prop := printTextsRow.holds Tryz.pinned (OpenSpec.ofChange printTextsSpec)

/-- ITS FALSE NEIGHBOUR: 'it returns false'. Refute it at one input. -/
def printTextsWrong : ChangeSpec := { name := "printTexts", fn := fun _ => fun
  | [d] => { results := [.lit (.bool false)], args := [d] }
  | _ => none }
def PrintTextsWrongFalsely : Prop := printTextsRow.holds Tryz.pinned (OpenSpec.ofChange printTextsWrong)

/-- 'marginalialaw05.PrintQuotes': WHATEVER THE INPUT: true; the input reads as it did. -/
def printQuotesSpec : ChangeSpec := { name := "printQuotes", fn := fun _ => fun
  | [d] => { results := [.lit (.bool true)], args := [d] }
  | _ => none }
def printQuotesRow : OpenClaim := { program := "ytejefchehdifhaagreatdoor", sum := "1925140badfb3ce1ea3e9118e7f8eab8cf4dcbc0cb9b7d60bc5129ef29b93da1", func := "marginalia/marginalialaw05.PrintQuotes", spec := "printQuotes", inPlace := ["internal/bytealg.IndexByteString", "internal/bytealg.IndexString", "internal/abi.NoEscape", "internal/bytealg.MakeNoZero"], unfollowed := true, recurses := true, named := ["unicode/utf8.first", "unicode/utf8.acceptRanges", "strconv.ErrSyntax", "strconv.ErrRange", "internal/strconv.uint64pow10", "math/bits.deBruijn32tab", "math/bits.deBruijn64tab", "marginalia/utf.names", "internal/bytealg.MaxLen"], apart := false, laid := [("math/bits.deBruijn32tab", laid_math_bits_deBruijn32tab), ("math/bits.deBruijn64tab", laid_math_bits_deBruijn64tab), ("internal/strconv.uint64pow10", laid_internal_strconv_uint64pow10), ("unicode/utf8.acceptRanges", laid_unicode_utf8_acceptRanges), ("strconv.ErrRange", laid_strconv_ErrRange), ("strconv.ErrSyntax", laid_strconv_ErrSyntax), ("marginalia/utf.names", laid_marginalia_utf_names), ("unicode/utf8.first", laid_unicode_utf8_first)] }
def PrintQuotesSaid : Prop := printQuotesRow.holds Tryz.pinned (OpenSpec.ofChange printQuotesSpec)

/-- ITS FALSE NEIGHBOUR: 'it returns false'. Refute it at one input. -/
def printQuotesWrong : ChangeSpec := { name := "printQuotes", fn := fun _ => fun
  | [d] => { results := [.lit (.bool false)], args := [d] }
  | _ => none }
def PrintQuotesWrongFalsely : Prop := printQuotesRow.holds Tryz.pinned (OpenSpec.ofChange printQuotesWrong)

/-- 'marginalialaw05.PrintApart': WHATEVER THE INPUT: true; the input reads as it did. -/
def printApartSpec : ChangeSpec := { name := "printApart", fn := fun _ => fun
  | [d1, d2] => { results := [.lit (.bool true)], args := [d1, d2] }
  | _ => none }
def printApartRow : OpenClaim := { program := "ytejefchehdifhaagreatdoor", sum := "1925140badfb3ce1ea3e9118e7f8eab8cf4dcbc0cb9b7d60bc5129ef29b93da1", func := "marginalia/marginalialaw05.PrintApart", spec := "printApart", inPlace := ["internal/bytealg.IndexByteString", "internal/bytealg.IndexString", "internal/abi.NoEscape", "internal/bytealg.MakeNoZero"], unfollowed := true, recurses := true, named := ["unicode/utf8.first", "unicode/utf8.acceptRanges", "strconv.ErrSyntax", "strconv.ErrRange", "internal/strconv.uint64pow10", "math/bits.deBruijn32tab", "math/bits.deBruijn64tab", "marginalia/utf.names", "internal/bytealg.MaxLen"], loops := true, apart := false, laid := [("math/bits.deBruijn32tab", laid_math_bits_deBruijn32tab), ("math/bits.deBruijn64tab", laid_math_bits_deBruijn64tab), ("internal/strconv.uint64pow10", laid_internal_strconv_uint64pow10), ("unicode/utf8.acceptRanges", laid_unicode_utf8_acceptRanges), ("strconv.ErrRange", laid_strconv_ErrRange), ("strconv.ErrSyntax", laid_strconv_ErrSyntax), ("marginalia/utf.names", laid_marginalia_utf_names), ("unicode/utf8.first", laid_unicode_utf8_first)] }
def PrintApartSaid : Prop := printApartRow.holds Tryz.pinned (OpenSpec.ofChange printApartSpec)

/-- ITS FALSE NEIGHBOUR: 'it returns false'. Refute it at one input. -/
def printApartWrong : ChangeSpec := { name := "printApart", fn := fun _ => fun
  | [d1, d2] => { results := [.lit (.bool false)], args := [d1, d2] }
  | _ => none }
def PrintApartWrongFalsely : Prop := printApartRow.holds Tryz.pinned (OpenSpec.ofChange printApartWrong)

/-- 'marginalialaw05.PrintJoins': WHATEVER THE INPUT: true; the input reads as it did. -/
def printJoinsSpec : ChangeSpec := { name := "printJoins", fn := fun _ => fun
  | [d1, d2] => { results := [.lit (.bool true)], args := [d1, d2] }
  | _ => none }
def printJoinsRow : OpenClaim := { program := "ytejefchehdifhaagreatdoor", sum := "1925140badfb3ce1ea3e9118e7f8eab8cf4dcbc0cb9b7d60bc5129ef29b93da1", func := "marginalia/marginalialaw05.PrintJoins", spec := "printJoins", inPlace := ["internal/bytealg.IndexByteString", "internal/bytealg.IndexString", "internal/abi.NoEscape", "internal/bytealg.MakeNoZero"], unfollowed := true, recurses := true, named := ["unicode/utf8.first", "unicode/utf8.acceptRanges", "strconv.ErrSyntax", "strconv.ErrRange", "internal/strconv.uint64pow10", "math/bits.deBruijn32tab", "math/bits.deBruijn64tab", "marginalia/utf.names", "internal/bytealg.MaxLen"], loops := true, apart := false, laid := [("math/bits.deBruijn32tab", laid_math_bits_deBruijn32tab), ("math/bits.deBruijn64tab", laid_math_bits_deBruijn64tab), ("internal/strconv.uint64pow10", laid_internal_strconv_uint64pow10), ("unicode/utf8.acceptRanges", laid_unicode_utf8_acceptRanges), ("strconv.ErrRange", laid_strconv_ErrRange), ("strconv.ErrSyntax", laid_strconv_ErrSyntax), ("marginalia/utf.names", laid_marginalia_utf_names), ("unicode/utf8.first", laid_unicode_utf8_first)] }
def PrintJoinsSaid : Prop := printJoinsRow.holds Tryz.pinned (OpenSpec.ofChange printJoinsSpec)

/-- ITS FALSE NEIGHBOUR: 'it returns false'. Refute it at one input. -/
def printJoinsWrong : ChangeSpec := { name := "printJoins", fn := fun _ => fun
  | [d1, d2] => { results := [.lit (.bool false)], args := [d1, d2] }
  | _ => none }
def PrintJoinsWrongFalsely : Prop := printJoinsRow.holds Tryz.pinned (OpenSpec.ofChange printJoinsWrong)

/-- 'marginalialaw05.PrintBack': WHATEVER THE INPUT: true; the input reads as it did. -/
def printBackSpec : ChangeSpec := { name := "printBack", fn := fun _ => fun
  | [d] => { results := [.lit (.bool true)], args := [d] }
  | _ => none }
def printBackRow : OpenClaim := { program := "ytejefchehdifhaagreatdoor", sum := "1925140badfb3ce1ea3e9118e7f8eab8cf4dcbc0cb9b7d60bc5129ef29b93da1", func := "marginalia/marginalialaw05.PrintBack", spec := "printBack", inPlace := ["internal/bytealg.IndexByteString", "internal/bytealg.IndexString", "internal/abi.NoEscape", "internal/bytealg.MakeNoZero"], unfollowed := true, recurses := true, named := ["unicode/utf8.first", "unicode/utf8.acceptRanges", "strconv.ErrSyntax", "strconv.ErrRange", "internal/strconv.uint64pow10", "math/bits.deBruijn32tab", "math/bits.deBruijn64tab", "marginalia/utf.names", "marginalia/token.signs", "internal/bytealg.MaxLen"], loops := true, apart := false, laid := [("math/bits.deBruijn32tab", laid_math_bits_deBruijn32tab), ("math/bits.deBruijn64tab", laid_math_bits_deBruijn64tab), ("internal/strconv.uint64pow10", laid_internal_strconv_uint64pow10), ("unicode/utf8.acceptRanges", laid_unicode_utf8_acceptRanges), ("strconv.ErrRange", laid_strconv_ErrRange), ("strconv.ErrSyntax", laid_strconv_ErrSyntax), ("marginalia/utf.names", laid_marginalia_utf_names), ("marginalia/token.signs", laid_marginalia_token_signs), ("unicode/utf8.first", laid_unicode_utf8_first)] }
def PrintBackSaid : Prop := printBackRow.holds Tryz.pinned (OpenSpec.ofChange printBackSpec)

/-- ITS FALSE NEIGHBOUR: 'it returns false'. Refute it at one input. -/
def printBackWrong : ChangeSpec := { name := "printBack", fn := fun _ => fun
  | [d] => { results := [.lit (.bool false)], args := [d] }
  | _ => none }
def PrintBackWrongFalsely : Prop := printBackRow.holds Tryz.pinned (OpenSpec.ofChange printBackWrong)

/- THE SECOND FORM. 'bulk': how many values and letters a reading holds, each counted each time it is reached (what is shared counts as often as it is met; a slice's spare places count too). A statement '..UptoSaid' is the law's where the arguments, and the package variables that the reading takes, are together of bulk at most 1048576: NARROWER than '..Said'. Prove '..Said' where nothing that the law and all that it calls make is longer than what came in: it says more and counts as full. Else prove '..UptoSaid'. A law counts once. -/
mutual
def uptoBulk {H : Type} : DataW H → Nat
  | .lit (.string bytes) => bytes.length + 1
  | .lit _ => 1
  | .nil => 1
  | .ptr d => uptoBulk d + 1
  | .slice elems spare => uptoBulkAll elems + uptoBulkAll spare + 1
  | .agg parts => uptoBulkAll parts + 1
  | .iface _ d => uptoBulk d + 1
  | .map entries => uptoBulkEntries entries + 1
  | .held _ => 1
def uptoBulkAll {H : Type} : List (DataW H) → Nat
  | [] => 0
  | d :: r => uptoBulk d + uptoBulkAll r
def uptoBulkEntries {H : Type} : List (Lit × DataW H) → Nat
  | [] => 0
  | x :: r => uptoBulkEntry x + uptoBulkEntries r
def uptoBulkEntry {H : Type} : Lit × DataW H → Nat
  | (.string bytes, d) => bytes.length + uptoBulk d + 1
  | (_, d) => uptoBulk d + 1
 end
def uptoSmall : (H : Type) → List (DataW H) → Bool := fun _ ds => decide (uptoBulkAll ds ≤ 1048576)
def OpenSpec.upto (s : _root_.Go.ChangeSpec) : _root_.Go.OpenSpec := { _root_.Go.OpenSpec.ofChange s with cond := some uptoSmall }

/-- 'marginalialaw03.TokenScans', WHERE WHAT IT READS IS OF BULK AT MOST 1048576: true; the input reads as it did. -/
def tokenScansUptoRow : OpenClaim := { program := "ytejefchehdifhaagreatdoor", sum := "1925140badfb3ce1ea3e9118e7f8eab8cf4dcbc0cb9b7d60bc5129ef29b93da1", func := "marginalia/marginalialaw03.TokenScans", spec := "tokenScans", inPlace := ["internal/bytealg.IndexByteString", "internal/bytealg.IndexString"], unfollowed := true, recurses := true, named := ["marginalia/token.signs", "marginalia/utf.names", "unicode/utf8.first", "unicode/utf8.acceptRanges", "strconv.ErrSyntax", "strconv.ErrRange", "internal/strconv.uint64pow10", "math/bits.deBruijn32tab", "math/bits.deBruijn64tab", "internal/bytealg.MaxLen"], apart := false, laid := [("math/bits.deBruijn32tab", laid_math_bits_deBruijn32tab), ("math/bits.deBruijn64tab", laid_math_bits_deBruijn64tab), ("internal/strconv.uint64pow10", laid_internal_strconv_uint64pow10), ("unicode/utf8.acceptRanges", laid_unicode_utf8_acceptRanges), ("strconv.ErrRange", laid_strconv_ErrRange), ("strconv.ErrSyntax", laid_strconv_ErrSyntax), ("marginalia/utf.names", laid_marginalia_utf_names), ("marginalia/token.signs", laid_marginalia_token_signs), ("unicode/utf8.first", laid_unicode_utf8_first)], narrowed := true }
def TokenScansUptoSaid : Prop := tokenScansUptoRow.holds Tryz.pinned (OpenSpec.upto tokenScansSpec)

/-- 'marginalialaw03.TokenAtoms', WHERE WHAT IT READS IS OF BULK AT MOST 1048576: true; the input reads as it did. -/
def tokenAtomsUptoRow : OpenClaim := { program := "ytejefchehdifhaagreatdoor", sum := "1925140badfb3ce1ea3e9118e7f8eab8cf4dcbc0cb9b7d60bc5129ef29b93da1", func := "marginalia/marginalialaw03.TokenAtoms", spec := "tokenAtoms", inPlace := ["internal/bytealg.IndexByteString", "internal/bytealg.IndexString"], unfollowed := true, recurses := true, named := ["marginalia/token.signs", "marginalia/utf.names", "unicode/utf8.first", "unicode/utf8.acceptRanges", "strconv.ErrSyntax", "strconv.ErrRange", "internal/strconv.uint64pow10", "math/bits.deBruijn32tab", "math/bits.deBruijn64tab", "internal/bytealg.MaxLen"], apart := false, laid := [("math/bits.deBruijn32tab", laid_math_bits_deBruijn32tab), ("math/bits.deBruijn64tab", laid_math_bits_deBruijn64tab), ("internal/strconv.uint64pow10", laid_internal_strconv_uint64pow10), ("unicode/utf8.acceptRanges", laid_unicode_utf8_acceptRanges), ("strconv.ErrRange", laid_strconv_ErrRange), ("strconv.ErrSyntax", laid_strconv_ErrSyntax), ("marginalia/utf.names", laid_marginalia_utf_names), ("marginalia/token.signs", laid_marginalia_token_signs), ("unicode/utf8.first", laid_unicode_utf8_first)], narrowed := true }
def TokenAtomsUptoSaid : Prop := tokenAtomsUptoRow.holds Tryz.pinned (OpenSpec.upto tokenAtomsSpec)

/-- 'marginalialaw05.PrintTexts', WHERE WHAT IT READS IS OF BULK AT MOST 1048576: true; the input reads as it did. -/
def printTextsUptoRow : OpenClaim := { program := "ytejefchehdifhaagreatdoor", sum := "1925140badfb3ce1ea3e9118e7f8eab8cf4dcbc0cb9b7d60bc5129ef29b93da1", func := "marginalia/marginalialaw05.PrintTexts", spec := "printTexts", inPlace := ["internal/bytealg.IndexByteString", "internal/bytealg.IndexString", "internal/abi.NoEscape", "internal/bytealg.MakeNoZero"], unfollowed := true, recurses := true, named := ["unicode/utf8.first", "unicode/utf8.acceptRanges", "strconv.ErrSyntax", "strconv.ErrRange", "internal/strconv.uint64pow10", "math/bits.deBruijn32tab", "math/bits.deBruijn64tab", "marginalia/utf.names", "internal/bytealg.MaxLen"], loops := true, apart := false, laid := [("math/bits.deBruijn32tab", laid_math_bits_deBruijn32tab), ("math/bits.deBruijn64tab", laid_math_bits_deBruijn64tab), ("internal/strconv.uint64pow10", laid_internal_strconv_uint64pow10), ("unicode/utf8.acceptRanges", laid_unicode_utf8_acceptRanges), ("strconv.ErrRange", laid_strconv_ErrRange), ("strconv.ErrSyntax", laid_strconv_ErrSyntax), ("marginalia/utf.names", laid_marginalia_utf_names), ("unicode/utf8.first", laid_unicode_utf8_first)], narrowed := true }
def PrintTextsUptoSaid : Prop := printTextsUptoRow.holds Tryz.pinned (OpenSpec.upto printTextsSpec)

/-- 'marginalialaw05.PrintQuotes', WHERE WHAT IT READS IS OF BULK AT MOST 1048576: true; the input reads as it did. -/
def printQuotesUptoRow : OpenClaim := { program := "ytejefchehdifhaagreatdoor", sum := "1925140badfb3ce1ea3e9118e7f8eab8cf4dcbc0cb9b7d60bc5129ef29b93da1", func := "marginalia/marginalialaw05.PrintQuotes", spec := "printQuotes", inPlace := ["internal/bytealg.IndexByteString", "internal/bytealg.IndexString", "internal/abi.NoEscape", "internal/bytealg.MakeNoZero"], unfollowed := true, recurses := true, named := ["unicode/utf8.first", "unicode/utf8.acceptRanges", "strconv.ErrSyntax", "strconv.ErrRange", "internal/strconv.uint64pow10", "math/bits.deBruijn32tab", "math/bits.deBruijn64tab", "marginalia/utf.names", "internal/bytealg.MaxLen"], apart := false, laid := [("math/bits.deBruijn32tab", laid_math_bits_deBruijn32tab), ("math/bits.deBruijn64tab", laid_math_bits_deBruijn64tab), ("internal/strconv.uint64pow10", laid_internal_strconv_uint64pow10), ("unicode/utf8.acceptRanges", laid_unicode_utf8_acceptRanges), ("strconv.ErrRange", laid_strconv_ErrRange), ("strconv.ErrSyntax", laid_strconv_ErrSyntax), ("marginalia/utf.names", laid_marginalia_utf_names), ("unicode/utf8.first", laid_unicode_utf8_first)], narrowed := true }
def PrintQuotesUptoSaid : Prop := printQuotesUptoRow.holds Tryz.pinned (OpenSpec.upto printQuotesSpec)

/-- 'marginalialaw05.PrintApart', WHERE WHAT IT READS IS OF BULK AT MOST 1048576: true; the input reads as it did. -/
def printApartUptoRow : OpenClaim := { program := "ytejefchehdifhaagreatdoor", sum := "1925140badfb3ce1ea3e9118e7f8eab8cf4dcbc0cb9b7d60bc5129ef29b93da1", func := "marginalia/marginalialaw05.PrintApart", spec := "printApart", inPlace := ["internal/bytealg.IndexByteString", "internal/bytealg.IndexString", "internal/abi.NoEscape", "internal/bytealg.MakeNoZero"], unfollowed := true, recurses := true, named := ["unicode/utf8.first", "unicode/utf8.acceptRanges", "strconv.ErrSyntax", "strconv.ErrRange", "internal/strconv.uint64pow10", "math/bits.deBruijn32tab", "math/bits.deBruijn64tab", "marginalia/utf.names", "internal/bytealg.MaxLen"], loops := true, apart := false, laid := [("math/bits.deBruijn32tab", laid_math_bits_deBruijn32tab), ("math/bits.deBruijn64tab", laid_math_bits_deBruijn64tab), ("internal/strconv.uint64pow10", laid_internal_strconv_uint64pow10), ("unicode/utf8.acceptRanges", laid_unicode_utf8_acceptRanges), ("strconv.ErrRange", laid_strconv_ErrRange), ("strconv.ErrSyntax", laid_strconv_ErrSyntax), ("marginalia/utf.names", laid_marginalia_utf_names), ("unicode/utf8.first", laid_unicode_utf8_first)], narrowed := true }
def PrintApartUptoSaid : Prop := printApartUptoRow.holds Tryz.pinned (OpenSpec.upto printApartSpec)

/-- 'marginalialaw05.PrintJoins', WHERE WHAT IT READS IS OF BULK AT MOST 1048576: true; the input reads as it did. -/
def printJoinsUptoRow : OpenClaim := { program := "ytejefchehdifhaagreatdoor", sum := "1925140badfb3ce1ea3e9118e7f8eab8cf4dcbc0cb9b7d60bc5129ef29b93da1", func := "marginalia/marginalialaw05.PrintJoins", spec := "printJoins", inPlace := ["internal/bytealg.IndexByteString", "internal/bytealg.IndexString", "internal/abi.NoEscape", "internal/bytealg.MakeNoZero"], unfollowed := true, recurses := true, named := ["unicode/utf8.first", "unicode/utf8.acceptRanges", "strconv.ErrSyntax", "strconv.ErrRange", "internal/strconv.uint64pow10", "math/bits.deBruijn32tab", "math/bits.deBruijn64tab", "marginalia/utf.names", "internal/bytealg.MaxLen"], loops := true, apart := false, laid := [("math/bits.deBruijn32tab", laid_math_bits_deBruijn32tab), ("math/bits.deBruijn64tab", laid_math_bits_deBruijn64tab), ("internal/strconv.uint64pow10", laid_internal_strconv_uint64pow10), ("unicode/utf8.acceptRanges", laid_unicode_utf8_acceptRanges), ("strconv.ErrRange", laid_strconv_ErrRange), ("strconv.ErrSyntax", laid_strconv_ErrSyntax), ("marginalia/utf.names", laid_marginalia_utf_names), ("unicode/utf8.first", laid_unicode_utf8_first)], narrowed := true }
def PrintJoinsUptoSaid : Prop := printJoinsUptoRow.holds Tryz.pinned (OpenSpec.upto printJoinsSpec)

/-- 'marginalialaw05.PrintBack', WHERE WHAT IT READS IS OF BULK AT MOST 1048576: true; the input reads as it did. -/
def printBackUptoRow : OpenClaim := { program := "ytejefchehdifhaagreatdoor", sum := "1925140badfb3ce1ea3e9118e7f8eab8cf4dcbc0cb9b7d60bc5129ef29b93da1", func := "marginalia/marginalialaw05.PrintBack", spec := "printBack", inPlace := ["internal/bytealg.IndexByteString", "internal/bytealg.IndexString", "internal/abi.NoEscape", "internal/bytealg.MakeNoZero"], unfollowed := true, recurses := true, named := ["unicode/utf8.first", "unicode/utf8.acceptRanges", "strconv.ErrSyntax", "strconv.ErrRange", "internal/strconv.uint64pow10", "math/bits.deBruijn32tab", "math/bits.deBruijn64tab", "marginalia/utf.names", "marginalia/token.signs", "internal/bytealg.MaxLen"], loops := true, apart := false, laid := [("math/bits.deBruijn32tab", laid_math_bits_deBruijn32tab), ("math/bits.deBruijn64tab", laid_math_bits_deBruijn64tab), ("internal/strconv.uint64pow10", laid_internal_strconv_uint64pow10), ("unicode/utf8.acceptRanges", laid_unicode_utf8_acceptRanges), ("strconv.ErrRange", laid_strconv_ErrRange), ("strconv.ErrSyntax", laid_strconv_ErrSyntax), ("marginalia/utf.names", laid_marginalia_utf_names), ("marginalia/token.signs", laid_marginalia_token_signs), ("unicode/utf8.first", laid_unicode_utf8_first)], narrowed := true }
def PrintBackUptoSaid : Prop := printBackUptoRow.holds Tryz.pinned (OpenSpec.upto printBackSpec)

end Rows
end Go.Proofs.YtejefchehdifhaaGreatDoor
