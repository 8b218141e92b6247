/-
  NARROWER THAN 'FOR EVERY INPUT', by the rows' own cells (each row's printed sentence says how): ReadGives: laid · ReadDeep: laid · ReadMany: laid · ReadDots: loops, laid · ReadSame: loops, laid · ReadShorts: loops, laid · ReadSound: loops, laid · PrintApart: loops, laid · PrintBack: loops, laid · CoreFrames: loops, laid · CoreSound: loops, laid · CoreDeep: laid.
  DERIVED. THE GIVEN ROWS OF THIS SEAT. 12 by the template 'for every input the law returns true; each argument reads behind the call as it read before'; 0 by the template 'total and deterministic' (their statements: YtenkkekooimpjaaGreatDoorTotals.lean).
  GIVEN WITH THE SEED: the statements are not yours to turn. If you find one false, say at which input.
  Laid BY PROGRAM, IN A SANDBOX (cutbox-rows.mjs): the forced cells as the released guide's own fill.sh prints them over the translation c891307c74d9ded4… (all of the seat's roots in one cut). By AI agents, Wed Nov 11 2026. No macro, syntax, notation, axiom, sorry.
-/
import Derived.Test.YtenkkekooimpjaaGreatDoorChecked
import GoSem.PinnedTables
import GoSem.Claim
import GoSem.ClaimJoined
import GoSem.ClaimMapViews
import Derived.JoinedTies
import Derived.KernelRfl
namespace Go.Proofs.YtenkkekooimpjaaGreatDoor
/- THE CELL 'sum', in the pinned program and in every row, IS THE sha256 OF THE DUMP (.gsa) THAT YtenkkekooimpjaaGreatDoorProg.lean LOADS. Nothing in Lean hashes anything: it is a label: what it is worth is what the hold of that sum in a sandbox is worth. -/
noncomputable def Tryz.pinned : Pinned := { name := "ytenkkekooimpjaagreatdoor", sum := "c891307c74d9ded48233846369fba9cda0980b68e1625f0ff2d780d392b088d7", checked := Tryz.checked }
namespace Rows
def none {H : Type} : Left H := { results := [], args := [] }

/- WHAT THE LISTED PACKAGE-LEVEL VARIABLES READ AS WHEN THE CALL BEGINS. Each datum BY PROGRAM (the guide's laid-datum.mjs) off the statement by which the dump's own 'gosem.cut.vars' lays the variable. In a bare row this is a premise. The card (YtenkkekooimpjaaGreatDoorCards.lean) ties it to the program's text. -/
def laid_math_bits_deBruijn32tab {H : Type} : DataW H := .agg [.lit (.int .u8 0), .lit (.int .u8 1), .lit (.int .u8 28), .lit (.int .u8 2), .lit (.int .u8 29), .lit (.int .u8 14), .lit (.int .u8 24), .lit (.int .u8 3), .lit (.int .u8 30), .lit (.int .u8 22), .lit (.int .u8 20), .lit (.int .u8 15), .lit (.int .u8 25), .lit (.int .u8 17), .lit (.int .u8 4), .lit (.int .u8 8), .lit (.int .u8 31), .lit (.int .u8 27), .lit (.int .u8 13), .lit (.int .u8 23), .lit (.int .u8 21), .lit (.int .u8 19), .lit (.int .u8 16), .lit (.int .u8 7), .lit (.int .u8 26), .lit (.int .u8 12), .lit (.int .u8 18), .lit (.int .u8 6), .lit (.int .u8 11), .lit (.int .u8 5), .lit (.int .u8 10), .lit (.int .u8 9)]
def laid_math_bits_deBruijn64tab {H : Type} : DataW H := .agg [.lit (.int .u8 0), .lit (.int .u8 1), .lit (.int .u8 56), .lit (.int .u8 2), .lit (.int .u8 57), .lit (.int .u8 49), .lit (.int .u8 28), .lit (.int .u8 3), .lit (.int .u8 61), .lit (.int .u8 58), .lit (.int .u8 42), .lit (.int .u8 50), .lit (.int .u8 38), .lit (.int .u8 29), .lit (.int .u8 17), .lit (.int .u8 4), .lit (.int .u8 62), .lit (.int .u8 47), .lit (.int .u8 59), .lit (.int .u8 36), .lit (.int .u8 45), .lit (.int .u8 43), .lit (.int .u8 51), .lit (.int .u8 22), .lit (.int .u8 53), .lit (.int .u8 39), .lit (.int .u8 33), .lit (.int .u8 30), .lit (.int .u8 24), .lit (.int .u8 18), .lit (.int .u8 12), .lit (.int .u8 5), .lit (.int .u8 63), .lit (.int .u8 55), .lit (.int .u8 48), .lit (.int .u8 27), .lit (.int .u8 60), .lit (.int .u8 41), .lit (.int .u8 37), .lit (.int .u8 16), .lit (.int .u8 46), .lit (.int .u8 35), .lit (.int .u8 44), .lit (.int .u8 21), .lit (.int .u8 52), .lit (.int .u8 32), .lit (.int .u8 23), .lit (.int .u8 11), .lit (.int .u8 54), .lit (.int .u8 26), .lit (.int .u8 40), .lit (.int .u8 15), .lit (.int .u8 34), .lit (.int .u8 20), .lit (.int .u8 31), .lit (.int .u8 10), .lit (.int .u8 25), .lit (.int .u8 14), .lit (.int .u8 19), .lit (.int .u8 9), .lit (.int .u8 13), .lit (.int .u8 8), .lit (.int .u8 7), .lit (.int .u8 6)]
def laid_internal_strconv_uint64pow10 {H : Type} : DataW H := .agg [.lit (.int .u64 1), .lit (.int .u64 10), .lit (.int .u64 100), .lit (.int .u64 1000), .lit (.int .u64 10000), .lit (.int .u64 100000), .lit (.int .u64 1000000), .lit (.int .u64 10000000), .lit (.int .u64 100000000), .lit (.int .u64 1000000000), .lit (.int .u64 10000000000), .lit (.int .u64 100000000000), .lit (.int .u64 1000000000000), .lit (.int .u64 10000000000000), .lit (.int .u64 100000000000000), .lit (.int .u64 1000000000000000), .lit (.int .u64 10000000000000000), .lit (.int .u64 100000000000000000), .lit (.int .u64 1000000000000000000), .lit (.int .u64 10000000000000000000)]
def laid_unicode_utf8_acceptRanges {H : Type} : DataW H := .agg [.agg [.lit (.int .u8 128), .lit (.int .u8 191)], .agg [.lit (.int .u8 160), .lit (.int .u8 191)], .agg [.lit (.int .u8 128), .lit (.int .u8 159)], .agg [.lit (.int .u8 144), .lit (.int .u8 191)], .agg [.lit (.int .u8 128), .lit (.int .u8 143)], .agg [.lit (.int .u8 0), .lit (.int .u8 0)], .agg [.lit (.int .u8 0), .lit (.int .u8 0)], .agg [.lit (.int .u8 0), .lit (.int .u8 0)], .agg [.lit (.int .u8 0), .lit (.int .u8 0)], .agg [.lit (.int .u8 0), .lit (.int .u8 0)], .agg [.lit (.int .u8 0), .lit (.int .u8 0)], .agg [.lit (.int .u8 0), .lit (.int .u8 0)], .agg [.lit (.int .u8 0), .lit (.int .u8 0)], .agg [.lit (.int .u8 0), .lit (.int .u8 0)], .agg [.lit (.int .u8 0), .lit (.int .u8 0)], .agg [.lit (.int .u8 0), .lit (.int .u8 0)]]
def laid_strconv_ErrRange {H : Type} : DataW H := .iface "*errors.errorString" (.ptr (.agg [.lit (.string [118, 97, 108, 117, 101, 32, 111, 117, 116, 32, 111, 102, 32, 114, 97, 110, 103, 101])]))
def laid_strconv_ErrSyntax {H : Type} : DataW H := .iface "*errors.errorString" (.ptr (.agg [.lit (.string [105, 110, 118, 97, 108, 105, 100, 32, 115, 121, 110, 116, 97, 120])]))
def laid_marginalia_utf_names {H : Type} : DataW H := .agg [.agg [.lit (.int .i64 32), .lit (.string [115, 112, 97, 99, 101])], .agg [.lit (.int .i64 10), .lit (.string [110, 101, 119, 108, 105, 110, 101])], .agg [.lit (.int .i64 9), .lit (.string [116, 97, 98])], .agg [.lit (.int .i64 13), .lit (.string [114, 101, 116, 117, 114, 110])], .agg [.lit (.int .i64 0), .lit (.string [110, 117, 108, 108])], .agg [.lit (.int .i64 127), .lit (.string [100, 101, 108, 101, 116, 101])]]
def laid_marginalia_token_signs {H : Type} : DataW H := .agg [.agg [.lit (.string [35, 44, 64]), .lit (.int .i64 6), .lit (.string [117, 110, 115, 121, 110, 116, 97, 120, 45, 115, 112, 108, 105, 99, 105, 110, 103])], .agg [.lit (.string [35, 40]), .lit (.int .i64 3), .lit (.string [])], .agg [.lit (.string [35, 59]), .lit (.int .i64 5), .lit (.string [])], .agg [.lit (.string [35, 39]), .lit (.int .i64 6), .lit (.string [115, 121, 110, 116, 97, 120])], .agg [.lit (.string [35, 96]), .lit (.int .i64 6), .lit (.string [113, 117, 97, 115, 105, 115, 121, 110, 116, 97, 120])], .agg [.lit (.string [35, 44]), .lit (.int .i64 6), .lit (.string [117, 110, 115, 121, 110, 116, 97, 120])], .agg [.lit (.string [44, 64]), .lit (.int .i64 6), .lit (.string [117, 110, 113, 117, 111, 116, 101, 45, 115, 112, 108, 105, 99, 105, 110, 103])], .agg [.lit (.string [40]), .lit (.int .i64 1), .lit (.string [])], .agg [.lit (.string [41]), .lit (.int .i64 2), .lit (.string [])], .agg [.lit (.string [39]), .lit (.int .i64 6), .lit (.string [113, 117, 111, 116, 101])], .agg [.lit (.string [96]), .lit (.int .i64 6), .lit (.string [113, 117, 97, 115, 105, 113, 117, 111, 116, 101])], .agg [.lit (.string [44]), .lit (.int .i64 6), .lit (.string [117, 110, 113, 117, 111, 116, 101])]]
/-- One of Go's own tables, pinned by name: the form's constant. -/
def laid_unicode_utf8_first : DataW Unit := Go.Pinned.utf8First

/-- 'marginalialaw04.ReadGives': WHATEVER THE INPUT: true; the input reads as it did. -/
def readGivesSpec : ChangeSpec := { name := "readGives", fn := fun _ => fun
  | [d1, d2] => { results := [.lit (.bool true)], args := [d1, d2] }
  | _ => none }
def readGivesRow : OpenClaim := { program := "ytenkkekooimpjaagreatdoor", sum := "c891307c74d9ded48233846369fba9cda0980b68e1625f0ff2d780d392b088d7", func := "marginalia/marginalialaw04.ReadGives", spec := "readGives", inPlace := ["internal/bytealg.IndexByteString", "internal/bytealg.IndexString"], unfollowed := true, recurses := true, named := ["unicode/utf8.first", "unicode/utf8.acceptRanges", "marginalia/token.signs", "marginalia/utf.names", "strconv.ErrSyntax", "strconv.ErrRange", "internal/strconv.uint64pow10", "math/bits.deBruijn32tab", "math/bits.deBruijn64tab", "internal/bytealg.MaxLen"], apart := false, laid := [("math/bits.deBruijn32tab", laid_math_bits_deBruijn32tab), ("math/bits.deBruijn64tab", laid_math_bits_deBruijn64tab), ("internal/strconv.uint64pow10", laid_internal_strconv_uint64pow10), ("unicode/utf8.acceptRanges", laid_unicode_utf8_acceptRanges), ("strconv.ErrRange", laid_strconv_ErrRange), ("strconv.ErrSyntax", laid_strconv_ErrSyntax), ("marginalia/utf.names", laid_marginalia_utf_names), ("marginalia/token.signs", laid_marginalia_token_signs), ("unicode/utf8.first", laid_unicode_utf8_first)] }
def ReadGivesSaid : Prop := readGivesRow.holds Tryz.pinned (OpenSpec.ofChange readGivesSpec)

/-- ITS FALSE NEIGHBOUR: 'it returns false'. Refute it at one input. -/
def readGivesWrong : ChangeSpec := { name := "readGives", fn := fun _ => fun
  | [d1, d2] => { results := [.lit (.bool false)], args := [d1, d2] }
  | _ => none }
def ReadGivesWrongFalsely : Prop := readGivesRow.holds Tryz.pinned (OpenSpec.ofChange readGivesWrong)

/-- 'marginalialaw04.ReadDeep': WHATEVER THE INPUT: true; the input reads as it did. -/
def readDeepSpec : ChangeSpec := { name := "readDeep", fn := fun _ => fun
  | [d1, d2] => { results := [.lit (.bool true)], args := [d1, d2] }
  | _ => none }
def readDeepRow : OpenClaim := { program := "ytenkkekooimpjaagreatdoor", sum := "c891307c74d9ded48233846369fba9cda0980b68e1625f0ff2d780d392b088d7", func := "marginalia/marginalialaw04.ReadDeep", spec := "readDeep", inPlace := ["internal/bytealg.IndexByteString", "internal/bytealg.IndexString"], unfollowed := true, recurses := true, named := ["unicode/utf8.first", "unicode/utf8.acceptRanges", "marginalia/token.signs", "marginalia/utf.names", "strconv.ErrSyntax", "strconv.ErrRange", "internal/strconv.uint64pow10", "math/bits.deBruijn32tab", "math/bits.deBruijn64tab", "internal/bytealg.MaxLen"], apart := false, laid := [("math/bits.deBruijn32tab", laid_math_bits_deBruijn32tab), ("math/bits.deBruijn64tab", laid_math_bits_deBruijn64tab), ("internal/strconv.uint64pow10", laid_internal_strconv_uint64pow10), ("unicode/utf8.acceptRanges", laid_unicode_utf8_acceptRanges), ("strconv.ErrRange", laid_strconv_ErrRange), ("strconv.ErrSyntax", laid_strconv_ErrSyntax), ("marginalia/utf.names", laid_marginalia_utf_names), ("marginalia/token.signs", laid_marginalia_token_signs), ("unicode/utf8.first", laid_unicode_utf8_first)] }
def ReadDeepSaid : Prop := readDeepRow.holds Tryz.pinned (OpenSpec.ofChange readDeepSpec)

/-- ITS FALSE NEIGHBOUR: 'it returns false'. Refute it at one input. -/
def readDeepWrong : ChangeSpec := { name := "readDeep", fn := fun _ => fun
  | [d1, d2] => { results := [.lit (.bool false)], args := [d1, d2] }
  | _ => none }
def ReadDeepWrongFalsely : Prop := readDeepRow.holds Tryz.pinned (OpenSpec.ofChange readDeepWrong)

/-- 'marginalialaw04.ReadMany': WHATEVER THE INPUT: true; the input reads as it did. -/
def readManySpec : ChangeSpec := { name := "readMany", fn := fun _ => fun
  | [d1, d2] => { results := [.lit (.bool true)], args := [d1, d2] }
  | _ => none }
def readManyRow : OpenClaim := { program := "ytenkkekooimpjaagreatdoor", sum := "c891307c74d9ded48233846369fba9cda0980b68e1625f0ff2d780d392b088d7", func := "marginalia/marginalialaw04.ReadMany", spec := "readMany", inPlace := ["internal/bytealg.IndexByteString", "internal/bytealg.IndexString"], unfollowed := true, recurses := true, named := ["unicode/utf8.first", "unicode/utf8.acceptRanges", "marginalia/token.signs", "marginalia/utf.names", "strconv.ErrSyntax", "strconv.ErrRange", "internal/strconv.uint64pow10", "math/bits.deBruijn32tab", "math/bits.deBruijn64tab", "internal/bytealg.MaxLen"], apart := false, laid := [("math/bits.deBruijn32tab", laid_math_bits_deBruijn32tab), ("math/bits.deBruijn64tab", laid_math_bits_deBruijn64tab), ("internal/strconv.uint64pow10", laid_internal_strconv_uint64pow10), ("unicode/utf8.acceptRanges", laid_unicode_utf8_acceptRanges), ("strconv.ErrRange", laid_strconv_ErrRange), ("strconv.ErrSyntax", laid_strconv_ErrSyntax), ("marginalia/utf.names", laid_marginalia_utf_names), ("marginalia/token.signs", laid_marginalia_token_signs), ("unicode/utf8.first", laid_unicode_utf8_first)] }
def ReadManySaid : Prop := readManyRow.holds Tryz.pinned (OpenSpec.ofChange readManySpec)

/-- ITS FALSE NEIGHBOUR: 'it returns false'. Refute it at one input. -/
def readManyWrong : ChangeSpec := { name := "readMany", fn := fun _ => fun
  | [d1, d2] => { results := [.lit (.bool false)], args := [d1, d2] }
  | _ => none }
def ReadManyWrongFalsely : Prop := readManyRow.holds Tryz.pinned (OpenSpec.ofChange readManyWrong)

/-- 'marginalialaw04.ReadDots': WHATEVER THE INPUT: true; the input reads as it did. -/
def readDotsSpec : ChangeSpec := { name := "readDots", fn := fun _ => fun
  | [d1, d2] => { results := [.lit (.bool true)], args := [d1, d2] }
  | _ => none }
def readDotsRow : OpenClaim := { program := "ytenkkekooimpjaagreatdoor", sum := "c891307c74d9ded48233846369fba9cda0980b68e1625f0ff2d780d392b088d7", func := "marginalia/marginalialaw04.ReadDots", spec := "readDots", inPlace := ["internal/bytealg.IndexByteString", "internal/bytealg.IndexString"], unfollowed := true, recurses := true, named := ["unicode/utf8.first", "unicode/utf8.acceptRanges", "marginalia/token.signs", "marginalia/utf.names", "strconv.ErrSyntax", "strconv.ErrRange", "internal/strconv.uint64pow10", "math/bits.deBruijn32tab", "math/bits.deBruijn64tab", "internal/bytealg.MaxLen"], loops := true, apart := false, laid := [("math/bits.deBruijn32tab", laid_math_bits_deBruijn32tab), ("math/bits.deBruijn64tab", laid_math_bits_deBruijn64tab), ("internal/strconv.uint64pow10", laid_internal_strconv_uint64pow10), ("unicode/utf8.acceptRanges", laid_unicode_utf8_acceptRanges), ("strconv.ErrRange", laid_strconv_ErrRange), ("strconv.ErrSyntax", laid_strconv_ErrSyntax), ("marginalia/utf.names", laid_marginalia_utf_names), ("marginalia/token.signs", laid_marginalia_token_signs), ("unicode/utf8.first", laid_unicode_utf8_first)] }
def ReadDotsSaid : Prop := readDotsRow.holds Tryz.pinned (OpenSpec.ofChange readDotsSpec)

/-- ITS FALSE NEIGHBOUR: 'it returns false'. Refute it at one input. -/
def readDotsWrong : ChangeSpec := { name := "readDots", fn := fun _ => fun
  | [d1, d2] => { results := [.lit (.bool false)], args := [d1, d2] }
  | _ => none }
def ReadDotsWrongFalsely : Prop := readDotsRow.holds Tryz.pinned (OpenSpec.ofChange readDotsWrong)

/-- 'marginalialaw04.ReadSame': WHATEVER THE INPUT: true; the input reads as it did. -/
def readSameSpec : ChangeSpec := { name := "readSame", fn := fun _ => fun
  | [d1, d2, d3] => { results := [.lit (.bool true)], args := [d1, d2, d3] }
  | _ => none }
def readSameRow : OpenClaim := { program := "ytenkkekooimpjaagreatdoor", sum := "c891307c74d9ded48233846369fba9cda0980b68e1625f0ff2d780d392b088d7", func := "marginalia/marginalialaw04.ReadSame", spec := "readSame", inPlace := ["internal/bytealg.IndexByteString", "internal/bytealg.IndexString"], unfollowed := true, recurses := true, named := ["unicode/utf8.first", "unicode/utf8.acceptRanges", "marginalia/token.signs", "marginalia/utf.names", "strconv.ErrSyntax", "strconv.ErrRange", "internal/strconv.uint64pow10", "math/bits.deBruijn32tab", "math/bits.deBruijn64tab", "internal/bytealg.MaxLen"], loops := true, apart := false, laid := [("math/bits.deBruijn32tab", laid_math_bits_deBruijn32tab), ("math/bits.deBruijn64tab", laid_math_bits_deBruijn64tab), ("internal/strconv.uint64pow10", laid_internal_strconv_uint64pow10), ("unicode/utf8.acceptRanges", laid_unicode_utf8_acceptRanges), ("strconv.ErrRange", laid_strconv_ErrRange), ("strconv.ErrSyntax", laid_strconv_ErrSyntax), ("marginalia/utf.names", laid_marginalia_utf_names), ("marginalia/token.signs", laid_marginalia_token_signs), ("unicode/utf8.first", laid_unicode_utf8_first)] }
def ReadSameSaid : Prop := readSameRow.holds Tryz.pinned (OpenSpec.ofChange readSameSpec)

/-- ITS FALSE NEIGHBOUR: 'it returns false'. Refute it at one input. -/
def readSameWrong : ChangeSpec := { name := "readSame", fn := fun _ => fun
  | [d1, d2, d3] => { results := [.lit (.bool false)], args := [d1, d2, d3] }
  | _ => none }
def ReadSameWrongFalsely : Prop := readSameRow.holds Tryz.pinned (OpenSpec.ofChange readSameWrong)

/-- 'marginalialaw04.ReadShorts': WHATEVER THE INPUT: true; the input reads as it did. -/
def readShortsSpec : ChangeSpec := { name := "readShorts", fn := fun _ => fun
  | [d1, d2, d3] => { results := [.lit (.bool true)], args := [d1, d2, d3] }
  | _ => none }
def readShortsRow : OpenClaim := { program := "ytenkkekooimpjaagreatdoor", sum := "c891307c74d9ded48233846369fba9cda0980b68e1625f0ff2d780d392b088d7", func := "marginalia/marginalialaw04.ReadShorts", spec := "readShorts", inPlace := ["internal/bytealg.IndexByteString", "internal/bytealg.IndexString"], unfollowed := true, recurses := true, named := ["unicode/utf8.first", "unicode/utf8.acceptRanges", "marginalia/token.signs", "marginalia/utf.names", "strconv.ErrSyntax", "strconv.ErrRange", "internal/strconv.uint64pow10", "math/bits.deBruijn32tab", "math/bits.deBruijn64tab", "internal/bytealg.MaxLen"], loops := true, apart := false, laid := [("math/bits.deBruijn32tab", laid_math_bits_deBruijn32tab), ("math/bits.deBruijn64tab", laid_math_bits_deBruijn64tab), ("internal/strconv.uint64pow10", laid_internal_strconv_uint64pow10), ("unicode/utf8.acceptRanges", laid_unicode_utf8_acceptRanges), ("strconv.ErrRange", laid_strconv_ErrRange), ("strconv.ErrSyntax", laid_strconv_ErrSyntax), ("marginalia/utf.names", laid_marginalia_utf_names), ("marginalia/token.signs", laid_marginalia_token_signs), ("unicode/utf8.first", laid_unicode_utf8_first)] }
def ReadShortsSaid : Prop := readShortsRow.holds Tryz.pinned (OpenSpec.ofChange readShortsSpec)

/-- ITS FALSE NEIGHBOUR: 'it returns false'. Refute it at one input. -/
def readShortsWrong : ChangeSpec := { name := "readShorts", fn := fun _ => fun
  | [d1, d2, d3] => { results := [.lit (.bool false)], args := [d1, d2, d3] }
  | _ => none }
def ReadShortsWrongFalsely : Prop := readShortsRow.holds Tryz.pinned (OpenSpec.ofChange readShortsWrong)

/-- 'marginalialaw04.ReadSound': WHATEVER THE INPUT: true; the input reads as it did. -/
def readSoundSpec : ChangeSpec := { name := "readSound", fn := fun _ => fun
  | [d] => { results := [.lit (.bool true)], args := [d] }
  | _ => none }
def readSoundRow : OpenClaim := { program := "ytenkkekooimpjaagreatdoor", sum := "c891307c74d9ded48233846369fba9cda0980b68e1625f0ff2d780d392b088d7", func := "marginalia/marginalialaw04.ReadSound", spec := "readSound", inPlace := ["internal/bytealg.IndexByteString", "internal/bytealg.IndexString"], unfollowed := true, recurses := true, named := ["unicode/utf8.first", "unicode/utf8.acceptRanges", "marginalia/token.signs", "marginalia/utf.names", "strconv.ErrSyntax", "strconv.ErrRange", "internal/strconv.uint64pow10", "math/bits.deBruijn32tab", "math/bits.deBruijn64tab", "internal/bytealg.MaxLen"], loops := true, apart := false, laid := [("math/bits.deBruijn32tab", laid_math_bits_deBruijn32tab), ("math/bits.deBruijn64tab", laid_math_bits_deBruijn64tab), ("internal/strconv.uint64pow10", laid_internal_strconv_uint64pow10), ("unicode/utf8.acceptRanges", laid_unicode_utf8_acceptRanges), ("strconv.ErrRange", laid_strconv_ErrRange), ("strconv.ErrSyntax", laid_strconv_ErrSyntax), ("marginalia/utf.names", laid_marginalia_utf_names), ("marginalia/token.signs", laid_marginalia_token_signs), ("unicode/utf8.first", laid_unicode_utf8_first)] }
def ReadSoundSaid : Prop := readSoundRow.holds Tryz.pinned (OpenSpec.ofChange readSoundSpec)

/-- ITS FALSE NEIGHBOUR: 'it returns false'. Refute it at one input. -/
def readSoundWrong : ChangeSpec := { name := "readSound", fn := fun _ => fun
  | [d] => { results := [.lit (.bool false)], args := [d] }
  | _ => none }
def ReadSoundWrongFalsely : Prop := readSoundRow.holds Tryz.pinned (OpenSpec.ofChange readSoundWrong)

/-- 'marginalialaw05.PrintApart': WHATEVER THE INPUT: true; the input reads as it did. -/
def printApartSpec : ChangeSpec := { name := "printApart", fn := fun _ => fun
  | [d1, d2] => { results := [.lit (.bool true)], args := [d1, d2] }
  | _ => none }
def printApartRow : OpenClaim := { program := "ytenkkekooimpjaagreatdoor", sum := "c891307c74d9ded48233846369fba9cda0980b68e1625f0ff2d780d392b088d7", func := "marginalia/marginalialaw05.PrintApart", spec := "printApart", inPlace := ["internal/bytealg.IndexByteString", "internal/bytealg.IndexString", "internal/abi.NoEscape", "internal/bytealg.MakeNoZero"], unfollowed := true, recurses := true, named := ["unicode/utf8.first", "unicode/utf8.acceptRanges", "strconv.ErrSyntax", "strconv.ErrRange", "internal/strconv.uint64pow10", "math/bits.deBruijn32tab", "math/bits.deBruijn64tab", "marginalia/utf.names", "internal/bytealg.MaxLen"], loops := true, apart := false, laid := [("math/bits.deBruijn32tab", laid_math_bits_deBruijn32tab), ("math/bits.deBruijn64tab", laid_math_bits_deBruijn64tab), ("internal/strconv.uint64pow10", laid_internal_strconv_uint64pow10), ("unicode/utf8.acceptRanges", laid_unicode_utf8_acceptRanges), ("strconv.ErrRange", laid_strconv_ErrRange), ("strconv.ErrSyntax", laid_strconv_ErrSyntax), ("marginalia/utf.names", laid_marginalia_utf_names), ("unicode/utf8.first", laid_unicode_utf8_first)] }
def PrintApartSaid : Prop := printApartRow.holds Tryz.pinned (OpenSpec.ofChange printApartSpec)

/-- ITS FALSE NEIGHBOUR: 'it returns false'. Refute it at one input. -/
def printApartWrong : ChangeSpec := { name := "printApart", fn := fun _ => fun
  | [d1, d2] => { results := [.lit (.bool false)], args := [d1, d2] }
  | _ => none }
def PrintApartWrongFalsely : Prop := printApartRow.holds Tryz.pinned (OpenSpec.ofChange printApartWrong)

/-- 'marginalialaw05.PrintBack': WHATEVER THE INPUT: true; the input reads as it did. -/
def printBackSpec : ChangeSpec := { name := "printBack", fn := fun _ => fun
  | [d] => { results := [.lit (.bool true)], args := [d] }
  | _ => none }
def printBackRow : OpenClaim := { program := "ytenkkekooimpjaagreatdoor", sum := "c891307c74d9ded48233846369fba9cda0980b68e1625f0ff2d780d392b088d7", func := "marginalia/marginalialaw05.PrintBack", spec := "printBack", inPlace := ["internal/bytealg.IndexByteString", "internal/bytealg.IndexString", "internal/abi.NoEscape", "internal/bytealg.MakeNoZero"], unfollowed := true, recurses := true, named := ["unicode/utf8.first", "unicode/utf8.acceptRanges", "strconv.ErrSyntax", "strconv.ErrRange", "internal/strconv.uint64pow10", "math/bits.deBruijn32tab", "math/bits.deBruijn64tab", "marginalia/utf.names", "marginalia/token.signs", "internal/bytealg.MaxLen"], loops := true, apart := false, laid := [("math/bits.deBruijn32tab", laid_math_bits_deBruijn32tab), ("math/bits.deBruijn64tab", laid_math_bits_deBruijn64tab), ("internal/strconv.uint64pow10", laid_internal_strconv_uint64pow10), ("unicode/utf8.acceptRanges", laid_unicode_utf8_acceptRanges), ("strconv.ErrRange", laid_strconv_ErrRange), ("strconv.ErrSyntax", laid_strconv_ErrSyntax), ("marginalia/utf.names", laid_marginalia_utf_names), ("marginalia/token.signs", laid_marginalia_token_signs), ("unicode/utf8.first", laid_unicode_utf8_first)] }
def PrintBackSaid : Prop := printBackRow.holds Tryz.pinned (OpenSpec.ofChange printBackSpec)

/-- ITS FALSE NEIGHBOUR: 'it returns false'. Refute it at one input. -/
def printBackWrong : ChangeSpec := { name := "printBack", fn := fun _ => fun
  | [d] => { results := [.lit (.bool false)], args := [d] }
  | _ => none }
def PrintBackWrongFalsely : Prop := printBackRow.holds Tryz.pinned (OpenSpec.ofChange printBackWrong)

/-- 'marginalialaw14.CoreFrames': WHATEVER THE INPUT: true; the input reads as it did. -/
def coreFramesSpec : ChangeSpec := { name := "coreFrames", fn := fun _ => fun
  | [d1, d2, d3] => { results := [.lit (.bool true)], args := [d1, d2, d3] }
  | _ => none }
def coreFramesRow : OpenClaim := { program := "ytenkkekooimpjaagreatdoor", sum := "c891307c74d9ded48233846369fba9cda0980b68e1625f0ff2d780d392b088d7", func := "marginalia/marginalialaw14.CoreFrames", spec := "coreFrames", inPlace := ["internal/bytealg.IndexByteString", "internal/bytealg.IndexString", "slices.overlaps[int]", "internal/abi.NoEscape", "internal/bytealg.MakeNoZero"], unfollowed := true, recurses := true, named := ["unicode/utf8.first", "unicode/utf8.acceptRanges", "strconv.ErrSyntax", "strconv.ErrRange", "internal/strconv.uint64pow10", "math/bits.deBruijn32tab", "math/bits.deBruijn64tab", "marginalia/utf.names", "internal/bytealg.MaxLen"], loops := true, apart := false, laid := [("math/bits.deBruijn32tab", laid_math_bits_deBruijn32tab), ("math/bits.deBruijn64tab", laid_math_bits_deBruijn64tab), ("internal/strconv.uint64pow10", laid_internal_strconv_uint64pow10), ("unicode/utf8.acceptRanges", laid_unicode_utf8_acceptRanges), ("strconv.ErrRange", laid_strconv_ErrRange), ("strconv.ErrSyntax", laid_strconv_ErrSyntax), ("marginalia/utf.names", laid_marginalia_utf_names), ("unicode/utf8.first", laid_unicode_utf8_first)] }
def CoreFramesSaid : Prop := coreFramesRow.holds Tryz.pinned (OpenSpec.ofChange coreFramesSpec)

/-- ITS FALSE NEIGHBOUR: 'it returns false'. Refute it at one input. -/
def coreFramesWrong : ChangeSpec := { name := "coreFrames", fn := fun _ => fun
  | [d1, d2, d3] => { results := [.lit (.bool false)], args := [d1, d2, d3] }
  | _ => none }
def CoreFramesWrongFalsely : Prop := coreFramesRow.holds Tryz.pinned (OpenSpec.ofChange coreFramesWrong)

/-- 'marginalialaw14.CoreSound': WHATEVER THE INPUT: true; the input reads as it did. -/
def coreSoundSpec : ChangeSpec := { name := "coreSound", fn := fun _ => fun
  | [d1, d2] => { results := [.lit (.bool true)], args := [d1, d2] }
  | _ => none }
def coreSoundRow : OpenClaim := { program := "ytenkkekooimpjaagreatdoor", sum := "c891307c74d9ded48233846369fba9cda0980b68e1625f0ff2d780d392b088d7", func := "marginalia/marginalialaw14.CoreSound", spec := "coreSound", inPlace := ["internal/bytealg.IndexByteString", "internal/bytealg.IndexString", "slices.overlaps[int]", "internal/abi.NoEscape", "internal/bytealg.MakeNoZero"], unfollowed := true, recurses := true, named := ["unicode/utf8.first", "unicode/utf8.acceptRanges", "strconv.ErrSyntax", "strconv.ErrRange", "internal/strconv.uint64pow10", "math/bits.deBruijn32tab", "math/bits.deBruijn64tab", "marginalia/utf.names", "internal/bytealg.MaxLen"], loops := true, apart := false, laid := [("math/bits.deBruijn32tab", laid_math_bits_deBruijn32tab), ("math/bits.deBruijn64tab", laid_math_bits_deBruijn64tab), ("internal/strconv.uint64pow10", laid_internal_strconv_uint64pow10), ("unicode/utf8.acceptRanges", laid_unicode_utf8_acceptRanges), ("strconv.ErrRange", laid_strconv_ErrRange), ("strconv.ErrSyntax", laid_strconv_ErrSyntax), ("marginalia/utf.names", laid_marginalia_utf_names), ("unicode/utf8.first", laid_unicode_utf8_first)] }
def CoreSoundSaid : Prop := coreSoundRow.holds Tryz.pinned (OpenSpec.ofChange coreSoundSpec)

/-- ITS FALSE NEIGHBOUR: 'it returns false'. Refute it at one input. -/
def coreSoundWrong : ChangeSpec := { name := "coreSound", fn := fun _ => fun
  | [d1, d2] => { results := [.lit (.bool false)], args := [d1, d2] }
  | _ => none }
def CoreSoundWrongFalsely : Prop := coreSoundRow.holds Tryz.pinned (OpenSpec.ofChange coreSoundWrong)

/-- 'marginalialaw14.CoreDeep': WHATEVER THE INPUT: true; the input reads as it did. -/
def coreDeepSpec : ChangeSpec := { name := "coreDeep", fn := fun _ => fun
  | [d1, d2] => { results := [.lit (.bool true)], args := [d1, d2] }
  | _ => none }
def coreDeepRow : OpenClaim := { program := "ytenkkekooimpjaagreatdoor", sum := "c891307c74d9ded48233846369fba9cda0980b68e1625f0ff2d780d392b088d7", func := "marginalia/marginalialaw14.CoreDeep", spec := "coreDeep", inPlace := ["internal/bytealg.IndexByteString", "internal/bytealg.IndexString", "slices.overlaps[int]", "internal/abi.NoEscape", "internal/bytealg.MakeNoZero"], unfollowed := true, recurses := true, named := ["unicode/utf8.first", "unicode/utf8.acceptRanges", "strconv.ErrSyntax", "strconv.ErrRange", "internal/strconv.uint64pow10", "math/bits.deBruijn32tab", "math/bits.deBruijn64tab", "marginalia/utf.names", "internal/bytealg.MaxLen"], apart := false, laid := [("math/bits.deBruijn32tab", laid_math_bits_deBruijn32tab), ("math/bits.deBruijn64tab", laid_math_bits_deBruijn64tab), ("internal/strconv.uint64pow10", laid_internal_strconv_uint64pow10), ("unicode/utf8.acceptRanges", laid_unicode_utf8_acceptRanges), ("strconv.ErrRange", laid_strconv_ErrRange), ("strconv.ErrSyntax", laid_strconv_ErrSyntax), ("marginalia/utf.names", laid_marginalia_utf_names), ("unicode/utf8.first", laid_unicode_utf8_first)] }
def CoreDeepSaid : Prop := coreDeepRow.holds Tryz.pinned (OpenSpec.ofChange coreDeepSpec)

/-- ITS FALSE NEIGHBOUR: 'it returns false'. Refute it at one input. -/
def coreDeepWrong : ChangeSpec := { name := "coreDeep", fn := fun _ => fun
  | [d1, d2] => { results := [.lit (.bool false)], args := [d1, d2] }
  | _ => none }
def CoreDeepWrongFalsely : Prop := coreDeepRow.holds Tryz.pinned (OpenSpec.ofChange coreDeepWrong)

/- THE SECOND FORM. 'bulk': how many values and letters a reading holds, each counted each time it is reached (what is shared counts as often as it is met; a slice's spare places count too). A statement '..UptoSaid' is the law's where the arguments, and the package variables that the reading takes, are together of bulk at most 1048576: NARROWER than '..Said'. Prove '..Said' where nothing that the law and all that it calls make is longer than what came in: it says more and counts as full. Else prove '..UptoSaid'. A law counts once. -/
mutual
def uptoBulk {H : Type} : DataW H → Nat
  | .lit (.string bytes) => bytes.length + 1
  | .lit _ => 1
  | .nil => 1
  | .ptr d => uptoBulk d + 1
  | .slice elems spare => uptoBulkAll elems + uptoBulkAll spare + 1
  | .agg parts => uptoBulkAll parts + 1
  | .iface _ d => uptoBulk d + 1
  | .map entries => uptoBulkEntries entries + 1
  | .held _ => 1
def uptoBulkAll {H : Type} : List (DataW H) → Nat
  | [] => 0
  | d :: r => uptoBulk d + uptoBulkAll r
def uptoBulkEntries {H : Type} : List (Lit × DataW H) → Nat
  | [] => 0
  | x :: r => uptoBulkEntry x + uptoBulkEntries r
def uptoBulkEntry {H : Type} : Lit × DataW H → Nat
  | (.string bytes, d) => bytes.length + uptoBulk d + 1
  | (_, d) => uptoBulk d + 1
 end
def uptoSmall : (H : Type) → List (DataW H) → Bool := fun _ ds => decide (uptoBulkAll ds ≤ 1048576)
def OpenSpec.upto (s : _root_.Go.ChangeSpec) : _root_.Go.OpenSpec := { _root_.Go.OpenSpec.ofChange s with cond := some uptoSmall }

/-- 'marginalialaw04.ReadGives', WHERE WHAT IT READS IS OF BULK AT MOST 1048576: true; the input reads as it did. -/
def readGivesUptoRow : OpenClaim := { program := "ytenkkekooimpjaagreatdoor", sum := "c891307c74d9ded48233846369fba9cda0980b68e1625f0ff2d780d392b088d7", func := "marginalia/marginalialaw04.ReadGives", spec := "readGives", inPlace := ["internal/bytealg.IndexByteString", "internal/bytealg.IndexString"], unfollowed := true, recurses := true, named := ["unicode/utf8.first", "unicode/utf8.acceptRanges", "marginalia/token.signs", "marginalia/utf.names", "strconv.ErrSyntax", "strconv.ErrRange", "internal/strconv.uint64pow10", "math/bits.deBruijn32tab", "math/bits.deBruijn64tab", "internal/bytealg.MaxLen"], apart := false, laid := [("math/bits.deBruijn32tab", laid_math_bits_deBruijn32tab), ("math/bits.deBruijn64tab", laid_math_bits_deBruijn64tab), ("internal/strconv.uint64pow10", laid_internal_strconv_uint64pow10), ("unicode/utf8.acceptRanges", laid_unicode_utf8_acceptRanges), ("strconv.ErrRange", laid_strconv_ErrRange), ("strconv.ErrSyntax", laid_strconv_ErrSyntax), ("marginalia/utf.names", laid_marginalia_utf_names), ("marginalia/token.signs", laid_marginalia_token_signs), ("unicode/utf8.first", laid_unicode_utf8_first)], narrowed := true }
def ReadGivesUptoSaid : Prop := readGivesUptoRow.holds Tryz.pinned (OpenSpec.upto readGivesSpec)

/-- 'marginalialaw04.ReadDeep', WHERE WHAT IT READS IS OF BULK AT MOST 1048576: true; the input reads as it did. -/
def readDeepUptoRow : OpenClaim := { program := "ytenkkekooimpjaagreatdoor", sum := "c891307c74d9ded48233846369fba9cda0980b68e1625f0ff2d780d392b088d7", func := "marginalia/marginalialaw04.ReadDeep", spec := "readDeep", inPlace := ["internal/bytealg.IndexByteString", "internal/bytealg.IndexString"], unfollowed := true, recurses := true, named := ["unicode/utf8.first", "unicode/utf8.acceptRanges", "marginalia/token.signs", "marginalia/utf.names", "strconv.ErrSyntax", "strconv.ErrRange", "internal/strconv.uint64pow10", "math/bits.deBruijn32tab", "math/bits.deBruijn64tab", "internal/bytealg.MaxLen"], apart := false, laid := [("math/bits.deBruijn32tab", laid_math_bits_deBruijn32tab), ("math/bits.deBruijn64tab", laid_math_bits_deBruijn64tab), ("internal/strconv.uint64pow10", laid_internal_strconv_uint64pow10), ("unicode/utf8.acceptRanges", laid_unicode_utf8_acceptRanges), ("strconv.ErrRange", laid_strconv_ErrRange), ("strconv.ErrSyntax", laid_strconv_ErrSyntax), ("marginalia/utf.names", laid_marginalia_utf_names), ("marginalia/token.signs", laid_marginalia_token_signs), ("unicode/utf8.first", laid_unicode_utf8_first)], narrowed := true }
def ReadDeepUptoSaid : Prop := readDeepUptoRow.holds Tryz.pinned (OpenSpec.upto readDeepSpec)

/-- 'marginalialaw04.ReadMany', WHERE WHAT IT READS IS OF BULK AT MOST 1048576: true; the input reads as it did. -/
def readManyUptoRow : OpenClaim := { program := "ytenkkekooimpjaagreatdoor", sum := "c891307c74d9ded48233846369fba9cda0980b68e1625f0ff2d780d392b088d7", func := "marginalia/marginalialaw04.ReadMany", spec := "readMany", inPlace := ["internal/bytealg.IndexByteString", "internal/bytealg.IndexString"], unfollowed := true, recurses := true, named := ["unicode/utf8.first", "unicode/utf8.acceptRanges", "marginalia/token.signs", "marginalia/utf.names", "strconv.ErrSyntax", "strconv.ErrRange", "internal/strconv.uint64pow10", "math/bits.deBruijn32tab", "math/bits.deBruijn64tab", "internal/bytealg.MaxLen"], apart := false, laid := [("math/bits.deBruijn32tab", laid_math_bits_deBruijn32tab), ("math/bits.deBruijn64tab", laid_math_bits_deBruijn64tab), ("internal/strconv.uint64pow10", laid_internal_strconv_uint64pow10), ("unicode/utf8.acceptRanges", laid_unicode_utf8_acceptRanges), ("strconv.ErrRange", laid_strconv_ErrRange), ("strconv.ErrSyntax", laid_strconv_ErrSyntax), ("marginalia/utf.names", laid_marginalia_utf_names), ("marginalia/token.signs", laid_marginalia_token_signs), ("unicode/utf8.first", laid_unicode_utf8_first)], narrowed := true }
def ReadManyUptoSaid : Prop := readManyUptoRow.holds Tryz.pinned (OpenSpec.upto readManySpec)

/-- 'marginalialaw04.ReadDots', WHERE WHAT IT READS IS OF BULK AT MOST 1048576: true; the input reads as it did. -/
def readDotsUptoRow : OpenClaim := { program := "ytenkkekooimpjaagreatdoor", sum := "c891307c74d9ded48233846369fba9cda0980b68e1625f0ff2d780d392b088d7", func := "marginalia/marginalialaw04.ReadDots", spec := "readDots", inPlace := ["internal/bytealg.IndexByteString", "internal/bytealg.IndexString"], unfollowed := true, recurses := true, named := ["unicode/utf8.first", "unicode/utf8.acceptRanges", "marginalia/token.signs", "marginalia/utf.names", "strconv.ErrSyntax", "strconv.ErrRange", "internal/strconv.uint64pow10", "math/bits.deBruijn32tab", "math/bits.deBruijn64tab", "internal/bytealg.MaxLen"], loops := true, apart := false, laid := [("math/bits.deBruijn32tab", laid_math_bits_deBruijn32tab), ("math/bits.deBruijn64tab", laid_math_bits_deBruijn64tab), ("internal/strconv.uint64pow10", laid_internal_strconv_uint64pow10), ("unicode/utf8.acceptRanges", laid_unicode_utf8_acceptRanges), ("strconv.ErrRange", laid_strconv_ErrRange), ("strconv.ErrSyntax", laid_strconv_ErrSyntax), ("marginalia/utf.names", laid_marginalia_utf_names), ("marginalia/token.signs", laid_marginalia_token_signs), ("unicode/utf8.first", laid_unicode_utf8_first)], narrowed := true }
def ReadDotsUptoSaid : Prop := readDotsUptoRow.holds Tryz.pinned (OpenSpec.upto readDotsSpec)

/-- 'marginalialaw04.ReadSame', WHERE WHAT IT READS IS OF BULK AT MOST 1048576: true; the input reads as it did. -/
def readSameUptoRow : OpenClaim := { program := "ytenkkekooimpjaagreatdoor", sum := "c891307c74d9ded48233846369fba9cda0980b68e1625f0ff2d780d392b088d7", func := "marginalia/marginalialaw04.ReadSame", spec := "readSame", inPlace := ["internal/bytealg.IndexByteString", "internal/bytealg.IndexString"], unfollowed := true, recurses := true, named := ["unicode/utf8.first", "unicode/utf8.acceptRanges", "marginalia/token.signs", "marginalia/utf.names", "strconv.ErrSyntax", "strconv.ErrRange", "internal/strconv.uint64pow10", "math/bits.deBruijn32tab", "math/bits.deBruijn64tab", "internal/bytealg.MaxLen"], loops := true, apart := false, laid := [("math/bits.deBruijn32tab", laid_math_bits_deBruijn32tab), ("math/bits.deBruijn64tab", laid_math_bits_deBruijn64tab), ("internal/strconv.uint64pow10", laid_internal_strconv_uint64pow10), ("unicode/utf8.acceptRanges", laid_unicode_utf8_acceptRanges), ("strconv.ErrRange", laid_strconv_ErrRange), ("strconv.ErrSyntax", laid_strconv_ErrSyntax), ("marginalia/utf.names", laid_marginalia_utf_names), ("marginalia/token.signs", laid_marginalia_token_signs), ("unicode/utf8.first", laid_unicode_utf8_first)], narrowed := true }
def ReadSameUptoSaid : Prop := readSameUptoRow.holds Tryz.pinned (OpenSpec.upto readSameSpec)

/-- 'marginalialaw04.ReadShorts', WHERE WHAT IT READS IS OF BULK AT MOST 1048576: true; the input reads as it did. -/
def readShortsUptoRow : OpenClaim := { program := "ytenkkekooimpjaagreatdoor", sum := "c891307c74d9ded48233846369fba9cda0980b68e1625f0ff2d780d392b088d7", func := "marginalia/marginalialaw04.ReadShorts", spec := "readShorts", inPlace := ["internal/bytealg.IndexByteString", "internal/bytealg.IndexString"], unfollowed := true, recurses := true, named := ["unicode/utf8.first", "unicode/utf8.acceptRanges", "marginalia/token.signs", "marginalia/utf.names", "strconv.ErrSyntax", "strconv.ErrRange", "internal/strconv.uint64pow10", "math/bits.deBruijn32tab", "math/bits.deBruijn64tab", "internal/bytealg.MaxLen"], loops := true, apart := false, laid := [("math/bits.deBruijn32tab", laid_math_bits_deBruijn32tab), ("math/bits.deBruijn64tab", laid_math_bits_deBruijn64tab), ("internal/strconv.uint64pow10", laid_internal_strconv_uint64pow10), ("unicode/utf8.acceptRanges", laid_unicode_utf8_acceptRanges), ("strconv.ErrRange", laid_strconv_ErrRange), ("strconv.ErrSyntax", laid_strconv_ErrSyntax), ("marginalia/utf.names", laid_marginalia_utf_names), ("marginalia/token.signs", laid_marginalia_token_signs), ("unicode/utf8.first", laid_unicode_utf8_first)], narrowed := true }
def ReadShortsUptoSaid : Prop := readShortsUptoRow.holds Tryz.pinned (OpenSpec.upto readShortsSpec)

/-- 'marginalialaw04.ReadSound', WHERE WHAT IT READS IS OF BULK AT MOST 1048576: true; the input reads as it did. -/
def readSoundUptoRow : OpenClaim := { program := "ytenkkekooimpjaagreatdoor", sum := "c891307c74d9ded48233846369fba9cda0980b68e1625f0ff2d780d392b088d7", func := "marginalia/marginalialaw04.ReadSound", spec := "readSound", inPlace := ["internal/bytealg.IndexByteString", "internal/bytealg.IndexString"], unfollowed := true, recurses := true, named := ["unicode/utf8.first", "unicode/utf8.acceptRanges", "marginalia/token.signs", "marginalia/utf.names", "strconv.ErrSyntax", "strconv.ErrRange", "internal/strconv.uint64pow10", "math/bits.deBruijn32tab", "math/bits.deBruijn64tab", "internal/bytealg.MaxLen"], loops := true, apart := false, laid := [("math/bits.deBruijn32tab", laid_math_bits_deBruijn32tab), ("math/bits.deBruijn64tab", laid_math_bits_deBruijn64tab), ("internal/strconv.uint64pow10", laid_internal_strconv_uint64pow10), ("unicode/utf8.acceptRanges", laid_unicode_utf8_acceptRanges), ("strconv.ErrRange", laid_strconv_ErrRange), ("strconv.ErrSyntax", laid_strconv_ErrSyntax), ("marginalia/utf.names", laid_marginalia_utf_names), ("marginalia/token.signs", laid_marginalia_token_signs), ("unicode/utf8.first", laid_unicode_utf8_first)], narrowed := true }
def ReadSoundUptoSaid : Prop := readSoundUptoRow.holds Tryz.pinned (OpenSpec.upto readSoundSpec)

/-- 'marginalialaw05.PrintApart', WHERE WHAT IT READS IS OF BULK AT MOST 1048576: true; the input reads as it did. -/
def printApartUptoRow : OpenClaim := { program := "ytenkkekooimpjaagreatdoor", sum := "c891307c74d9ded48233846369fba9cda0980b68e1625f0ff2d780d392b088d7", func := "marginalia/marginalialaw05.PrintApart", spec := "printApart", inPlace := ["internal/bytealg.IndexByteString", "internal/bytealg.IndexString", "internal/abi.NoEscape", "internal/bytealg.MakeNoZero"], unfollowed := true, recurses := true, named := ["unicode/utf8.first", "unicode/utf8.acceptRanges", "strconv.ErrSyntax", "strconv.ErrRange", "internal/strconv.uint64pow10", "math/bits.deBruijn32tab", "math/bits.deBruijn64tab", "marginalia/utf.names", "internal/bytealg.MaxLen"], loops := true, apart := false, laid := [("math/bits.deBruijn32tab", laid_math_bits_deBruijn32tab), ("math/bits.deBruijn64tab", laid_math_bits_deBruijn64tab), ("internal/strconv.uint64pow10", laid_internal_strconv_uint64pow10), ("unicode/utf8.acceptRanges", laid_unicode_utf8_acceptRanges), ("strconv.ErrRange", laid_strconv_ErrRange), ("strconv.ErrSyntax", laid_strconv_ErrSyntax), ("marginalia/utf.names", laid_marginalia_utf_names), ("unicode/utf8.first", laid_unicode_utf8_first)], narrowed := true }
def PrintApartUptoSaid : Prop := printApartUptoRow.holds Tryz.pinned (OpenSpec.upto printApartSpec)

/-- 'marginalialaw05.PrintBack', WHERE WHAT IT READS IS OF BULK AT MOST 1048576: true; the input reads as it did. -/
def printBackUptoRow : OpenClaim := { program := "ytenkkekooimpjaagreatdoor", sum := "c891307c74d9ded48233846369fba9cda0980b68e1625f0ff2d780d392b088d7", func := "marginalia/marginalialaw05.PrintBack", spec := "printBack", inPlace := ["internal/bytealg.IndexByteString", "internal/bytealg.IndexString", "internal/abi.NoEscape", "internal/bytealg.MakeNoZero"], unfollowed := true, recurses := true, named := ["unicode/utf8.first", "unicode/utf8.acceptRanges", "strconv.ErrSyntax", "strconv.ErrRange", "internal/strconv.uint64pow10", "math/bits.deBruijn32tab", "math/bits.deBruijn64tab", "marginalia/utf.names", "marginalia/token.signs", "internal/bytealg.MaxLen"], loops := true, apart := false, laid := [("math/bits.deBruijn32tab", laid_math_bits_deBruijn32tab), ("math/bits.deBruijn64tab", laid_math_bits_deBruijn64tab), ("internal/strconv.uint64pow10", laid_internal_strconv_uint64pow10), ("unicode/utf8.acceptRanges", laid_unicode_utf8_acceptRanges), ("strconv.ErrRange", laid_strconv_ErrRange), ("strconv.ErrSyntax", laid_strconv_ErrSyntax), ("marginalia/utf.names", laid_marginalia_utf_names), ("marginalia/token.signs", laid_marginalia_token_signs), ("unicode/utf8.first", laid_unicode_utf8_first)], narrowed := true }
def PrintBackUptoSaid : Prop := printBackUptoRow.holds Tryz.pinned (OpenSpec.upto printBackSpec)

/-- 'marginalialaw14.CoreFrames', WHERE WHAT IT READS IS OF BULK AT MOST 1048576: true; the input reads as it did. -/
def coreFramesUptoRow : OpenClaim := { program := "ytenkkekooimpjaagreatdoor", sum := "c891307c74d9ded48233846369fba9cda0980b68e1625f0ff2d780d392b088d7", func := "marginalia/marginalialaw14.CoreFrames", spec := "coreFrames", inPlace := ["internal/bytealg.IndexByteString", "internal/bytealg.IndexString", "slices.overlaps[int]", "internal/abi.NoEscape", "internal/bytealg.MakeNoZero"], unfollowed := true, recurses := true, named := ["unicode/utf8.first", "unicode/utf8.acceptRanges", "strconv.ErrSyntax", "strconv.ErrRange", "internal/strconv.uint64pow10", "math/bits.deBruijn32tab", "math/bits.deBruijn64tab", "marginalia/utf.names", "internal/bytealg.MaxLen"], loops := true, apart := false, laid := [("math/bits.deBruijn32tab", laid_math_bits_deBruijn32tab), ("math/bits.deBruijn64tab", laid_math_bits_deBruijn64tab), ("internal/strconv.uint64pow10", laid_internal_strconv_uint64pow10), ("unicode/utf8.acceptRanges", laid_unicode_utf8_acceptRanges), ("strconv.ErrRange", laid_strconv_ErrRange), ("strconv.ErrSyntax", laid_strconv_ErrSyntax), ("marginalia/utf.names", laid_marginalia_utf_names), ("unicode/utf8.first", laid_unicode_utf8_first)], narrowed := true }
def CoreFramesUptoSaid : Prop := coreFramesUptoRow.holds Tryz.pinned (OpenSpec.upto coreFramesSpec)

/-- 'marginalialaw14.CoreSound', WHERE WHAT IT READS IS OF BULK AT MOST 1048576: true; the input reads as it did. -/
def coreSoundUptoRow : OpenClaim := { program := "ytenkkekooimpjaagreatdoor", sum := "c891307c74d9ded48233846369fba9cda0980b68e1625f0ff2d780d392b088d7", func := "marginalia/marginalialaw14.CoreSound", spec := "coreSound", inPlace := ["internal/bytealg.IndexByteString", "internal/bytealg.IndexString", "slices.overlaps[int]", "internal/abi.NoEscape", "internal/bytealg.MakeNoZero"], unfollowed := true, recurses := true, named := ["unicode/utf8.first", "unicode/utf8.acceptRanges", "strconv.ErrSyntax", "strconv.ErrRange", "internal/strconv.uint64pow10", "math/bits.deBruijn32tab", "math/bits.deBruijn64tab", "marginalia/utf.names", "internal/bytealg.MaxLen"], loops := true, apart := false, laid := [("math/bits.deBruijn32tab", laid_math_bits_deBruijn32tab), ("math/bits.deBruijn64tab", laid_math_bits_deBruijn64tab), ("internal/strconv.uint64pow10", laid_internal_strconv_uint64pow10), ("unicode/utf8.acceptRanges", laid_unicode_utf8_acceptRanges), ("strconv.ErrRange", laid_strconv_ErrRange), ("strconv.ErrSyntax", laid_strconv_ErrSyntax), ("marginalia/utf.names", laid_marginalia_utf_names), ("unicode/utf8.first", laid_unicode_utf8_first)], narrowed := true }
def CoreSoundUptoSaid : Prop := coreSoundUptoRow.holds Tryz.pinned (OpenSpec.upto coreSoundSpec)

/-- 'marginalialaw14.CoreDeep', WHERE WHAT IT READS IS OF BULK AT MOST 1048576: true; the input reads as it did. -/
def coreDeepUptoRow : OpenClaim := { program := "ytenkkekooimpjaagreatdoor", sum := "c891307c74d9ded48233846369fba9cda0980b68e1625f0ff2d780d392b088d7", func := "marginalia/marginalialaw14.CoreDeep", spec := "coreDeep", inPlace := ["internal/bytealg.IndexByteString", "internal/bytealg.IndexString", "slices.overlaps[int]", "internal/abi.NoEscape", "internal/bytealg.MakeNoZero"], unfollowed := true, recurses := true, named := ["unicode/utf8.first", "unicode/utf8.acceptRanges", "strconv.ErrSyntax", "strconv.ErrRange", "internal/strconv.uint64pow10", "math/bits.deBruijn32tab", "math/bits.deBruijn64tab", "marginalia/utf.names", "internal/bytealg.MaxLen"], apart := false, laid := [("math/bits.deBruijn32tab", laid_math_bits_deBruijn32tab), ("math/bits.deBruijn64tab", laid_math_bits_deBruijn64tab), ("internal/strconv.uint64pow10", laid_internal_strconv_uint64pow10), ("unicode/utf8.acceptRanges", laid_unicode_utf8_acceptRanges), ("strconv.ErrRange", laid_strconv_ErrRange), ("strconv.ErrSyntax", laid_strconv_ErrSyntax), ("marginalia/utf.names", laid_marginalia_utf_names), ("unicode/utf8.first", laid_unicode_utf8_first)], narrowed := true }
def CoreDeepUptoSaid : Prop := coreDeepUptoRow.holds Tryz.pinned (OpenSpec.upto coreDeepSpec)

end Rows
end Go.Proofs.YtenkkekooimpjaaGreatDoor
