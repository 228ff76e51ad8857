/-
  NARROWER THAN 'FOR EVERY INPUT', by the rows' own cells (each row's printed sentence says how): ListPlain: laid · ListShows: laid · ListFolds: laid · ListSeen: laid · CellOrder: laid · CellCuts: laid · CellSeen: laid · CellOf: laid · CellTexts: laid · CellFinds: laid · CellBytes: laid · CellAll: laid · CellPlace: laid · TreeLeaves: laid · TreeTimes: laid · TreeRights: laid · TreeGroups: laid · TreeFew: laid · TreeBuilds: laid.
  DERIVED. THE GIVEN ROWS OF THIS SEAT. 19 by the template 'for every input the law returns true; each argument reads behind the call as it read before'; 0 by the template 'total and deterministic' (their statements: YtcppmghhijffpaaDoorTotals.lean).
  GIVEN WITH THE SEED: the statements are not yours to turn. If you find one false, say at which input.
  Laid BY PROGRAM, IN A SANDBOX (cutbox-rows.mjs): the forced cells as the released guide's own fill.sh prints them over the translation 055854552e3a8e91… (all of the seat's roots in one cut). By AI agents, Wed Nov 11 2026. No macro, syntax, notation, axiom, sorry.
-/
import Derived.Test.YtcppmghhijffpaaDoorChecked
import GoSem.PinnedTables
import GoSem.Claim
import GoSem.ClaimJoined
import GoSem.ClaimMapViews
import Derived.JoinedTies
import Derived.KernelRfl
namespace Go.Proofs.YtcppmghhijffpaaDoor
/- THE CELL 'sum', in the pinned program and in every row, IS THE sha256 OF THE DUMP (.gsa) THAT YtcppmghhijffpaaDoorProg.lean LOADS. Nothing in Lean hashes anything: it is a label: what it is worth is what the hold of that sum in a sandbox is worth. -/
noncomputable def Tryd.pinned : Pinned := { name := "ytcppmghhijffpaadoor", sum := "055854552e3a8e91cdbf901f878dd564f5a98120221d2158cf1bc63718574beb", checked := Tryd.checked }
namespace Rows
def none {H : Type} : Left H := { results := [], args := [] }

/- WHAT THE LISTED PACKAGE-LEVEL VARIABLES READ AS WHEN THE CALL BEGINS. Each datum BY PROGRAM (the guide's laid-datum.mjs) off the statement by which the dump's own 'gosem.cut.vars' lays the variable. In a bare row this is a premise. The card (YtcppmghhijffpaaDoorCards.lean) ties it to the program's text. -/
def laid_math_bits_deBruijn32tab {H : Type} : DataW H := .agg [.lit (.int .u8 0), .lit (.int .u8 1), .lit (.int .u8 28), .lit (.int .u8 2), .lit (.int .u8 29), .lit (.int .u8 14), .lit (.int .u8 24), .lit (.int .u8 3), .lit (.int .u8 30), .lit (.int .u8 22), .lit (.int .u8 20), .lit (.int .u8 15), .lit (.int .u8 25), .lit (.int .u8 17), .lit (.int .u8 4), .lit (.int .u8 8), .lit (.int .u8 31), .lit (.int .u8 27), .lit (.int .u8 13), .lit (.int .u8 23), .lit (.int .u8 21), .lit (.int .u8 19), .lit (.int .u8 16), .lit (.int .u8 7), .lit (.int .u8 26), .lit (.int .u8 12), .lit (.int .u8 18), .lit (.int .u8 6), .lit (.int .u8 11), .lit (.int .u8 5), .lit (.int .u8 10), .lit (.int .u8 9)]
def laid_math_bits_deBruijn64tab {H : Type} : DataW H := .agg [.lit (.int .u8 0), .lit (.int .u8 1), .lit (.int .u8 56), .lit (.int .u8 2), .lit (.int .u8 57), .lit (.int .u8 49), .lit (.int .u8 28), .lit (.int .u8 3), .lit (.int .u8 61), .lit (.int .u8 58), .lit (.int .u8 42), .lit (.int .u8 50), .lit (.int .u8 38), .lit (.int .u8 29), .lit (.int .u8 17), .lit (.int .u8 4), .lit (.int .u8 62), .lit (.int .u8 47), .lit (.int .u8 59), .lit (.int .u8 36), .lit (.int .u8 45), .lit (.int .u8 43), .lit (.int .u8 51), .lit (.int .u8 22), .lit (.int .u8 53), .lit (.int .u8 39), .lit (.int .u8 33), .lit (.int .u8 30), .lit (.int .u8 24), .lit (.int .u8 18), .lit (.int .u8 12), .lit (.int .u8 5), .lit (.int .u8 63), .lit (.int .u8 55), .lit (.int .u8 48), .lit (.int .u8 27), .lit (.int .u8 60), .lit (.int .u8 41), .lit (.int .u8 37), .lit (.int .u8 16), .lit (.int .u8 46), .lit (.int .u8 35), .lit (.int .u8 44), .lit (.int .u8 21), .lit (.int .u8 52), .lit (.int .u8 32), .lit (.int .u8 23), .lit (.int .u8 11), .lit (.int .u8 54), .lit (.int .u8 26), .lit (.int .u8 40), .lit (.int .u8 15), .lit (.int .u8 34), .lit (.int .u8 20), .lit (.int .u8 31), .lit (.int .u8 10), .lit (.int .u8 25), .lit (.int .u8 14), .lit (.int .u8 19), .lit (.int .u8 9), .lit (.int .u8 13), .lit (.int .u8 8), .lit (.int .u8 7), .lit (.int .u8 6)]
def laid_internal_strconv_uint64pow10 {H : Type} : DataW H := .agg [.lit (.int .u64 1), .lit (.int .u64 10), .lit (.int .u64 100), .lit (.int .u64 1000), .lit (.int .u64 10000), .lit (.int .u64 100000), .lit (.int .u64 1000000), .lit (.int .u64 10000000), .lit (.int .u64 100000000), .lit (.int .u64 1000000000), .lit (.int .u64 10000000000), .lit (.int .u64 100000000000), .lit (.int .u64 1000000000000), .lit (.int .u64 10000000000000), .lit (.int .u64 100000000000000), .lit (.int .u64 1000000000000000), .lit (.int .u64 10000000000000000), .lit (.int .u64 100000000000000000), .lit (.int .u64 1000000000000000000), .lit (.int .u64 10000000000000000000)]
def laid_unicode_utf8_acceptRanges {H : Type} : DataW H := .agg [.agg [.lit (.int .u8 128), .lit (.int .u8 191)], .agg [.lit (.int .u8 160), .lit (.int .u8 191)], .agg [.lit (.int .u8 128), .lit (.int .u8 159)], .agg [.lit (.int .u8 144), .lit (.int .u8 191)], .agg [.lit (.int .u8 128), .lit (.int .u8 143)], .agg [.lit (.int .u8 0), .lit (.int .u8 0)], .agg [.lit (.int .u8 0), .lit (.int .u8 0)], .agg [.lit (.int .u8 0), .lit (.int .u8 0)], .agg [.lit (.int .u8 0), .lit (.int .u8 0)], .agg [.lit (.int .u8 0), .lit (.int .u8 0)], .agg [.lit (.int .u8 0), .lit (.int .u8 0)], .agg [.lit (.int .u8 0), .lit (.int .u8 0)], .agg [.lit (.int .u8 0), .lit (.int .u8 0)], .agg [.lit (.int .u8 0), .lit (.int .u8 0)], .agg [.lit (.int .u8 0), .lit (.int .u8 0)], .agg [.lit (.int .u8 0), .lit (.int .u8 0)]]
/-- One of Go's own tables, pinned by name: the form's constant. -/
def laid_unicode_utf8_first : DataW Unit := Go.Pinned.utf8First

/-- 'redactorlaw17.ListPlain': WHATEVER THE INPUT: true; the input reads as it did. -/
def listPlainSpec : ChangeSpec := { name := "listPlain", fn := fun _ => fun
  | [d1, d2] => { results := [.lit (.bool true)], args := [d1, d2] }
  | _ => none }
def listPlainRow : OpenClaim := { program := "ytcppmghhijffpaadoor", sum := "055854552e3a8e91cdbf901f878dd564f5a98120221d2158cf1bc63718574beb", func := "redactor/redactorlaw17.ListPlain", spec := "listPlain", unfollowed := true, recurses := true, named := ["internal/strconv.uint64pow10", "math/bits.deBruijn32tab", "math/bits.deBruijn64tab", "unicode/utf8.first", "unicode/utf8.acceptRanges"], apart := false, laid := [("math/bits.deBruijn32tab", laid_math_bits_deBruijn32tab), ("math/bits.deBruijn64tab", laid_math_bits_deBruijn64tab), ("internal/strconv.uint64pow10", laid_internal_strconv_uint64pow10), ("unicode/utf8.acceptRanges", laid_unicode_utf8_acceptRanges), ("unicode/utf8.first", laid_unicode_utf8_first)] }
def ListPlainSaid : Prop := listPlainRow.holds Tryd.pinned (OpenSpec.ofChange listPlainSpec)

/-- ITS FALSE NEIGHBOUR: 'it returns false'. Refute it at one input. -/
def listPlainWrong : ChangeSpec := { name := "listPlain", fn := fun _ => fun
  | [d1, d2] => { results := [.lit (.bool false)], args := [d1, d2] }
  | _ => none }
def ListPlainWrongFalsely : Prop := listPlainRow.holds Tryd.pinned (OpenSpec.ofChange listPlainWrong)

/-- 'redactorlaw17.ListShows': WHATEVER THE INPUT: true; the input reads as it did. -/
def listShowsSpec : ChangeSpec := { name := "listShows", fn := fun _ => fun
  | [d1, d2, d3, d4] => { results := [.lit (.bool true)], args := [d1, d2, d3, d4] }
  | _ => none }
def listShowsRow : OpenClaim := { program := "ytcppmghhijffpaadoor", sum := "055854552e3a8e91cdbf901f878dd564f5a98120221d2158cf1bc63718574beb", func := "redactor/redactorlaw17.ListShows", spec := "listShows", unfollowed := true, recurses := true, named := ["internal/strconv.uint64pow10", "math/bits.deBruijn32tab", "math/bits.deBruijn64tab", "unicode/utf8.first", "unicode/utf8.acceptRanges"], apart := false, laid := [("math/bits.deBruijn32tab", laid_math_bits_deBruijn32tab), ("math/bits.deBruijn64tab", laid_math_bits_deBruijn64tab), ("internal/strconv.uint64pow10", laid_internal_strconv_uint64pow10), ("unicode/utf8.acceptRanges", laid_unicode_utf8_acceptRanges), ("unicode/utf8.first", laid_unicode_utf8_first)] }
def ListShowsSaid : Prop := listShowsRow.holds Tryd.pinned (OpenSpec.ofChange listShowsSpec)

/-- ITS FALSE NEIGHBOUR: 'it returns false'. Refute it at one input. -/
def listShowsWrong : ChangeSpec := { name := "listShows", fn := fun _ => fun
  | [d1, d2, d3, d4] => { results := [.lit (.bool false)], args := [d1, d2, d3, d4] }
  | _ => none }
def ListShowsWrongFalsely : Prop := listShowsRow.holds Tryd.pinned (OpenSpec.ofChange listShowsWrong)

/-- 'redactorlaw17.ListFolds': WHATEVER THE INPUT: true; the input reads as it did. -/
def listFoldsSpec : ChangeSpec := { name := "listFolds", fn := fun _ => fun
  | [d1, d2] => { results := [.lit (.bool true)], args := [d1, d2] }
  | _ => none }
def listFoldsRow : OpenClaim := { program := "ytcppmghhijffpaadoor", sum := "055854552e3a8e91cdbf901f878dd564f5a98120221d2158cf1bc63718574beb", func := "redactor/redactorlaw17.ListFolds", spec := "listFolds", unfollowed := true, recurses := true, named := ["internal/strconv.uint64pow10", "math/bits.deBruijn32tab", "math/bits.deBruijn64tab", "unicode/utf8.first", "unicode/utf8.acceptRanges"], apart := false, laid := [("math/bits.deBruijn32tab", laid_math_bits_deBruijn32tab), ("math/bits.deBruijn64tab", laid_math_bits_deBruijn64tab), ("internal/strconv.uint64pow10", laid_internal_strconv_uint64pow10), ("unicode/utf8.acceptRanges", laid_unicode_utf8_acceptRanges), ("unicode/utf8.first", laid_unicode_utf8_first)] }
def ListFoldsSaid : Prop := listFoldsRow.holds Tryd.pinned (OpenSpec.ofChange listFoldsSpec)

/-- ITS FALSE NEIGHBOUR: 'it returns false'. Refute it at one input. -/
def listFoldsWrong : ChangeSpec := { name := "listFolds", fn := fun _ => fun
  | [d1, d2] => { results := [.lit (.bool false)], args := [d1, d2] }
  | _ => none }
def ListFoldsWrongFalsely : Prop := listFoldsRow.holds Tryd.pinned (OpenSpec.ofChange listFoldsWrong)

/-- 'redactorlaw17.ListSeen': WHATEVER THE INPUT: true; the input reads as it did. -/
def listSeenSpec : ChangeSpec := { name := "listSeen", fn := fun _ => fun
  | [d1, d2] => { results := [.lit (.bool true)], args := [d1, d2] }
  | _ => none }
def listSeenRow : OpenClaim := { program := "ytcppmghhijffpaadoor", sum := "055854552e3a8e91cdbf901f878dd564f5a98120221d2158cf1bc63718574beb", func := "redactor/redactorlaw17.ListSeen", spec := "listSeen", unfollowed := true, recurses := true, named := ["internal/strconv.uint64pow10", "math/bits.deBruijn32tab", "math/bits.deBruijn64tab", "unicode/utf8.first", "unicode/utf8.acceptRanges"], apart := false, laid := [("math/bits.deBruijn32tab", laid_math_bits_deBruijn32tab), ("math/bits.deBruijn64tab", laid_math_bits_deBruijn64tab), ("internal/strconv.uint64pow10", laid_internal_strconv_uint64pow10), ("unicode/utf8.acceptRanges", laid_unicode_utf8_acceptRanges), ("unicode/utf8.first", laid_unicode_utf8_first)] }
def ListSeenSaid : Prop := listSeenRow.holds Tryd.pinned (OpenSpec.ofChange listSeenSpec)

/-- ITS FALSE NEIGHBOUR: 'it returns false'. Refute it at one input. -/
def listSeenWrong : ChangeSpec := { name := "listSeen", fn := fun _ => fun
  | [d1, d2] => { results := [.lit (.bool false)], args := [d1, d2] }
  | _ => none }
def ListSeenWrongFalsely : Prop := listSeenRow.holds Tryd.pinned (OpenSpec.ofChange listSeenWrong)

/-- 'redactorlaw01.CellOrder': WHATEVER THE INPUT: true; the input reads as it did. -/
def cellOrderSpec : ChangeSpec := { name := "cellOrder", fn := fun _ => fun
  | [d1, d2, d3] => { results := [.lit (.bool true)], args := [d1, d2, d3] }
  | _ => none }
def cellOrderRow : OpenClaim := { program := "ytcppmghhijffpaadoor", sum := "055854552e3a8e91cdbf901f878dd564f5a98120221d2158cf1bc63718574beb", func := "redactor/redactorlaw01.CellOrder", spec := "cellOrder", inPlace := ["internal/abi.NoEscape"], named := ["unicode/utf8.first", "unicode/utf8.acceptRanges", "internal/strconv.uint64pow10", "math/bits.deBruijn32tab", "math/bits.deBruijn64tab"], apart := false, laid := [("math/bits.deBruijn32tab", laid_math_bits_deBruijn32tab), ("math/bits.deBruijn64tab", laid_math_bits_deBruijn64tab), ("internal/strconv.uint64pow10", laid_internal_strconv_uint64pow10), ("unicode/utf8.acceptRanges", laid_unicode_utf8_acceptRanges), ("unicode/utf8.first", laid_unicode_utf8_first)] }
def CellOrderSaid : Prop := cellOrderRow.holds Tryd.pinned (OpenSpec.ofChange cellOrderSpec)

/-- ITS FALSE NEIGHBOUR: 'it returns false'. Refute it at one input. -/
def cellOrderWrong : ChangeSpec := { name := "cellOrder", fn := fun _ => fun
  | [d1, d2, d3] => { results := [.lit (.bool false)], args := [d1, d2, d3] }
  | _ => none }
def CellOrderWrongFalsely : Prop := cellOrderRow.holds Tryd.pinned (OpenSpec.ofChange cellOrderWrong)

/-- 'redactorlaw01.CellCuts': WHATEVER THE INPUT: true; the input reads as it did. -/
def cellCutsSpec : ChangeSpec := { name := "cellCuts", fn := fun _ => fun
  | [d1, d2] => { results := [.lit (.bool true)], args := [d1, d2] }
  | _ => none }
def cellCutsRow : OpenClaim := { program := "ytcppmghhijffpaadoor", sum := "055854552e3a8e91cdbf901f878dd564f5a98120221d2158cf1bc63718574beb", func := "redactor/redactorlaw01.CellCuts", spec := "cellCuts", inPlace := ["internal/abi.NoEscape"], named := ["unicode/utf8.first", "unicode/utf8.acceptRanges", "internal/strconv.uint64pow10", "math/bits.deBruijn32tab", "math/bits.deBruijn64tab"], apart := false, laid := [("math/bits.deBruijn32tab", laid_math_bits_deBruijn32tab), ("math/bits.deBruijn64tab", laid_math_bits_deBruijn64tab), ("internal/strconv.uint64pow10", laid_internal_strconv_uint64pow10), ("unicode/utf8.acceptRanges", laid_unicode_utf8_acceptRanges), ("unicode/utf8.first", laid_unicode_utf8_first)] }
def CellCutsSaid : Prop := cellCutsRow.holds Tryd.pinned (OpenSpec.ofChange cellCutsSpec)

/-- ITS FALSE NEIGHBOUR: 'it returns false'. Refute it at one input. -/
def cellCutsWrong : ChangeSpec := { name := "cellCuts", fn := fun _ => fun
  | [d1, d2] => { results := [.lit (.bool false)], args := [d1, d2] }
  | _ => none }
def CellCutsWrongFalsely : Prop := cellCutsRow.holds Tryd.pinned (OpenSpec.ofChange cellCutsWrong)

/-- 'redactorlaw01.CellSeen': WHATEVER THE INPUT: true; the input reads as it did. -/
def cellSeenSpec : ChangeSpec := { name := "cellSeen", fn := fun _ => fun
  | [d1, d2] => { results := [.lit (.bool true)], args := [d1, d2] }
  | _ => none }
def cellSeenRow : OpenClaim := { program := "ytcppmghhijffpaadoor", sum := "055854552e3a8e91cdbf901f878dd564f5a98120221d2158cf1bc63718574beb", func := "redactor/redactorlaw01.CellSeen", spec := "cellSeen", inPlace := ["internal/abi.NoEscape"], named := ["internal/strconv.uint64pow10", "math/bits.deBruijn32tab", "math/bits.deBruijn64tab", "unicode/utf8.first", "unicode/utf8.acceptRanges"], apart := false, laid := [("math/bits.deBruijn32tab", laid_math_bits_deBruijn32tab), ("math/bits.deBruijn64tab", laid_math_bits_deBruijn64tab), ("internal/strconv.uint64pow10", laid_internal_strconv_uint64pow10), ("unicode/utf8.acceptRanges", laid_unicode_utf8_acceptRanges), ("unicode/utf8.first", laid_unicode_utf8_first)] }
def CellSeenSaid : Prop := cellSeenRow.holds Tryd.pinned (OpenSpec.ofChange cellSeenSpec)

/-- ITS FALSE NEIGHBOUR: 'it returns false'. Refute it at one input. -/
def cellSeenWrong : ChangeSpec := { name := "cellSeen", fn := fun _ => fun
  | [d1, d2] => { results := [.lit (.bool false)], args := [d1, d2] }
  | _ => none }
def CellSeenWrongFalsely : Prop := cellSeenRow.holds Tryd.pinned (OpenSpec.ofChange cellSeenWrong)

/-- 'redactorlaw01.CellOf': WHATEVER THE INPUT: true; the input reads as it did. -/
def cellOfSpec : ChangeSpec := { name := "cellOf", fn := fun _ => fun
  | [d1, d2, d3, d4] => { results := [.lit (.bool true)], args := [d1, d2, d3, d4] }
  | _ => none }
def cellOfRow : OpenClaim := { program := "ytcppmghhijffpaadoor", sum := "055854552e3a8e91cdbf901f878dd564f5a98120221d2158cf1bc63718574beb", func := "redactor/redactorlaw01.CellOf", spec := "cellOf", inPlace := ["internal/abi.NoEscape"], named := ["unicode/utf8.first", "unicode/utf8.acceptRanges", "internal/strconv.uint64pow10", "math/bits.deBruijn32tab", "math/bits.deBruijn64tab"], apart := false, laid := [("math/bits.deBruijn32tab", laid_math_bits_deBruijn32tab), ("math/bits.deBruijn64tab", laid_math_bits_deBruijn64tab), ("internal/strconv.uint64pow10", laid_internal_strconv_uint64pow10), ("unicode/utf8.acceptRanges", laid_unicode_utf8_acceptRanges), ("unicode/utf8.first", laid_unicode_utf8_first)] }
def CellOfSaid : Prop := cellOfRow.holds Tryd.pinned (OpenSpec.ofChange cellOfSpec)

/-- ITS FALSE NEIGHBOUR: 'it returns false'. Refute it at one input. -/
def cellOfWrong : ChangeSpec := { name := "cellOf", fn := fun _ => fun
  | [d1, d2, d3, d4] => { results := [.lit (.bool false)], args := [d1, d2, d3, d4] }
  | _ => none }
def CellOfWrongFalsely : Prop := cellOfRow.holds Tryd.pinned (OpenSpec.ofChange cellOfWrong)

/-- 'redactorlaw01.CellTexts': WHATEVER THE INPUT: true; the input reads as it did. -/
def cellTextsSpec : ChangeSpec := { name := "cellTexts", fn := fun _ => fun
  | [d1, d2, d3, d4] => { results := [.lit (.bool true)], args := [d1, d2, d3, d4] }
  | _ => none }
def cellTextsRow : OpenClaim := { program := "ytcppmghhijffpaadoor", sum := "055854552e3a8e91cdbf901f878dd564f5a98120221d2158cf1bc63718574beb", func := "redactor/redactorlaw01.CellTexts", spec := "cellTexts", inPlace := ["internal/abi.NoEscape"], named := ["unicode/utf8.first", "unicode/utf8.acceptRanges", "internal/strconv.uint64pow10", "math/bits.deBruijn32tab", "math/bits.deBruijn64tab"], apart := false, laid := [("math/bits.deBruijn32tab", laid_math_bits_deBruijn32tab), ("math/bits.deBruijn64tab", laid_math_bits_deBruijn64tab), ("internal/strconv.uint64pow10", laid_internal_strconv_uint64pow10), ("unicode/utf8.acceptRanges", laid_unicode_utf8_acceptRanges), ("unicode/utf8.first", laid_unicode_utf8_first)] }
def CellTextsSaid : Prop := cellTextsRow.holds Tryd.pinned (OpenSpec.ofChange cellTextsSpec)

/-- ITS FALSE NEIGHBOUR: 'it returns false'. Refute it at one input. -/
def cellTextsWrong : ChangeSpec := { name := "cellTexts", fn := fun _ => fun
  | [d1, d2, d3, d4] => { results := [.lit (.bool false)], args := [d1, d2, d3, d4] }
  | _ => none }
def CellTextsWrongFalsely : Prop := cellTextsRow.holds Tryd.pinned (OpenSpec.ofChange cellTextsWrong)

/-- 'redactorlaw01.CellFinds': WHATEVER THE INPUT: true; the input reads as it did. -/
def cellFindsSpec : ChangeSpec := { name := "cellFinds", fn := fun _ => fun
  | [d1, d2, d3, d4, d5, d6, d7] => { results := [.lit (.bool true)], args := [d1, d2, d3, d4, d5, d6, d7] }
  | _ => none }
def cellFindsRow : OpenClaim := { program := "ytcppmghhijffpaadoor", sum := "055854552e3a8e91cdbf901f878dd564f5a98120221d2158cf1bc63718574beb", func := "redactor/redactorlaw01.CellFinds", spec := "cellFinds", inPlace := ["internal/abi.NoEscape"], named := ["unicode/utf8.first", "unicode/utf8.acceptRanges", "internal/strconv.uint64pow10", "math/bits.deBruijn32tab", "math/bits.deBruijn64tab"], apart := false, laid := [("math/bits.deBruijn32tab", laid_math_bits_deBruijn32tab), ("math/bits.deBruijn64tab", laid_math_bits_deBruijn64tab), ("internal/strconv.uint64pow10", laid_internal_strconv_uint64pow10), ("unicode/utf8.acceptRanges", laid_unicode_utf8_acceptRanges), ("unicode/utf8.first", laid_unicode_utf8_first)] }
def CellFindsSaid : Prop := cellFindsRow.holds Tryd.pinned (OpenSpec.ofChange cellFindsSpec)

/-- ITS FALSE NEIGHBOUR: 'it returns false'. Refute it at one input. -/
def cellFindsWrong : ChangeSpec := { name := "cellFinds", fn := fun _ => fun
  | [d1, d2, d3, d4, d5, d6, d7] => { results := [.lit (.bool false)], args := [d1, d2, d3, d4, d5, d6, d7] }
  | _ => none }
def CellFindsWrongFalsely : Prop := cellFindsRow.holds Tryd.pinned (OpenSpec.ofChange cellFindsWrong)

/-- 'redactorlaw01.CellBytes': WHATEVER THE INPUT: true; the input reads as it did. -/
def cellBytesSpec : ChangeSpec := { name := "cellBytes", fn := fun _ => fun
  | [d1, d2, d3] => { results := [.lit (.bool true)], args := [d1, d2, d3] }
  | _ => none }
def cellBytesRow : OpenClaim := { program := "ytcppmghhijffpaadoor", sum := "055854552e3a8e91cdbf901f878dd564f5a98120221d2158cf1bc63718574beb", func := "redactor/redactorlaw01.CellBytes", spec := "cellBytes", inPlace := ["internal/abi.NoEscape"], named := ["unicode/utf8.first", "unicode/utf8.acceptRanges", "internal/strconv.uint64pow10", "math/bits.deBruijn32tab", "math/bits.deBruijn64tab"], apart := false, laid := [("math/bits.deBruijn32tab", laid_math_bits_deBruijn32tab), ("math/bits.deBruijn64tab", laid_math_bits_deBruijn64tab), ("internal/strconv.uint64pow10", laid_internal_strconv_uint64pow10), ("unicode/utf8.acceptRanges", laid_unicode_utf8_acceptRanges), ("unicode/utf8.first", laid_unicode_utf8_first)] }
def CellBytesSaid : Prop := cellBytesRow.holds Tryd.pinned (OpenSpec.ofChange cellBytesSpec)

/-- ITS FALSE NEIGHBOUR: 'it returns false'. Refute it at one input. -/
def cellBytesWrong : ChangeSpec := { name := "cellBytes", fn := fun _ => fun
  | [d1, d2, d3] => { results := [.lit (.bool false)], args := [d1, d2, d3] }
  | _ => none }
def CellBytesWrongFalsely : Prop := cellBytesRow.holds Tryd.pinned (OpenSpec.ofChange cellBytesWrong)

/-- 'redactorlaw01.CellAll': WHATEVER THE INPUT: true; the input reads as it did. -/
def cellAllSpec : ChangeSpec := { name := "cellAll", fn := fun _ => fun
  | [d1, d2] => { results := [.lit (.bool true)], args := [d1, d2] }
  | _ => none }
def cellAllRow : OpenClaim := { program := "ytcppmghhijffpaadoor", sum := "055854552e3a8e91cdbf901f878dd564f5a98120221d2158cf1bc63718574beb", func := "redactor/redactorlaw01.CellAll", spec := "cellAll", inPlace := ["internal/abi.NoEscape"], named := ["unicode/utf8.first", "unicode/utf8.acceptRanges", "internal/strconv.uint64pow10", "math/bits.deBruijn32tab", "math/bits.deBruijn64tab"], apart := false, laid := [("math/bits.deBruijn32tab", laid_math_bits_deBruijn32tab), ("math/bits.deBruijn64tab", laid_math_bits_deBruijn64tab), ("internal/strconv.uint64pow10", laid_internal_strconv_uint64pow10), ("unicode/utf8.acceptRanges", laid_unicode_utf8_acceptRanges), ("unicode/utf8.first", laid_unicode_utf8_first)] }
def CellAllSaid : Prop := cellAllRow.holds Tryd.pinned (OpenSpec.ofChange cellAllSpec)

/-- ITS FALSE NEIGHBOUR: 'it returns false'. Refute it at one input. -/
def cellAllWrong : ChangeSpec := { name := "cellAll", fn := fun _ => fun
  | [d1, d2] => { results := [.lit (.bool false)], args := [d1, d2] }
  | _ => none }
def CellAllWrongFalsely : Prop := cellAllRow.holds Tryd.pinned (OpenSpec.ofChange cellAllWrong)

/-- 'redactorlaw01.CellPlace': WHATEVER THE INPUT: true; the input reads as it did. -/
def cellPlaceSpec : ChangeSpec := { name := "cellPlace", fn := fun _ => fun
  | [d1, d2, d3] => { results := [.lit (.bool true)], args := [d1, d2, d3] }
  | _ => none }
def cellPlaceRow : OpenClaim := { program := "ytcppmghhijffpaadoor", sum := "055854552e3a8e91cdbf901f878dd564f5a98120221d2158cf1bc63718574beb", func := "redactor/redactorlaw01.CellPlace", spec := "cellPlace", inPlace := ["internal/abi.NoEscape"], named := ["unicode/utf8.first", "unicode/utf8.acceptRanges", "internal/strconv.uint64pow10", "math/bits.deBruijn32tab", "math/bits.deBruijn64tab"], apart := false, laid := [("math/bits.deBruijn32tab", laid_math_bits_deBruijn32tab), ("math/bits.deBruijn64tab", laid_math_bits_deBruijn64tab), ("internal/strconv.uint64pow10", laid_internal_strconv_uint64pow10), ("unicode/utf8.acceptRanges", laid_unicode_utf8_acceptRanges), ("unicode/utf8.first", laid_unicode_utf8_first)] }
def CellPlaceSaid : Prop := cellPlaceRow.holds Tryd.pinned (OpenSpec.ofChange cellPlaceSpec)

/-- ITS FALSE NEIGHBOUR: 'it returns false'. Refute it at one input. -/
def cellPlaceWrong : ChangeSpec := { name := "cellPlace", fn := fun _ => fun
  | [d1, d2, d3] => { results := [.lit (.bool false)], args := [d1, d2, d3] }
  | _ => none }
def CellPlaceWrongFalsely : Prop := cellPlaceRow.holds Tryd.pinned (OpenSpec.ofChange cellPlaceWrong)

/-- 'redactorlaw09.TreeLeaves': WHATEVER THE INPUT: true; the input reads as it did. -/
def treeLeavesSpec : ChangeSpec := { name := "treeLeaves", fn := fun _ => fun
  | [d1, d2] => { results := [.lit (.bool true)], args := [d1, d2] }
  | _ => none }
def treeLeavesRow : OpenClaim := { program := "ytcppmghhijffpaadoor", sum := "055854552e3a8e91cdbf901f878dd564f5a98120221d2158cf1bc63718574beb", func := "redactor/redactorlaw09.TreeLeaves", spec := "treeLeaves", inPlace := ["internal/abi.NoEscape"], unfollowed := true, recurses := true, named := ["internal/strconv.uint64pow10", "math/bits.deBruijn32tab", "math/bits.deBruijn64tab"], apart := false, laid := [("math/bits.deBruijn32tab", laid_math_bits_deBruijn32tab), ("math/bits.deBruijn64tab", laid_math_bits_deBruijn64tab), ("internal/strconv.uint64pow10", laid_internal_strconv_uint64pow10)] }
def TreeLeavesSaid : Prop := treeLeavesRow.holds Tryd.pinned (OpenSpec.ofChange treeLeavesSpec)

/-- ITS FALSE NEIGHBOUR: 'it returns false'. Refute it at one input. -/
def treeLeavesWrong : ChangeSpec := { name := "treeLeaves", fn := fun _ => fun
  | [d1, d2] => { results := [.lit (.bool false)], args := [d1, d2] }
  | _ => none }
def TreeLeavesWrongFalsely : Prop := treeLeavesRow.holds Tryd.pinned (OpenSpec.ofChange treeLeavesWrong)

/-- 'redactorlaw09.TreeTimes': WHATEVER THE INPUT: true; the input reads as it did. -/
def treeTimesSpec : ChangeSpec := { name := "treeTimes", fn := fun _ => fun
  | [d1, d2] => { results := [.lit (.bool true)], args := [d1, d2] }
  | _ => none }
def treeTimesRow : OpenClaim := { program := "ytcppmghhijffpaadoor", sum := "055854552e3a8e91cdbf901f878dd564f5a98120221d2158cf1bc63718574beb", func := "redactor/redactorlaw09.TreeTimes", spec := "treeTimes", inPlace := ["internal/abi.NoEscape"], unfollowed := true, recurses := true, named := ["internal/strconv.uint64pow10", "math/bits.deBruijn32tab", "math/bits.deBruijn64tab"], apart := false, laid := [("math/bits.deBruijn32tab", laid_math_bits_deBruijn32tab), ("math/bits.deBruijn64tab", laid_math_bits_deBruijn64tab), ("internal/strconv.uint64pow10", laid_internal_strconv_uint64pow10)] }
def TreeTimesSaid : Prop := treeTimesRow.holds Tryd.pinned (OpenSpec.ofChange treeTimesSpec)

/-- ITS FALSE NEIGHBOUR: 'it returns false'. Refute it at one input. -/
def treeTimesWrong : ChangeSpec := { name := "treeTimes", fn := fun _ => fun
  | [d1, d2] => { results := [.lit (.bool false)], args := [d1, d2] }
  | _ => none }
def TreeTimesWrongFalsely : Prop := treeTimesRow.holds Tryd.pinned (OpenSpec.ofChange treeTimesWrong)

/-- 'redactorlaw09.TreeRights': WHATEVER THE INPUT: true; the input reads as it did. -/
def treeRightsSpec : ChangeSpec := { name := "treeRights", fn := fun _ => fun
  | [d1, d2, d3, d4, d5] => { results := [.lit (.bool true)], args := [d1, d2, d3, d4, d5] }
  | _ => none }
def treeRightsRow : OpenClaim := { program := "ytcppmghhijffpaadoor", sum := "055854552e3a8e91cdbf901f878dd564f5a98120221d2158cf1bc63718574beb", func := "redactor/redactorlaw09.TreeRights", spec := "treeRights", inPlace := ["internal/abi.NoEscape"], unfollowed := true, recurses := true, named := ["internal/strconv.uint64pow10", "math/bits.deBruijn32tab", "math/bits.deBruijn64tab"], apart := false, laid := [("math/bits.deBruijn32tab", laid_math_bits_deBruijn32tab), ("math/bits.deBruijn64tab", laid_math_bits_deBruijn64tab), ("internal/strconv.uint64pow10", laid_internal_strconv_uint64pow10)] }
def TreeRightsSaid : Prop := treeRightsRow.holds Tryd.pinned (OpenSpec.ofChange treeRightsSpec)

/-- ITS FALSE NEIGHBOUR: 'it returns false'. Refute it at one input. -/
def treeRightsWrong : ChangeSpec := { name := "treeRights", fn := fun _ => fun
  | [d1, d2, d3, d4, d5] => { results := [.lit (.bool false)], args := [d1, d2, d3, d4, d5] }
  | _ => none }
def TreeRightsWrongFalsely : Prop := treeRightsRow.holds Tryd.pinned (OpenSpec.ofChange treeRightsWrong)

/-- 'redactorlaw09.TreeGroups': WHATEVER THE INPUT: true; the input reads as it did. -/
def treeGroupsSpec : ChangeSpec := { name := "treeGroups", fn := fun _ => fun
  | [d] => { results := [.lit (.bool true)], args := [d] }
  | _ => none }
def treeGroupsRow : OpenClaim := { program := "ytcppmghhijffpaadoor", sum := "055854552e3a8e91cdbf901f878dd564f5a98120221d2158cf1bc63718574beb", func := "redactor/redactorlaw09.TreeGroups", spec := "treeGroups", inPlace := ["internal/abi.NoEscape"], unfollowed := true, recurses := true, named := ["internal/strconv.uint64pow10", "math/bits.deBruijn32tab", "math/bits.deBruijn64tab"], apart := false, laid := [("math/bits.deBruijn32tab", laid_math_bits_deBruijn32tab), ("math/bits.deBruijn64tab", laid_math_bits_deBruijn64tab), ("internal/strconv.uint64pow10", laid_internal_strconv_uint64pow10)] }
def TreeGroupsSaid : Prop := treeGroupsRow.holds Tryd.pinned (OpenSpec.ofChange treeGroupsSpec)

/-- ITS FALSE NEIGHBOUR: 'it returns false'. Refute it at one input. -/
def treeGroupsWrong : ChangeSpec := { name := "treeGroups", fn := fun _ => fun
  | [d] => { results := [.lit (.bool false)], args := [d] }
  | _ => none }
def TreeGroupsWrongFalsely : Prop := treeGroupsRow.holds Tryd.pinned (OpenSpec.ofChange treeGroupsWrong)

/-- 'redactorlaw09.TreeFew': WHATEVER THE INPUT: true; the input reads as it did. -/
def treeFewSpec : ChangeSpec := { name := "treeFew", fn := fun _ => fun
  | [d] => { results := [.lit (.bool true)], args := [d] }
  | _ => none }
def treeFewRow : OpenClaim := { program := "ytcppmghhijffpaadoor", sum := "055854552e3a8e91cdbf901f878dd564f5a98120221d2158cf1bc63718574beb", func := "redactor/redactorlaw09.TreeFew", spec := "treeFew", inPlace := ["internal/abi.NoEscape"], unfollowed := true, recurses := true, named := ["internal/strconv.uint64pow10", "math/bits.deBruijn32tab", "math/bits.deBruijn64tab"], apart := false, laid := [("math/bits.deBruijn32tab", laid_math_bits_deBruijn32tab), ("math/bits.deBruijn64tab", laid_math_bits_deBruijn64tab), ("internal/strconv.uint64pow10", laid_internal_strconv_uint64pow10)] }
def TreeFewSaid : Prop := treeFewRow.holds Tryd.pinned (OpenSpec.ofChange treeFewSpec)

/-- ITS FALSE NEIGHBOUR: 'it returns false'. Refute it at one input. -/
def treeFewWrong : ChangeSpec := { name := "treeFew", fn := fun _ => fun
  | [d] => { results := [.lit (.bool false)], args := [d] }
  | _ => none }
def TreeFewWrongFalsely : Prop := treeFewRow.holds Tryd.pinned (OpenSpec.ofChange treeFewWrong)

/-- 'redactorlaw09.TreeBuilds': WHATEVER THE INPUT: true; the input reads as it did. -/
def treeBuildsSpec : ChangeSpec := { name := "treeBuilds", fn := fun _ => fun
  | [d] => { results := [.lit (.bool true)], args := [d] }
  | _ => none }
def treeBuildsRow : OpenClaim := { program := "ytcppmghhijffpaadoor", sum := "055854552e3a8e91cdbf901f878dd564f5a98120221d2158cf1bc63718574beb", func := "redactor/redactorlaw09.TreeBuilds", spec := "treeBuilds", inPlace := ["internal/abi.NoEscape"], unfollowed := true, recurses := true, named := ["internal/strconv.uint64pow10", "math/bits.deBruijn32tab", "math/bits.deBruijn64tab"], apart := false, laid := [("math/bits.deBruijn32tab", laid_math_bits_deBruijn32tab), ("math/bits.deBruijn64tab", laid_math_bits_deBruijn64tab), ("internal/strconv.uint64pow10", laid_internal_strconv_uint64pow10)] }
def TreeBuildsSaid : Prop := treeBuildsRow.holds Tryd.pinned (OpenSpec.ofChange treeBuildsSpec)

/-- ITS FALSE NEIGHBOUR: 'it returns false'. Refute it at one input. -/
def treeBuildsWrong : ChangeSpec := { name := "treeBuilds", fn := fun _ => fun
  | [d] => { results := [.lit (.bool false)], args := [d] }
  | _ => none }
def TreeBuildsWrongFalsely : Prop := treeBuildsRow.holds Tryd.pinned (OpenSpec.ofChange treeBuildsWrong)

/- THE SECOND FORM. 'bulk': how many values and letters a reading holds, each counted each time it is reached (what is shared counts as often as it is met; a slice's spare places count too). A statement '..UptoSaid' is the law's where the arguments, and the package variables that the reading takes, are together of bulk at most 1048576: NARROWER than '..Said'. Prove '..Said' where nothing that the law and all that it calls make is longer than what came in: it says more and counts as full. Else prove '..UptoSaid'. A law counts once. -/
mutual
def uptoBulk {H : Type} : DataW H → Nat
  | .lit (.string bytes) => bytes.length + 1
  | .lit _ => 1
  | .nil => 1
  | .ptr d => uptoBulk d + 1
  | .slice elems spare => uptoBulkAll elems + uptoBulkAll spare + 1
  | .agg parts => uptoBulkAll parts + 1
  | .iface _ d => uptoBulk d + 1
  | .map entries => uptoBulkEntries entries + 1
  | .held _ => 1
def uptoBulkAll {H : Type} : List (DataW H) → Nat
  | [] => 0
  | d :: r => uptoBulk d + uptoBulkAll r
def uptoBulkEntries {H : Type} : List (Lit × DataW H) → Nat
  | [] => 0
  | x :: r => uptoBulkEntry x + uptoBulkEntries r
def uptoBulkEntry {H : Type} : Lit × DataW H → Nat
  | (.string bytes, d) => bytes.length + uptoBulk d + 1
  | (_, d) => uptoBulk d + 1
 end
def uptoSmall : (H : Type) → List (DataW H) → Bool := fun _ ds => decide (uptoBulkAll ds ≤ 1048576)
def OpenSpec.upto (s : _root_.Go.ChangeSpec) : _root_.Go.OpenSpec := { _root_.Go.OpenSpec.ofChange s with cond := some uptoSmall }

/-- 'redactorlaw17.ListPlain', WHERE WHAT IT READS IS OF BULK AT MOST 1048576: true; the input reads as it did. -/
def listPlainUptoRow : OpenClaim := { program := "ytcppmghhijffpaadoor", sum := "055854552e3a8e91cdbf901f878dd564f5a98120221d2158cf1bc63718574beb", func := "redactor/redactorlaw17.ListPlain", spec := "listPlain", unfollowed := true, recurses := true, named := ["internal/strconv.uint64pow10", "math/bits.deBruijn32tab", "math/bits.deBruijn64tab", "unicode/utf8.first", "unicode/utf8.acceptRanges"], apart := false, laid := [("math/bits.deBruijn32tab", laid_math_bits_deBruijn32tab), ("math/bits.deBruijn64tab", laid_math_bits_deBruijn64tab), ("internal/strconv.uint64pow10", laid_internal_strconv_uint64pow10), ("unicode/utf8.acceptRanges", laid_unicode_utf8_acceptRanges), ("unicode/utf8.first", laid_unicode_utf8_first)], narrowed := true }
def ListPlainUptoSaid : Prop := listPlainUptoRow.holds Tryd.pinned (OpenSpec.upto listPlainSpec)

/-- 'redactorlaw17.ListShows', WHERE WHAT IT READS IS OF BULK AT MOST 1048576: true; the input reads as it did. -/
def listShowsUptoRow : OpenClaim := { program := "ytcppmghhijffpaadoor", sum := "055854552e3a8e91cdbf901f878dd564f5a98120221d2158cf1bc63718574beb", func := "redactor/redactorlaw17.ListShows", spec := "listShows", unfollowed := true, recurses := true, named := ["internal/strconv.uint64pow10", "math/bits.deBruijn32tab", "math/bits.deBruijn64tab", "unicode/utf8.first", "unicode/utf8.acceptRanges"], apart := false, laid := [("math/bits.deBruijn32tab", laid_math_bits_deBruijn32tab), ("math/bits.deBruijn64tab", laid_math_bits_deBruijn64tab), ("internal/strconv.uint64pow10", laid_internal_strconv_uint64pow10), ("unicode/utf8.acceptRanges", laid_unicode_utf8_acceptRanges), ("unicode/utf8.first", laid_unicode_utf8_first)], narrowed := true }
def ListShowsUptoSaid : Prop := listShowsUptoRow.holds Tryd.pinned (OpenSpec.upto listShowsSpec)

/-- 'redactorlaw17.ListFolds', WHERE WHAT IT READS IS OF BULK AT MOST 1048576: true; the input reads as it did. -/
def listFoldsUptoRow : OpenClaim := { program := "ytcppmghhijffpaadoor", sum := "055854552e3a8e91cdbf901f878dd564f5a98120221d2158cf1bc63718574beb", func := "redactor/redactorlaw17.ListFolds", spec := "listFolds", unfollowed := true, recurses := true, named := ["internal/strconv.uint64pow10", "math/bits.deBruijn32tab", "math/bits.deBruijn64tab", "unicode/utf8.first", "unicode/utf8.acceptRanges"], apart := false, laid := [("math/bits.deBruijn32tab", laid_math_bits_deBruijn32tab), ("math/bits.deBruijn64tab", laid_math_bits_deBruijn64tab), ("internal/strconv.uint64pow10", laid_internal_strconv_uint64pow10), ("unicode/utf8.acceptRanges", laid_unicode_utf8_acceptRanges), ("unicode/utf8.first", laid_unicode_utf8_first)], narrowed := true }
def ListFoldsUptoSaid : Prop := listFoldsUptoRow.holds Tryd.pinned (OpenSpec.upto listFoldsSpec)

/-- 'redactorlaw17.ListSeen', WHERE WHAT IT READS IS OF BULK AT MOST 1048576: true; the input reads as it did. -/
def listSeenUptoRow : OpenClaim := { program := "ytcppmghhijffpaadoor", sum := "055854552e3a8e91cdbf901f878dd564f5a98120221d2158cf1bc63718574beb", func := "redactor/redactorlaw17.ListSeen", spec := "listSeen", unfollowed := true, recurses := true, named := ["internal/strconv.uint64pow10", "math/bits.deBruijn32tab", "math/bits.deBruijn64tab", "unicode/utf8.first", "unicode/utf8.acceptRanges"], apart := false, laid := [("math/bits.deBruijn32tab", laid_math_bits_deBruijn32tab), ("math/bits.deBruijn64tab", laid_math_bits_deBruijn64tab), ("internal/strconv.uint64pow10", laid_internal_strconv_uint64pow10), ("unicode/utf8.acceptRanges", laid_unicode_utf8_acceptRanges), ("unicode/utf8.first", laid_unicode_utf8_first)], narrowed := true }
def ListSeenUptoSaid : Prop := listSeenUptoRow.holds Tryd.pinned (OpenSpec.upto listSeenSpec)

/-- 'redactorlaw01.CellOrder', WHERE WHAT IT READS IS OF BULK AT MOST 1048576: true; the input reads as it did. -/
def cellOrderUptoRow : OpenClaim := { program := "ytcppmghhijffpaadoor", sum := "055854552e3a8e91cdbf901f878dd564f5a98120221d2158cf1bc63718574beb", func := "redactor/redactorlaw01.CellOrder", spec := "cellOrder", inPlace := ["internal/abi.NoEscape"], named := ["unicode/utf8.first", "unicode/utf8.acceptRanges", "internal/strconv.uint64pow10", "math/bits.deBruijn32tab", "math/bits.deBruijn64tab"], apart := false, laid := [("math/bits.deBruijn32tab", laid_math_bits_deBruijn32tab), ("math/bits.deBruijn64tab", laid_math_bits_deBruijn64tab), ("internal/strconv.uint64pow10", laid_internal_strconv_uint64pow10), ("unicode/utf8.acceptRanges", laid_unicode_utf8_acceptRanges), ("unicode/utf8.first", laid_unicode_utf8_first)], narrowed := true }
def CellOrderUptoSaid : Prop := cellOrderUptoRow.holds Tryd.pinned (OpenSpec.upto cellOrderSpec)

/-- 'redactorlaw01.CellCuts', WHERE WHAT IT READS IS OF BULK AT MOST 1048576: true; the input reads as it did. -/
def cellCutsUptoRow : OpenClaim := { program := "ytcppmghhijffpaadoor", sum := "055854552e3a8e91cdbf901f878dd564f5a98120221d2158cf1bc63718574beb", func := "redactor/redactorlaw01.CellCuts", spec := "cellCuts", inPlace := ["internal/abi.NoEscape"], named := ["unicode/utf8.first", "unicode/utf8.acceptRanges", "internal/strconv.uint64pow10", "math/bits.deBruijn32tab", "math/bits.deBruijn64tab"], apart := false, laid := [("math/bits.deBruijn32tab", laid_math_bits_deBruijn32tab), ("math/bits.deBruijn64tab", laid_math_bits_deBruijn64tab), ("internal/strconv.uint64pow10", laid_internal_strconv_uint64pow10), ("unicode/utf8.acceptRanges", laid_unicode_utf8_acceptRanges), ("unicode/utf8.first", laid_unicode_utf8_first)], narrowed := true }
def CellCutsUptoSaid : Prop := cellCutsUptoRow.holds Tryd.pinned (OpenSpec.upto cellCutsSpec)

/-- 'redactorlaw01.CellSeen', WHERE WHAT IT READS IS OF BULK AT MOST 1048576: true; the input reads as it did. -/
def cellSeenUptoRow : OpenClaim := { program := "ytcppmghhijffpaadoor", sum := "055854552e3a8e91cdbf901f878dd564f5a98120221d2158cf1bc63718574beb", func := "redactor/redactorlaw01.CellSeen", spec := "cellSeen", inPlace := ["internal/abi.NoEscape"], named := ["internal/strconv.uint64pow10", "math/bits.deBruijn32tab", "math/bits.deBruijn64tab", "unicode/utf8.first", "unicode/utf8.acceptRanges"], apart := false, laid := [("math/bits.deBruijn32tab", laid_math_bits_deBruijn32tab), ("math/bits.deBruijn64tab", laid_math_bits_deBruijn64tab), ("internal/strconv.uint64pow10", laid_internal_strconv_uint64pow10), ("unicode/utf8.acceptRanges", laid_unicode_utf8_acceptRanges), ("unicode/utf8.first", laid_unicode_utf8_first)], narrowed := true }
def CellSeenUptoSaid : Prop := cellSeenUptoRow.holds Tryd.pinned (OpenSpec.upto cellSeenSpec)

/-- 'redactorlaw01.CellOf', WHERE WHAT IT READS IS OF BULK AT MOST 1048576: true; the input reads as it did. -/
def cellOfUptoRow : OpenClaim := { program := "ytcppmghhijffpaadoor", sum := "055854552e3a8e91cdbf901f878dd564f5a98120221d2158cf1bc63718574beb", func := "redactor/redactorlaw01.CellOf", spec := "cellOf", inPlace := ["internal/abi.NoEscape"], named := ["unicode/utf8.first", "unicode/utf8.acceptRanges", "internal/strconv.uint64pow10", "math/bits.deBruijn32tab", "math/bits.deBruijn64tab"], apart := false, laid := [("math/bits.deBruijn32tab", laid_math_bits_deBruijn32tab), ("math/bits.deBruijn64tab", laid_math_bits_deBruijn64tab), ("internal/strconv.uint64pow10", laid_internal_strconv_uint64pow10), ("unicode/utf8.acceptRanges", laid_unicode_utf8_acceptRanges), ("unicode/utf8.first", laid_unicode_utf8_first)], narrowed := true }
def CellOfUptoSaid : Prop := cellOfUptoRow.holds Tryd.pinned (OpenSpec.upto cellOfSpec)

/-- 'redactorlaw01.CellTexts', WHERE WHAT IT READS IS OF BULK AT MOST 1048576: true; the input reads as it did. -/
def cellTextsUptoRow : OpenClaim := { program := "ytcppmghhijffpaadoor", sum := "055854552e3a8e91cdbf901f878dd564f5a98120221d2158cf1bc63718574beb", func := "redactor/redactorlaw01.CellTexts", spec := "cellTexts", inPlace := ["internal/abi.NoEscape"], named := ["unicode/utf8.first", "unicode/utf8.acceptRanges", "internal/strconv.uint64pow10", "math/bits.deBruijn32tab", "math/bits.deBruijn64tab"], apart := false, laid := [("math/bits.deBruijn32tab", laid_math_bits_deBruijn32tab), ("math/bits.deBruijn64tab", laid_math_bits_deBruijn64tab), ("internal/strconv.uint64pow10", laid_internal_strconv_uint64pow10), ("unicode/utf8.acceptRanges", laid_unicode_utf8_acceptRanges), ("unicode/utf8.first", laid_unicode_utf8_first)], narrowed := true }
def CellTextsUptoSaid : Prop := cellTextsUptoRow.holds Tryd.pinned (OpenSpec.upto cellTextsSpec)

/-- 'redactorlaw01.CellFinds', WHERE WHAT IT READS IS OF BULK AT MOST 1048576: true; the input reads as it did. -/
def cellFindsUptoRow : OpenClaim := { program := "ytcppmghhijffpaadoor", sum := "055854552e3a8e91cdbf901f878dd564f5a98120221d2158cf1bc63718574beb", func := "redactor/redactorlaw01.CellFinds", spec := "cellFinds", inPlace := ["internal/abi.NoEscape"], named := ["unicode/utf8.first", "unicode/utf8.acceptRanges", "internal/strconv.uint64pow10", "math/bits.deBruijn32tab", "math/bits.deBruijn64tab"], apart := false, laid := [("math/bits.deBruijn32tab", laid_math_bits_deBruijn32tab), ("math/bits.deBruijn64tab", laid_math_bits_deBruijn64tab), ("internal/strconv.uint64pow10", laid_internal_strconv_uint64pow10), ("unicode/utf8.acceptRanges", laid_unicode_utf8_acceptRanges), ("unicode/utf8.first", laid_unicode_utf8_first)], narrowed := true }
def CellFindsUptoSaid : Prop := cellFindsUptoRow.holds Tryd.pinned (OpenSpec.upto cellFindsSpec)

/-- 'redactorlaw01.CellBytes', WHERE WHAT IT READS IS OF BULK AT MOST 1048576: true; the input reads as it did. -/
def cellBytesUptoRow : OpenClaim := { program := "ytcppmghhijffpaadoor", sum := "055854552e3a8e91cdbf901f878dd564f5a98120221d2158cf1bc63718574beb", func := "redactor/redactorlaw01.CellBytes", spec := "cellBytes", inPlace := ["internal/abi.NoEscape"], named := ["unicode/utf8.first", "unicode/utf8.acceptRanges", "internal/strconv.uint64pow10", "math/bits.deBruijn32tab", "math/bits.deBruijn64tab"], apart := false, laid := [("math/bits.deBruijn32tab", laid_math_bits_deBruijn32tab), ("math/bits.deBruijn64tab", laid_math_bits_deBruijn64tab), ("internal/strconv.uint64pow10", laid_internal_strconv_uint64pow10), ("unicode/utf8.acceptRanges", laid_unicode_utf8_acceptRanges), ("unicode/utf8.first", laid_unicode_utf8_first)], narrowed := true }
def CellBytesUptoSaid : Prop := cellBytesUptoRow.holds Tryd.pinned (OpenSpec.upto cellBytesSpec)

/-- 'redactorlaw01.CellAll', WHERE WHAT IT READS IS OF BULK AT MOST 1048576: true; the input reads as it did. -/
def cellAllUptoRow : OpenClaim := { program := "ytcppmghhijffpaadoor", sum := "055854552e3a8e91cdbf901f878dd564f5a98120221d2158cf1bc63718574beb", func := "redactor/redactorlaw01.CellAll", spec := "cellAll", inPlace := ["internal/abi.NoEscape"], named := ["unicode/utf8.first", "unicode/utf8.acceptRanges", "internal/strconv.uint64pow10", "math/bits.deBruijn32tab", "math/bits.deBruijn64tab"], apart := false, laid := [("math/bits.deBruijn32tab", laid_math_bits_deBruijn32tab), ("math/bits.deBruijn64tab", laid_math_bits_deBruijn64tab), ("internal/strconv.uint64pow10", laid_internal_strconv_uint64pow10), ("unicode/utf8.acceptRanges", laid_unicode_utf8_acceptRanges), ("unicode/utf8.first", laid_unicode_utf8_first)], narrowed := true }
def CellAllUptoSaid : Prop := cellAllUptoRow.holds Tryd.pinned (OpenSpec.upto cellAllSpec)

/-- 'redactorlaw01.CellPlace', WHERE WHAT IT READS IS OF BULK AT MOST 1048576: true; the input reads as it did. -/
def cellPlaceUptoRow : OpenClaim := { program := "ytcppmghhijffpaadoor", sum := "055854552e3a8e91cdbf901f878dd564f5a98120221d2158cf1bc63718574beb", func := "redactor/redactorlaw01.CellPlace", spec := "cellPlace", inPlace := ["internal/abi.NoEscape"], named := ["unicode/utf8.first", "unicode/utf8.acceptRanges", "internal/strconv.uint64pow10", "math/bits.deBruijn32tab", "math/bits.deBruijn64tab"], apart := false, laid := [("math/bits.deBruijn32tab", laid_math_bits_deBruijn32tab), ("math/bits.deBruijn64tab", laid_math_bits_deBruijn64tab), ("internal/strconv.uint64pow10", laid_internal_strconv_uint64pow10), ("unicode/utf8.acceptRanges", laid_unicode_utf8_acceptRanges), ("unicode/utf8.first", laid_unicode_utf8_first)], narrowed := true }
def CellPlaceUptoSaid : Prop := cellPlaceUptoRow.holds Tryd.pinned (OpenSpec.upto cellPlaceSpec)

/-- 'redactorlaw09.TreeLeaves', WHERE WHAT IT READS IS OF BULK AT MOST 1048576: true; the input reads as it did. -/
def treeLeavesUptoRow : OpenClaim := { program := "ytcppmghhijffpaadoor", sum := "055854552e3a8e91cdbf901f878dd564f5a98120221d2158cf1bc63718574beb", func := "redactor/redactorlaw09.TreeLeaves", spec := "treeLeaves", inPlace := ["internal/abi.NoEscape"], unfollowed := true, recurses := true, named := ["internal/strconv.uint64pow10", "math/bits.deBruijn32tab", "math/bits.deBruijn64tab"], apart := false, laid := [("math/bits.deBruijn32tab", laid_math_bits_deBruijn32tab), ("math/bits.deBruijn64tab", laid_math_bits_deBruijn64tab), ("internal/strconv.uint64pow10", laid_internal_strconv_uint64pow10)], narrowed := true }
def TreeLeavesUptoSaid : Prop := treeLeavesUptoRow.holds Tryd.pinned (OpenSpec.upto treeLeavesSpec)

/-- 'redactorlaw09.TreeTimes', WHERE WHAT IT READS IS OF BULK AT MOST 1048576: true; the input reads as it did. -/
def treeTimesUptoRow : OpenClaim := { program := "ytcppmghhijffpaadoor", sum := "055854552e3a8e91cdbf901f878dd564f5a98120221d2158cf1bc63718574beb", func := "redactor/redactorlaw09.TreeTimes", spec := "treeTimes", inPlace := ["internal/abi.NoEscape"], unfollowed := true, recurses := true, named := ["internal/strconv.uint64pow10", "math/bits.deBruijn32tab", "math/bits.deBruijn64tab"], apart := false, laid := [("math/bits.deBruijn32tab", laid_math_bits_deBruijn32tab), ("math/bits.deBruijn64tab", laid_math_bits_deBruijn64tab), ("internal/strconv.uint64pow10", laid_internal_strconv_uint64pow10)], narrowed := true }
def TreeTimesUptoSaid : Prop := treeTimesUptoRow.holds Tryd.pinned (OpenSpec.upto treeTimesSpec)

/-- 'redactorlaw09.TreeRights', WHERE WHAT IT READS IS OF BULK AT MOST 1048576: true; the input reads as it did. -/
def treeRightsUptoRow : OpenClaim := { program := "ytcppmghhijffpaadoor", sum := "055854552e3a8e91cdbf901f878dd564f5a98120221d2158cf1bc63718574beb", func := "redactor/redactorlaw09.TreeRights", spec := "treeRights", inPlace := ["internal/abi.NoEscape"], unfollowed := true, recurses := true, named := ["internal/strconv.uint64pow10", "math/bits.deBruijn32tab", "math/bits.deBruijn64tab"], apart := false, laid := [("math/bits.deBruijn32tab", laid_math_bits_deBruijn32tab), ("math/bits.deBruijn64tab", laid_math_bits_deBruijn64tab), ("internal/strconv.uint64pow10", laid_internal_strconv_uint64pow10)], narrowed := true }
def TreeRightsUptoSaid : Prop := treeRightsUptoRow.holds Tryd.pinned (OpenSpec.upto treeRightsSpec)

/-- 'redactorlaw09.TreeGroups', WHERE WHAT IT READS IS OF BULK AT MOST 1048576: true; the input reads as it did. -/
def treeGroupsUptoRow : OpenClaim := { program := "ytcppmghhijffpaadoor", sum := "055854552e3a8e91cdbf901f878dd564f5a98120221d2158cf1bc63718574beb", func := "redactor/redactorlaw09.TreeGroups", spec := "treeGroups", inPlace := ["internal/abi.NoEscape"], unfollowed := true, recurses := true, named := ["internal/strconv.uint64pow10", "math/bits.deBruijn32tab", "math/bits.deBruijn64tab"], apart := false, laid := [("math/bits.deBruijn32tab", laid_math_bits_deBruijn32tab), ("math/bits.deBruijn64tab", laid_math_bits_deBruijn64tab), ("internal/strconv.uint64pow10", laid_internal_strconv_uint64pow10)], narrowed := true }
def TreeGroupsUptoSaid : Prop := treeGroupsUptoRow.holds Tryd.pinned (OpenSpec.upto treeGroupsSpec)

/-- 'redactorlaw09.TreeFew', WHERE WHAT IT READS IS OF BULK AT MOST 1048576: true; the input reads as it did. -/
def treeFewUptoRow : OpenClaim := { program := "ytcppmghhijffpaadoor", sum := "055854552e3a8e91cdbf901f878dd564f5a98120221d2158cf1bc63718574beb", func := "redactor/redactorlaw09.TreeFew", spec := "treeFew", inPlace := ["internal/abi.NoEscape"], unfollowed := true, recurses := true, named := ["internal/strconv.uint64pow10", "math/bits.deBruijn32tab", "math/bits.deBruijn64tab"], apart := false, laid := [("math/bits.deBruijn32tab", laid_math_bits_deBruijn32tab), ("math/bits.deBruijn64tab", laid_math_bits_deBruijn64tab), ("internal/strconv.uint64pow10", laid_internal_strconv_uint64pow10)], narrowed := true }
def TreeFewUptoSaid : Prop := treeFewUptoRow.holds Tryd.pinned (OpenSpec.upto treeFewSpec)

/-- 'redactorlaw09.TreeBuilds', WHERE WHAT IT READS IS OF BULK AT MOST 1048576: true; the input reads as it did. -/
def treeBuildsUptoRow : OpenClaim := { program := "ytcppmghhijffpaadoor", sum := "055854552e3a8e91cdbf901f878dd564f5a98120221d2158cf1bc63718574beb", func := "redactor/redactorlaw09.TreeBuilds", spec := "treeBuilds", inPlace := ["internal/abi.NoEscape"], unfollowed := true, recurses := true, named := ["internal/strconv.uint64pow10", "math/bits.deBruijn32tab", "math/bits.deBruijn64tab"], apart := false, laid := [("math/bits.deBruijn32tab", laid_math_bits_deBruijn32tab), ("math/bits.deBruijn64tab", laid_math_bits_deBruijn64tab), ("internal/strconv.uint64pow10", laid_internal_strconv_uint64pow10)], narrowed := true }
def TreeBuildsUptoSaid : Prop := treeBuildsUptoRow.holds Tryd.pinned (OpenSpec.upto treeBuildsSpec)

end Rows
end Go.Proofs.YtcppmghhijffpaaDoor
