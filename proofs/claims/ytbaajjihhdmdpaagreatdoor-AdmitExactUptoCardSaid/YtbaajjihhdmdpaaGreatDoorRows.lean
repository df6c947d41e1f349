/-
  NARROWER THAN 'FOR EVERY INPUT', by the rows' own cells (each row's printed sentence says how): AdmitRoom: laid · AdmitAdds: laid · AdmitServes: laid · AdmitTrims: laid · AdmitAll: laid · AdmitExact: laid · AdmitFills: laid · LoadReasons: laid · LoadVerifies: laid · LoadServed: laid · LoadMore: laid · LoadCounts: laid · LoadSums: laid · LoadLeast: laid.
  DERIVED. THE GIVEN ROWS OF THIS SEAT. 14 by the template 'for every input the law returns true; each argument reads behind the call as it read before'; 0 by the template 'total and deterministic' (their statements: YtbaajjihhdmdpaaGreatDoorTotals.lean).
  GIVEN WITH THE SEED: the statements are not yours to turn. If you find one false, say at which input.
  Laid BY PROGRAM, IN A SANDBOX (cutbox-rows.mjs): the forced cells as the released guide's own fill.sh prints them over the translation f0d431a882025d0f… (all of the seat's roots in one cut). By AI agents, Wed Nov 11 2026. No macro, syntax, notation, axiom, sorry.
-/
import Derived.Test.YtbaajjihhdmdpaaGreatDoorChecked
import GoSem.Claim
import GoSem.ClaimJoined
import GoSem.ClaimMapViews
import Derived.JoinedTies
import Derived.KernelRfl
namespace Go.Proofs.YtbaajjihhdmdpaaGreatDoor
/- THE CELL 'sum', in the pinned program and in every row, IS THE sha256 OF THE DUMP (.gsa) THAT YtbaajjihhdmdpaaGreatDoorProg.lean LOADS. Nothing in Lean hashes anything: it is a label: what it is worth is what the hold of that sum in a sandbox is worth. -/
noncomputable def Tryz.pinned : Pinned := { name := "ytbaajjihhdmdpaagreatdoor", sum := "f0d431a882025d0f71762122c9dd40b0643e4597b60d50811881a818aa145c8b", checked := Tryz.checked }
namespace Rows
def none {H : Type} : Left H := { results := [], args := [] }

/- WHAT THE LISTED PACKAGE-LEVEL VARIABLES READ AS WHEN THE CALL BEGINS. Each datum BY PROGRAM (the guide's laid-datum.mjs) off the statement by which the dump's own 'gosem.cut.vars' lays the variable. In a bare row this is a premise. The card (YtbaajjihhdmdpaaGreatDoorCards.lean) ties it to the program's text. -/
def laid_math_bits_deBruijn32tab {H : Type} : DataW H := .agg [.lit (.int .u8 0), .lit (.int .u8 1), .lit (.int .u8 28), .lit (.int .u8 2), .lit (.int .u8 29), .lit (.int .u8 14), .lit (.int .u8 24), .lit (.int .u8 3), .lit (.int .u8 30), .lit (.int .u8 22), .lit (.int .u8 20), .lit (.int .u8 15), .lit (.int .u8 25), .lit (.int .u8 17), .lit (.int .u8 4), .lit (.int .u8 8), .lit (.int .u8 31), .lit (.int .u8 27), .lit (.int .u8 13), .lit (.int .u8 23), .lit (.int .u8 21), .lit (.int .u8 19), .lit (.int .u8 16), .lit (.int .u8 7), .lit (.int .u8 26), .lit (.int .u8 12), .lit (.int .u8 18), .lit (.int .u8 6), .lit (.int .u8 11), .lit (.int .u8 5), .lit (.int .u8 10), .lit (.int .u8 9)]
def laid_math_bits_deBruijn64tab {H : Type} : DataW H := .agg [.lit (.int .u8 0), .lit (.int .u8 1), .lit (.int .u8 56), .lit (.int .u8 2), .lit (.int .u8 57), .lit (.int .u8 49), .lit (.int .u8 28), .lit (.int .u8 3), .lit (.int .u8 61), .lit (.int .u8 58), .lit (.int .u8 42), .lit (.int .u8 50), .lit (.int .u8 38), .lit (.int .u8 29), .lit (.int .u8 17), .lit (.int .u8 4), .lit (.int .u8 62), .lit (.int .u8 47), .lit (.int .u8 59), .lit (.int .u8 36), .lit (.int .u8 45), .lit (.int .u8 43), .lit (.int .u8 51), .lit (.int .u8 22), .lit (.int .u8 53), .lit (.int .u8 39), .lit (.int .u8 33), .lit (.int .u8 30), .lit (.int .u8 24), .lit (.int .u8 18), .lit (.int .u8 12), .lit (.int .u8 5), .lit (.int .u8 63), .lit (.int .u8 55), .lit (.int .u8 48), .lit (.int .u8 27), .lit (.int .u8 60), .lit (.int .u8 41), .lit (.int .u8 37), .lit (.int .u8 16), .lit (.int .u8 46), .lit (.int .u8 35), .lit (.int .u8 44), .lit (.int .u8 21), .lit (.int .u8 52), .lit (.int .u8 32), .lit (.int .u8 23), .lit (.int .u8 11), .lit (.int .u8 54), .lit (.int .u8 26), .lit (.int .u8 40), .lit (.int .u8 15), .lit (.int .u8 34), .lit (.int .u8 20), .lit (.int .u8 31), .lit (.int .u8 10), .lit (.int .u8 25), .lit (.int .u8 14), .lit (.int .u8 19), .lit (.int .u8 9), .lit (.int .u8 13), .lit (.int .u8 8), .lit (.int .u8 7), .lit (.int .u8 6)]
def laid_internal_strconv_uint64pow10 {H : Type} : DataW H := .agg [.lit (.int .u64 1), .lit (.int .u64 10), .lit (.int .u64 100), .lit (.int .u64 1000), .lit (.int .u64 10000), .lit (.int .u64 100000), .lit (.int .u64 1000000), .lit (.int .u64 10000000), .lit (.int .u64 100000000), .lit (.int .u64 1000000000), .lit (.int .u64 10000000000), .lit (.int .u64 100000000000), .lit (.int .u64 1000000000000), .lit (.int .u64 10000000000000), .lit (.int .u64 100000000000000), .lit (.int .u64 1000000000000000), .lit (.int .u64 10000000000000000), .lit (.int .u64 100000000000000000), .lit (.int .u64 1000000000000000000), .lit (.int .u64 10000000000000000000)]

/-- 'hopmeshlaw41.AdmitRoom': WHATEVER THE INPUT: true; the input reads as it did. -/
def admitRoomSpec : ChangeSpec := { name := "admitRoom", fn := fun _ => fun
  | [d1, d2, d3, d4] => { results := [.lit (.bool true)], args := [d1, d2, d3, d4] }
  | _ => none }
def admitRoomRow : OpenClaim := { program := "ytbaajjihhdmdpaagreatdoor", sum := "f0d431a882025d0f71762122c9dd40b0643e4597b60d50811881a818aa145c8b", func := "hopmesh/hopmeshlaw41.AdmitRoom", spec := "admitRoom", inPlace := ["internal/abi.NoEscape", "slices.overlaps[hopmesh/api.Request]", "slices.overlaps[hopmesh/api.Cell]"], unfollowed := true, recurses := true, named := ["internal/strconv.uint64pow10", "math/bits.deBruijn32tab", "math/bits.deBruijn64tab"], plainKeys := false, apart := false, laid := [("math/bits.deBruijn32tab", laid_math_bits_deBruijn32tab), ("math/bits.deBruijn64tab", laid_math_bits_deBruijn64tab), ("internal/strconv.uint64pow10", laid_internal_strconv_uint64pow10)] }
def AdmitRoomSaid : Prop := admitRoomRow.holds Tryz.pinned (OpenSpec.ofChange admitRoomSpec)

/-- ITS FALSE NEIGHBOUR: 'it returns false'. Refute it at one input. -/
def admitRoomWrong : ChangeSpec := { name := "admitRoom", fn := fun _ => fun
  | [d1, d2, d3, d4] => { results := [.lit (.bool false)], args := [d1, d2, d3, d4] }
  | _ => none }
def AdmitRoomWrongFalsely : Prop := admitRoomRow.holds Tryz.pinned (OpenSpec.ofChange admitRoomWrong)

/-- 'hopmeshlaw41.AdmitAdds': WHATEVER THE INPUT: true; the input reads as it did. -/
def admitAddsSpec : ChangeSpec := { name := "admitAdds", fn := fun _ => fun
  | [d1, d2, d3, d4] => { results := [.lit (.bool true)], args := [d1, d2, d3, d4] }
  | _ => none }
def admitAddsRow : OpenClaim := { program := "ytbaajjihhdmdpaagreatdoor", sum := "f0d431a882025d0f71762122c9dd40b0643e4597b60d50811881a818aa145c8b", func := "hopmesh/hopmeshlaw41.AdmitAdds", spec := "admitAdds", inPlace := ["internal/abi.NoEscape", "slices.overlaps[hopmesh/api.Request]", "slices.overlaps[hopmesh/api.Cell]"], unfollowed := true, recurses := true, named := ["internal/strconv.uint64pow10", "math/bits.deBruijn32tab", "math/bits.deBruijn64tab"], plainKeys := false, apart := false, laid := [("math/bits.deBruijn32tab", laid_math_bits_deBruijn32tab), ("math/bits.deBruijn64tab", laid_math_bits_deBruijn64tab), ("internal/strconv.uint64pow10", laid_internal_strconv_uint64pow10)] }
def AdmitAddsSaid : Prop := admitAddsRow.holds Tryz.pinned (OpenSpec.ofChange admitAddsSpec)

/-- ITS FALSE NEIGHBOUR: 'it returns false'. Refute it at one input. -/
def admitAddsWrong : ChangeSpec := { name := "admitAdds", fn := fun _ => fun
  | [d1, d2, d3, d4] => { results := [.lit (.bool false)], args := [d1, d2, d3, d4] }
  | _ => none }
def AdmitAddsWrongFalsely : Prop := admitAddsRow.holds Tryz.pinned (OpenSpec.ofChange admitAddsWrong)

/-- 'hopmeshlaw41.AdmitServes': WHATEVER THE INPUT: true; the input reads as it did. -/
def admitServesSpec : ChangeSpec := { name := "admitServes", fn := fun _ => fun
  | [d1, d2, d3, d4] => { results := [.lit (.bool true)], args := [d1, d2, d3, d4] }
  | _ => none }
def admitServesRow : OpenClaim := { program := "ytbaajjihhdmdpaagreatdoor", sum := "f0d431a882025d0f71762122c9dd40b0643e4597b60d50811881a818aa145c8b", func := "hopmesh/hopmeshlaw41.AdmitServes", spec := "admitServes", inPlace := ["internal/abi.NoEscape", "slices.overlaps[hopmesh/api.Request]", "slices.overlaps[hopmesh/api.Cell]"], unfollowed := true, recurses := true, named := ["internal/strconv.uint64pow10", "math/bits.deBruijn32tab", "math/bits.deBruijn64tab"], plainKeys := false, apart := false, laid := [("math/bits.deBruijn32tab", laid_math_bits_deBruijn32tab), ("math/bits.deBruijn64tab", laid_math_bits_deBruijn64tab), ("internal/strconv.uint64pow10", laid_internal_strconv_uint64pow10)] }
def AdmitServesSaid : Prop := admitServesRow.holds Tryz.pinned (OpenSpec.ofChange admitServesSpec)

/-- ITS FALSE NEIGHBOUR: 'it returns false'. Refute it at one input. -/
def admitServesWrong : ChangeSpec := { name := "admitServes", fn := fun _ => fun
  | [d1, d2, d3, d4] => { results := [.lit (.bool false)], args := [d1, d2, d3, d4] }
  | _ => none }
def AdmitServesWrongFalsely : Prop := admitServesRow.holds Tryz.pinned (OpenSpec.ofChange admitServesWrong)

/-- 'hopmeshlaw41.AdmitTrims': WHATEVER THE INPUT: true; the input reads as it did. -/
def admitTrimsSpec : ChangeSpec := { name := "admitTrims", fn := fun _ => fun
  | [d1, d2, d3] => { results := [.lit (.bool true)], args := [d1, d2, d3] }
  | _ => none }
def admitTrimsRow : OpenClaim := { program := "ytbaajjihhdmdpaagreatdoor", sum := "f0d431a882025d0f71762122c9dd40b0643e4597b60d50811881a818aa145c8b", func := "hopmesh/hopmeshlaw41.AdmitTrims", spec := "admitTrims", inPlace := ["internal/abi.NoEscape", "slices.overlaps[hopmesh/api.Request]", "slices.overlaps[hopmesh/api.Cell]"], unfollowed := true, recurses := true, named := ["internal/strconv.uint64pow10", "math/bits.deBruijn32tab", "math/bits.deBruijn64tab"], plainKeys := false, apart := false, laid := [("math/bits.deBruijn32tab", laid_math_bits_deBruijn32tab), ("math/bits.deBruijn64tab", laid_math_bits_deBruijn64tab), ("internal/strconv.uint64pow10", laid_internal_strconv_uint64pow10)] }
def AdmitTrimsSaid : Prop := admitTrimsRow.holds Tryz.pinned (OpenSpec.ofChange admitTrimsSpec)

/-- ITS FALSE NEIGHBOUR: 'it returns false'. Refute it at one input. -/
def admitTrimsWrong : ChangeSpec := { name := "admitTrims", fn := fun _ => fun
  | [d1, d2, d3] => { results := [.lit (.bool false)], args := [d1, d2, d3] }
  | _ => none }
def AdmitTrimsWrongFalsely : Prop := admitTrimsRow.holds Tryz.pinned (OpenSpec.ofChange admitTrimsWrong)

/-- 'hopmeshlaw41.AdmitAll': WHATEVER THE INPUT: true; the input reads as it did. -/
def admitAllSpec : ChangeSpec := { name := "admitAll", fn := fun _ => fun
  | [d1, d2, d3, d4, d5] => { results := [.lit (.bool true)], args := [d1, d2, d3, d4, d5] }
  | _ => none }
def admitAllRow : OpenClaim := { program := "ytbaajjihhdmdpaagreatdoor", sum := "f0d431a882025d0f71762122c9dd40b0643e4597b60d50811881a818aa145c8b", func := "hopmesh/hopmeshlaw41.AdmitAll", spec := "admitAll", inPlace := ["internal/abi.NoEscape", "slices.overlaps[hopmesh/api.Request]", "slices.overlaps[hopmesh/api.Cell]"], unfollowed := true, recurses := true, named := ["internal/strconv.uint64pow10", "math/bits.deBruijn32tab", "math/bits.deBruijn64tab"], plainKeys := false, apart := false, laid := [("math/bits.deBruijn32tab", laid_math_bits_deBruijn32tab), ("math/bits.deBruijn64tab", laid_math_bits_deBruijn64tab), ("internal/strconv.uint64pow10", laid_internal_strconv_uint64pow10)] }
def AdmitAllSaid : Prop := admitAllRow.holds Tryz.pinned (OpenSpec.ofChange admitAllSpec)

/-- ITS FALSE NEIGHBOUR: 'it returns false'. Refute it at one input. -/
def admitAllWrong : ChangeSpec := { name := "admitAll", fn := fun _ => fun
  | [d1, d2, d3, d4, d5] => { results := [.lit (.bool false)], args := [d1, d2, d3, d4, d5] }
  | _ => none }
def AdmitAllWrongFalsely : Prop := admitAllRow.holds Tryz.pinned (OpenSpec.ofChange admitAllWrong)

/-- 'hopmeshlaw41.AdmitExact': WHATEVER THE INPUT: true; the input reads as it did. -/
def admitExactSpec : ChangeSpec := { name := "admitExact", fn := fun _ => fun
  | [d1, d2, d3, d4, d5] => { results := [.lit (.bool true)], args := [d1, d2, d3, d4, d5] }
  | _ => none }
def admitExactRow : OpenClaim := { program := "ytbaajjihhdmdpaagreatdoor", sum := "f0d431a882025d0f71762122c9dd40b0643e4597b60d50811881a818aa145c8b", func := "hopmesh/hopmeshlaw41.AdmitExact", spec := "admitExact", inPlace := ["internal/abi.NoEscape", "slices.overlaps[hopmesh/api.Request]", "slices.overlaps[hopmesh/api.Cell]"], unfollowed := true, recurses := true, named := ["internal/strconv.uint64pow10", "math/bits.deBruijn32tab", "math/bits.deBruijn64tab"], plainKeys := false, apart := false, laid := [("math/bits.deBruijn32tab", laid_math_bits_deBruijn32tab), ("math/bits.deBruijn64tab", laid_math_bits_deBruijn64tab), ("internal/strconv.uint64pow10", laid_internal_strconv_uint64pow10)] }
def AdmitExactSaid : Prop := admitExactRow.holds Tryz.pinned (OpenSpec.ofChange admitExactSpec)

/-- ITS FALSE NEIGHBOUR: 'it returns false'. Refute it at one input. -/
def admitExactWrong : ChangeSpec := { name := "admitExact", fn := fun _ => fun
  | [d1, d2, d3, d4, d5] => { results := [.lit (.bool false)], args := [d1, d2, d3, d4, d5] }
  | _ => none }
def AdmitExactWrongFalsely : Prop := admitExactRow.holds Tryz.pinned (OpenSpec.ofChange admitExactWrong)

/-- 'hopmeshlaw41.AdmitFills': WHATEVER THE INPUT: true; the input reads as it did. -/
def admitFillsSpec : ChangeSpec := { name := "admitFills", fn := fun _ => fun
  | [d1, d2, d3, d4, d5, d6] => { results := [.lit (.bool true)], args := [d1, d2, d3, d4, d5, d6] }
  | _ => none }
def admitFillsRow : OpenClaim := { program := "ytbaajjihhdmdpaagreatdoor", sum := "f0d431a882025d0f71762122c9dd40b0643e4597b60d50811881a818aa145c8b", func := "hopmesh/hopmeshlaw41.AdmitFills", spec := "admitFills", inPlace := ["internal/abi.NoEscape", "slices.overlaps[hopmesh/api.Request]", "slices.overlaps[hopmesh/api.Cell]"], unfollowed := true, recurses := true, named := ["internal/strconv.uint64pow10", "math/bits.deBruijn32tab", "math/bits.deBruijn64tab"], plainKeys := false, apart := false, laid := [("math/bits.deBruijn32tab", laid_math_bits_deBruijn32tab), ("math/bits.deBruijn64tab", laid_math_bits_deBruijn64tab), ("internal/strconv.uint64pow10", laid_internal_strconv_uint64pow10)] }
def AdmitFillsSaid : Prop := admitFillsRow.holds Tryz.pinned (OpenSpec.ofChange admitFillsSpec)

/-- ITS FALSE NEIGHBOUR: 'it returns false'. Refute it at one input. -/
def admitFillsWrong : ChangeSpec := { name := "admitFills", fn := fun _ => fun
  | [d1, d2, d3, d4, d5, d6] => { results := [.lit (.bool false)], args := [d1, d2, d3, d4, d5, d6] }
  | _ => none }
def AdmitFillsWrongFalsely : Prop := admitFillsRow.holds Tryz.pinned (OpenSpec.ofChange admitFillsWrong)

/-- 'hopmeshlaw39.LoadReasons': WHATEVER THE INPUT: true; the input reads as it did. -/
def loadReasonsSpec : ChangeSpec := { name := "loadReasons", fn := fun _ => fun
  | [d1, d2, d3, d4] => { results := [.lit (.bool true)], args := [d1, d2, d3, d4] }
  | _ => none }
def loadReasonsRow : OpenClaim := { program := "ytbaajjihhdmdpaagreatdoor", sum := "f0d431a882025d0f71762122c9dd40b0643e4597b60d50811881a818aa145c8b", func := "hopmesh/hopmeshlaw39.LoadReasons", spec := "loadReasons", inPlace := ["internal/abi.NoEscape"], unfollowed := true, recurses := true, named := ["internal/strconv.uint64pow10", "math/bits.deBruijn32tab", "math/bits.deBruijn64tab"], plainKeys := false, apart := false, laid := [("math/bits.deBruijn32tab", laid_math_bits_deBruijn32tab), ("math/bits.deBruijn64tab", laid_math_bits_deBruijn64tab), ("internal/strconv.uint64pow10", laid_internal_strconv_uint64pow10)] }
def LoadReasonsSaid : Prop := loadReasonsRow.holds Tryz.pinned (OpenSpec.ofChange loadReasonsSpec)

/-- ITS FALSE NEIGHBOUR: 'it returns false'. Refute it at one input. -/
def loadReasonsWrong : ChangeSpec := { name := "loadReasons", fn := fun _ => fun
  | [d1, d2, d3, d4] => { results := [.lit (.bool false)], args := [d1, d2, d3, d4] }
  | _ => none }
def LoadReasonsWrongFalsely : Prop := loadReasonsRow.holds Tryz.pinned (OpenSpec.ofChange loadReasonsWrong)

/-- 'hopmeshlaw39.LoadVerifies': WHATEVER THE INPUT: true; the input reads as it did. -/
def loadVerifiesSpec : ChangeSpec := { name := "loadVerifies", fn := fun _ => fun
  | [d1, d2, d3, d4, d5] => { results := [.lit (.bool true)], args := [d1, d2, d3, d4, d5] }
  | _ => none }
def loadVerifiesRow : OpenClaim := { program := "ytbaajjihhdmdpaagreatdoor", sum := "f0d431a882025d0f71762122c9dd40b0643e4597b60d50811881a818aa145c8b", func := "hopmesh/hopmeshlaw39.LoadVerifies", spec := "loadVerifies", inPlace := ["internal/abi.NoEscape"], unfollowed := true, recurses := true, named := ["internal/strconv.uint64pow10", "math/bits.deBruijn32tab", "math/bits.deBruijn64tab"], plainKeys := false, apart := false, laid := [("math/bits.deBruijn32tab", laid_math_bits_deBruijn32tab), ("math/bits.deBruijn64tab", laid_math_bits_deBruijn64tab), ("internal/strconv.uint64pow10", laid_internal_strconv_uint64pow10)] }
def LoadVerifiesSaid : Prop := loadVerifiesRow.holds Tryz.pinned (OpenSpec.ofChange loadVerifiesSpec)

/-- ITS FALSE NEIGHBOUR: 'it returns false'. Refute it at one input. -/
def loadVerifiesWrong : ChangeSpec := { name := "loadVerifies", fn := fun _ => fun
  | [d1, d2, d3, d4, d5] => { results := [.lit (.bool false)], args := [d1, d2, d3, d4, d5] }
  | _ => none }
def LoadVerifiesWrongFalsely : Prop := loadVerifiesRow.holds Tryz.pinned (OpenSpec.ofChange loadVerifiesWrong)

/-- 'hopmeshlaw39.LoadServed': WHATEVER THE INPUT: true; the input reads as it did. -/
def loadServedSpec : ChangeSpec := { name := "loadServed", fn := fun _ => fun
  | [d1, d2, d3] => { results := [.lit (.bool true)], args := [d1, d2, d3] }
  | _ => none }
def loadServedRow : OpenClaim := { program := "ytbaajjihhdmdpaagreatdoor", sum := "f0d431a882025d0f71762122c9dd40b0643e4597b60d50811881a818aa145c8b", func := "hopmesh/hopmeshlaw39.LoadServed", spec := "loadServed", inPlace := ["internal/abi.NoEscape"], unfollowed := true, recurses := true, named := ["internal/strconv.uint64pow10", "math/bits.deBruijn32tab", "math/bits.deBruijn64tab"], plainKeys := false, apart := false, laid := [("math/bits.deBruijn32tab", laid_math_bits_deBruijn32tab), ("math/bits.deBruijn64tab", laid_math_bits_deBruijn64tab), ("internal/strconv.uint64pow10", laid_internal_strconv_uint64pow10)] }
def LoadServedSaid : Prop := loadServedRow.holds Tryz.pinned (OpenSpec.ofChange loadServedSpec)

/-- ITS FALSE NEIGHBOUR: 'it returns false'. Refute it at one input. -/
def loadServedWrong : ChangeSpec := { name := "loadServed", fn := fun _ => fun
  | [d1, d2, d3] => { results := [.lit (.bool false)], args := [d1, d2, d3] }
  | _ => none }
def LoadServedWrongFalsely : Prop := loadServedRow.holds Tryz.pinned (OpenSpec.ofChange loadServedWrong)

/-- 'hopmeshlaw39.LoadMore': WHATEVER THE INPUT: true; the input reads as it did. -/
def loadMoreSpec : ChangeSpec := { name := "loadMore", fn := fun _ => fun
  | [d1, d2, d3, d4] => { results := [.lit (.bool true)], args := [d1, d2, d3, d4] }
  | _ => none }
def loadMoreRow : OpenClaim := { program := "ytbaajjihhdmdpaagreatdoor", sum := "f0d431a882025d0f71762122c9dd40b0643e4597b60d50811881a818aa145c8b", func := "hopmesh/hopmeshlaw39.LoadMore", spec := "loadMore", inPlace := ["internal/abi.NoEscape"], unfollowed := true, recurses := true, named := ["internal/strconv.uint64pow10", "math/bits.deBruijn32tab", "math/bits.deBruijn64tab"], plainKeys := false, apart := false, laid := [("math/bits.deBruijn32tab", laid_math_bits_deBruijn32tab), ("math/bits.deBruijn64tab", laid_math_bits_deBruijn64tab), ("internal/strconv.uint64pow10", laid_internal_strconv_uint64pow10)] }
def LoadMoreSaid : Prop := loadMoreRow.holds Tryz.pinned (OpenSpec.ofChange loadMoreSpec)

/-- ITS FALSE NEIGHBOUR: 'it returns false'. Refute it at one input. -/
def loadMoreWrong : ChangeSpec := { name := "loadMore", fn := fun _ => fun
  | [d1, d2, d3, d4] => { results := [.lit (.bool false)], args := [d1, d2, d3, d4] }
  | _ => none }
def LoadMoreWrongFalsely : Prop := loadMoreRow.holds Tryz.pinned (OpenSpec.ofChange loadMoreWrong)

/-- 'hopmeshlaw39.LoadCounts': WHATEVER THE INPUT: true; the input reads as it did. -/
def loadCountsSpec : ChangeSpec := { name := "loadCounts", fn := fun _ => fun
  | [d1, d2, d3, d4, d5] => { results := [.lit (.bool true)], args := [d1, d2, d3, d4, d5] }
  | _ => none }
def loadCountsRow : OpenClaim := { program := "ytbaajjihhdmdpaagreatdoor", sum := "f0d431a882025d0f71762122c9dd40b0643e4597b60d50811881a818aa145c8b", func := "hopmesh/hopmeshlaw39.LoadCounts", spec := "loadCounts", inPlace := ["internal/abi.NoEscape"], unfollowed := true, recurses := true, named := ["internal/strconv.uint64pow10", "math/bits.deBruijn32tab", "math/bits.deBruijn64tab"], plainKeys := false, apart := false, laid := [("math/bits.deBruijn32tab", laid_math_bits_deBruijn32tab), ("math/bits.deBruijn64tab", laid_math_bits_deBruijn64tab), ("internal/strconv.uint64pow10", laid_internal_strconv_uint64pow10)] }
def LoadCountsSaid : Prop := loadCountsRow.holds Tryz.pinned (OpenSpec.ofChange loadCountsSpec)

/-- ITS FALSE NEIGHBOUR: 'it returns false'. Refute it at one input. -/
def loadCountsWrong : ChangeSpec := { name := "loadCounts", fn := fun _ => fun
  | [d1, d2, d3, d4, d5] => { results := [.lit (.bool false)], args := [d1, d2, d3, d4, d5] }
  | _ => none }
def LoadCountsWrongFalsely : Prop := loadCountsRow.holds Tryz.pinned (OpenSpec.ofChange loadCountsWrong)

/-- 'hopmeshlaw39.LoadSums': WHATEVER THE INPUT: true; the input reads as it did. -/
def loadSumsSpec : ChangeSpec := { name := "loadSums", fn := fun _ => fun
  | [d1, d2, d3] => { results := [.lit (.bool true)], args := [d1, d2, d3] }
  | _ => none }
def loadSumsRow : OpenClaim := { program := "ytbaajjihhdmdpaagreatdoor", sum := "f0d431a882025d0f71762122c9dd40b0643e4597b60d50811881a818aa145c8b", func := "hopmesh/hopmeshlaw39.LoadSums", spec := "loadSums", inPlace := ["internal/abi.NoEscape"], unfollowed := true, recurses := true, named := ["internal/strconv.uint64pow10", "math/bits.deBruijn32tab", "math/bits.deBruijn64tab"], plainKeys := false, apart := false, laid := [("math/bits.deBruijn32tab", laid_math_bits_deBruijn32tab), ("math/bits.deBruijn64tab", laid_math_bits_deBruijn64tab), ("internal/strconv.uint64pow10", laid_internal_strconv_uint64pow10)] }
def LoadSumsSaid : Prop := loadSumsRow.holds Tryz.pinned (OpenSpec.ofChange loadSumsSpec)

/-- ITS FALSE NEIGHBOUR: 'it returns false'. Refute it at one input. -/
def loadSumsWrong : ChangeSpec := { name := "loadSums", fn := fun _ => fun
  | [d1, d2, d3] => { results := [.lit (.bool false)], args := [d1, d2, d3] }
  | _ => none }
def LoadSumsWrongFalsely : Prop := loadSumsRow.holds Tryz.pinned (OpenSpec.ofChange loadSumsWrong)

/-- 'hopmeshlaw39.LoadLeast': WHATEVER THE INPUT: true; the input reads as it did. -/
def loadLeastSpec : ChangeSpec := { name := "loadLeast", fn := fun _ => fun
  | [d1, d2, d3] => { results := [.lit (.bool true)], args := [d1, d2, d3] }
  | _ => none }
def loadLeastRow : OpenClaim := { program := "ytbaajjihhdmdpaagreatdoor", sum := "f0d431a882025d0f71762122c9dd40b0643e4597b60d50811881a818aa145c8b", func := "hopmesh/hopmeshlaw39.LoadLeast", spec := "loadLeast", inPlace := ["internal/abi.NoEscape"], unfollowed := true, recurses := true, named := ["internal/strconv.uint64pow10", "math/bits.deBruijn32tab", "math/bits.deBruijn64tab"], plainKeys := false, apart := false, laid := [("math/bits.deBruijn32tab", laid_math_bits_deBruijn32tab), ("math/bits.deBruijn64tab", laid_math_bits_deBruijn64tab), ("internal/strconv.uint64pow10", laid_internal_strconv_uint64pow10)] }
def LoadLeastSaid : Prop := loadLeastRow.holds Tryz.pinned (OpenSpec.ofChange loadLeastSpec)

/-- ITS FALSE NEIGHBOUR: 'it returns false'. Refute it at one input. -/
def loadLeastWrong : ChangeSpec := { name := "loadLeast", fn := fun _ => fun
  | [d1, d2, d3] => { results := [.lit (.bool false)], args := [d1, d2, d3] }
  | _ => none }
def LoadLeastWrongFalsely : Prop := loadLeastRow.holds Tryz.pinned (OpenSpec.ofChange loadLeastWrong)

/- THE SECOND FORM. 'bulk': how many values and letters a reading holds, each counted each time it is reached (what is shared counts as often as it is met; a slice's spare places count too). A statement '..UptoSaid' is the law's where the arguments, and the package variables that the reading takes, are together of bulk at most 1048576: NARROWER than '..Said'. Prove '..Said' where nothing that the law and all that it calls make is longer than what came in: it says more and counts as full. Else prove '..UptoSaid'. A law counts once. -/
mutual
def uptoBulk {H : Type} : DataW H → Nat
  | .lit (.string bytes) => bytes.length + 1
  | .lit _ => 1
  | .nil => 1
  | .ptr d => uptoBulk d + 1
  | .slice elems spare => uptoBulkAll elems + uptoBulkAll spare + 1
  | .agg parts => uptoBulkAll parts + 1
  | .iface _ d => uptoBulk d + 1
  | .map entries => uptoBulkEntries entries + 1
  | .held _ => 1
def uptoBulkAll {H : Type} : List (DataW H) → Nat
  | [] => 0
  | d :: r => uptoBulk d + uptoBulkAll r
def uptoBulkEntries {H : Type} : List (Lit × DataW H) → Nat
  | [] => 0
  | x :: r => uptoBulkEntry x + uptoBulkEntries r
def uptoBulkEntry {H : Type} : Lit × DataW H → Nat
  | (.string bytes, d) => bytes.length + uptoBulk d + 1
  | (_, d) => uptoBulk d + 1
 end
def uptoSmall : (H : Type) → List (DataW H) → Bool := fun _ ds => decide (uptoBulkAll ds ≤ 1048576)
def OpenSpec.upto (s : _root_.Go.ChangeSpec) : _root_.Go.OpenSpec := { _root_.Go.OpenSpec.ofChange s with cond := some uptoSmall }

/-- 'hopmeshlaw41.AdmitRoom', WHERE WHAT IT READS IS OF BULK AT MOST 1048576: true; the input reads as it did. -/
def admitRoomUptoRow : OpenClaim := { program := "ytbaajjihhdmdpaagreatdoor", sum := "f0d431a882025d0f71762122c9dd40b0643e4597b60d50811881a818aa145c8b", func := "hopmesh/hopmeshlaw41.AdmitRoom", spec := "admitRoom", inPlace := ["internal/abi.NoEscape", "slices.overlaps[hopmesh/api.Request]", "slices.overlaps[hopmesh/api.Cell]"], unfollowed := true, recurses := true, named := ["internal/strconv.uint64pow10", "math/bits.deBruijn32tab", "math/bits.deBruijn64tab"], plainKeys := false, apart := false, laid := [("math/bits.deBruijn32tab", laid_math_bits_deBruijn32tab), ("math/bits.deBruijn64tab", laid_math_bits_deBruijn64tab), ("internal/strconv.uint64pow10", laid_internal_strconv_uint64pow10)], narrowed := true }
def AdmitRoomUptoSaid : Prop := admitRoomUptoRow.holds Tryz.pinned (OpenSpec.upto admitRoomSpec)

/-- 'hopmeshlaw41.AdmitAdds', WHERE WHAT IT READS IS OF BULK AT MOST 1048576: true; the input reads as it did. -/
def admitAddsUptoRow : OpenClaim := { program := "ytbaajjihhdmdpaagreatdoor", sum := "f0d431a882025d0f71762122c9dd40b0643e4597b60d50811881a818aa145c8b", func := "hopmesh/hopmeshlaw41.AdmitAdds", spec := "admitAdds", inPlace := ["internal/abi.NoEscape", "slices.overlaps[hopmesh/api.Request]", "slices.overlaps[hopmesh/api.Cell]"], unfollowed := true, recurses := true, named := ["internal/strconv.uint64pow10", "math/bits.deBruijn32tab", "math/bits.deBruijn64tab"], plainKeys := false, apart := false, laid := [("math/bits.deBruijn32tab", laid_math_bits_deBruijn32tab), ("math/bits.deBruijn64tab", laid_math_bits_deBruijn64tab), ("internal/strconv.uint64pow10", laid_internal_strconv_uint64pow10)], narrowed := true }
def AdmitAddsUptoSaid : Prop := admitAddsUptoRow.holds Tryz.pinned (OpenSpec.upto admitAddsSpec)

/-- 'hopmeshlaw41.AdmitServes', WHERE WHAT IT READS IS OF BULK AT MOST 1048576: true; the input reads as it did. -/
def admitServesUptoRow : OpenClaim := { program := "ytbaajjihhdmdpaagreatdoor", sum := "f0d431a882025d0f71762122c9dd40b0643e4597b60d50811881a818aa145c8b", func := "hopmesh/hopmeshlaw41.AdmitServes", spec := "admitServes", inPlace := ["internal/abi.NoEscape", "slices.overlaps[hopmesh/api.Request]", "slices.overlaps[hopmesh/api.Cell]"], unfollowed := true, recurses := true, named := ["internal/strconv.uint64pow10", "math/bits.deBruijn32tab", "math/bits.deBruijn64tab"], plainKeys := false, apart := false, laid := [("math/bits.deBruijn32tab", laid_math_bits_deBruijn32tab), ("math/bits.deBruijn64tab", laid_math_bits_deBruijn64tab), ("internal/strconv.uint64pow10", laid_internal_strconv_uint64pow10)], narrowed := true }
def AdmitServesUptoSaid : Prop := admitServesUptoRow.holds Tryz.pinned (OpenSpec.upto admitServesSpec)

/-- 'hopmeshlaw41.AdmitTrims', WHERE WHAT IT READS IS OF BULK AT MOST 1048576: true; the input reads as it did. -/
def admitTrimsUptoRow : OpenClaim := { program := "ytbaajjihhdmdpaagreatdoor", sum := "f0d431a882025d0f71762122c9dd40b0643e4597b60d50811881a818aa145c8b", func := "hopmesh/hopmeshlaw41.AdmitTrims", spec := "admitTrims", inPlace := ["internal/abi.NoEscape", "slices.overlaps[hopmesh/api.Request]", "slices.overlaps[hopmesh/api.Cell]"], unfollowed := true, recurses := true, named := ["internal/strconv.uint64pow10", "math/bits.deBruijn32tab", "math/bits.deBruijn64tab"], plainKeys := false, apart := false, laid := [("math/bits.deBruijn32tab", laid_math_bits_deBruijn32tab), ("math/bits.deBruijn64tab", laid_math_bits_deBruijn64tab), ("internal/strconv.uint64pow10", laid_internal_strconv_uint64pow10)], narrowed := true }
def AdmitTrimsUptoSaid : Prop := admitTrimsUptoRow.holds Tryz.pinned (OpenSpec.upto admitTrimsSpec)

/-- 'hopmeshlaw41.AdmitAll', WHERE WHAT IT READS IS OF BULK AT MOST 1048576: true; the input reads as it did. -/
def admitAllUptoRow : OpenClaim := { program := "ytbaajjihhdmdpaagreatdoor", sum := "f0d431a882025d0f71762122c9dd40b0643e4597b60d50811881a818aa145c8b", func := "hopmesh/hopmeshlaw41.AdmitAll", spec := "admitAll", inPlace := ["internal/abi.NoEscape", "slices.overlaps[hopmesh/api.Request]", "slices.overlaps[hopmesh/api.Cell]"], unfollowed := true, recurses := true, named := ["internal/strconv.uint64pow10", "math/bits.deBruijn32tab", "math/bits.deBruijn64tab"], plainKeys := false, apart := false, laid := [("math/bits.deBruijn32tab", laid_math_bits_deBruijn32tab), ("math/bits.deBruijn64tab", laid_math_bits_deBruijn64tab), ("internal/strconv.uint64pow10", laid_internal_strconv_uint64pow10)], narrowed := true }
def AdmitAllUptoSaid : Prop := admitAllUptoRow.holds Tryz.pinned (OpenSpec.upto admitAllSpec)

/-- 'hopmeshlaw41.AdmitExact', WHERE WHAT IT READS IS OF BULK AT MOST 1048576: true; the input reads as it did. -/
def admitExactUptoRow : OpenClaim := { program := "ytbaajjihhdmdpaagreatdoor", sum := "f0d431a882025d0f71762122c9dd40b0643e4597b60d50811881a818aa145c8b", func := "hopmesh/hopmeshlaw41.AdmitExact", spec := "admitExact", inPlace := ["internal/abi.NoEscape", "slices.overlaps[hopmesh/api.Request]", "slices.overlaps[hopmesh/api.Cell]"], unfollowed := true, recurses := true, named := ["internal/strconv.uint64pow10", "math/bits.deBruijn32tab", "math/bits.deBruijn64tab"], plainKeys := false, apart := false, laid := [("math/bits.deBruijn32tab", laid_math_bits_deBruijn32tab), ("math/bits.deBruijn64tab", laid_math_bits_deBruijn64tab), ("internal/strconv.uint64pow10", laid_internal_strconv_uint64pow10)], narrowed := true }
def AdmitExactUptoSaid : Prop := admitExactUptoRow.holds Tryz.pinned (OpenSpec.upto admitExactSpec)

/-- 'hopmeshlaw41.AdmitFills', WHERE WHAT IT READS IS OF BULK AT MOST 1048576: true; the input reads as it did. -/
def admitFillsUptoRow : OpenClaim := { program := "ytbaajjihhdmdpaagreatdoor", sum := "f0d431a882025d0f71762122c9dd40b0643e4597b60d50811881a818aa145c8b", func := "hopmesh/hopmeshlaw41.AdmitFills", spec := "admitFills", inPlace := ["internal/abi.NoEscape", "slices.overlaps[hopmesh/api.Request]", "slices.overlaps[hopmesh/api.Cell]"], unfollowed := true, recurses := true, named := ["internal/strconv.uint64pow10", "math/bits.deBruijn32tab", "math/bits.deBruijn64tab"], plainKeys := false, apart := false, laid := [("math/bits.deBruijn32tab", laid_math_bits_deBruijn32tab), ("math/bits.deBruijn64tab", laid_math_bits_deBruijn64tab), ("internal/strconv.uint64pow10", laid_internal_strconv_uint64pow10)], narrowed := true }
def AdmitFillsUptoSaid : Prop := admitFillsUptoRow.holds Tryz.pinned (OpenSpec.upto admitFillsSpec)

/-- 'hopmeshlaw39.LoadReasons', WHERE WHAT IT READS IS OF BULK AT MOST 1048576: true; the input reads as it did. -/
def loadReasonsUptoRow : OpenClaim := { program := "ytbaajjihhdmdpaagreatdoor", sum := "f0d431a882025d0f71762122c9dd40b0643e4597b60d50811881a818aa145c8b", func := "hopmesh/hopmeshlaw39.LoadReasons", spec := "loadReasons", inPlace := ["internal/abi.NoEscape"], unfollowed := true, recurses := true, named := ["internal/strconv.uint64pow10", "math/bits.deBruijn32tab", "math/bits.deBruijn64tab"], plainKeys := false, apart := false, laid := [("math/bits.deBruijn32tab", laid_math_bits_deBruijn32tab), ("math/bits.deBruijn64tab", laid_math_bits_deBruijn64tab), ("internal/strconv.uint64pow10", laid_internal_strconv_uint64pow10)], narrowed := true }
def LoadReasonsUptoSaid : Prop := loadReasonsUptoRow.holds Tryz.pinned (OpenSpec.upto loadReasonsSpec)

/-- 'hopmeshlaw39.LoadVerifies', WHERE WHAT IT READS IS OF BULK AT MOST 1048576: true; the input reads as it did. -/
def loadVerifiesUptoRow : OpenClaim := { program := "ytbaajjihhdmdpaagreatdoor", sum := "f0d431a882025d0f71762122c9dd40b0643e4597b60d50811881a818aa145c8b", func := "hopmesh/hopmeshlaw39.LoadVerifies", spec := "loadVerifies", inPlace := ["internal/abi.NoEscape"], unfollowed := true, recurses := true, named := ["internal/strconv.uint64pow10", "math/bits.deBruijn32tab", "math/bits.deBruijn64tab"], plainKeys := false, apart := false, laid := [("math/bits.deBruijn32tab", laid_math_bits_deBruijn32tab), ("math/bits.deBruijn64tab", laid_math_bits_deBruijn64tab), ("internal/strconv.uint64pow10", laid_internal_strconv_uint64pow10)], narrowed := true }
def LoadVerifiesUptoSaid : Prop := loadVerifiesUptoRow.holds Tryz.pinned (OpenSpec.upto loadVerifiesSpec)

/-- 'hopmeshlaw39.LoadServed', WHERE WHAT IT READS IS OF BULK AT MOST 1048576: true; the input reads as it did. -/
def loadServedUptoRow : OpenClaim := { program := "ytbaajjihhdmdpaagreatdoor", sum := "f0d431a882025d0f71762122c9dd40b0643e4597b60d50811881a818aa145c8b", func := "hopmesh/hopmeshlaw39.LoadServed", spec := "loadServed", inPlace := ["internal/abi.NoEscape"], unfollowed := true, recurses := true, named := ["internal/strconv.uint64pow10", "math/bits.deBruijn32tab", "math/bits.deBruijn64tab"], plainKeys := false, apart := false, laid := [("math/bits.deBruijn32tab", laid_math_bits_deBruijn32tab), ("math/bits.deBruijn64tab", laid_math_bits_deBruijn64tab), ("internal/strconv.uint64pow10", laid_internal_strconv_uint64pow10)], narrowed := true }
def LoadServedUptoSaid : Prop := loadServedUptoRow.holds Tryz.pinned (OpenSpec.upto loadServedSpec)

/-- 'hopmeshlaw39.LoadMore', WHERE WHAT IT READS IS OF BULK AT MOST 1048576: true; the input reads as it did. -/
def loadMoreUptoRow : OpenClaim := { program := "ytbaajjihhdmdpaagreatdoor", sum := "f0d431a882025d0f71762122c9dd40b0643e4597b60d50811881a818aa145c8b", func := "hopmesh/hopmeshlaw39.LoadMore", spec := "loadMore", inPlace := ["internal/abi.NoEscape"], unfollowed := true, recurses := true, named := ["internal/strconv.uint64pow10", "math/bits.deBruijn32tab", "math/bits.deBruijn64tab"], plainKeys := false, apart := false, laid := [("math/bits.deBruijn32tab", laid_math_bits_deBruijn32tab), ("math/bits.deBruijn64tab", laid_math_bits_deBruijn64tab), ("internal/strconv.uint64pow10", laid_internal_strconv_uint64pow10)], narrowed := true }
def LoadMoreUptoSaid : Prop := loadMoreUptoRow.holds Tryz.pinned (OpenSpec.upto loadMoreSpec)

/-- 'hopmeshlaw39.LoadCounts', WHERE WHAT IT READS IS OF BULK AT MOST 1048576: true; the input reads as it did. -/
def loadCountsUptoRow : OpenClaim := { program := "ytbaajjihhdmdpaagreatdoor", sum := "f0d431a882025d0f71762122c9dd40b0643e4597b60d50811881a818aa145c8b", func := "hopmesh/hopmeshlaw39.LoadCounts", spec := "loadCounts", inPlace := ["internal/abi.NoEscape"], unfollowed := true, recurses := true, named := ["internal/strconv.uint64pow10", "math/bits.deBruijn32tab", "math/bits.deBruijn64tab"], plainKeys := false, apart := false, laid := [("math/bits.deBruijn32tab", laid_math_bits_deBruijn32tab), ("math/bits.deBruijn64tab", laid_math_bits_deBruijn64tab), ("internal/strconv.uint64pow10", laid_internal_strconv_uint64pow10)], narrowed := true }
def LoadCountsUptoSaid : Prop := loadCountsUptoRow.holds Tryz.pinned (OpenSpec.upto loadCountsSpec)

/-- 'hopmeshlaw39.LoadSums', WHERE WHAT IT READS IS OF BULK AT MOST 1048576: true; the input reads as it did. -/
def loadSumsUptoRow : OpenClaim := { program := "ytbaajjihhdmdpaagreatdoor", sum := "f0d431a882025d0f71762122c9dd40b0643e4597b60d50811881a818aa145c8b", func := "hopmesh/hopmeshlaw39.LoadSums", spec := "loadSums", inPlace := ["internal/abi.NoEscape"], unfollowed := true, recurses := true, named := ["internal/strconv.uint64pow10", "math/bits.deBruijn32tab", "math/bits.deBruijn64tab"], plainKeys := false, apart := false, laid := [("math/bits.deBruijn32tab", laid_math_bits_deBruijn32tab), ("math/bits.deBruijn64tab", laid_math_bits_deBruijn64tab), ("internal/strconv.uint64pow10", laid_internal_strconv_uint64pow10)], narrowed := true }
def LoadSumsUptoSaid : Prop := loadSumsUptoRow.holds Tryz.pinned (OpenSpec.upto loadSumsSpec)

/-- 'hopmeshlaw39.LoadLeast', WHERE WHAT IT READS IS OF BULK AT MOST 1048576: true; the input reads as it did. -/
def loadLeastUptoRow : OpenClaim := { program := "ytbaajjihhdmdpaagreatdoor", sum := "f0d431a882025d0f71762122c9dd40b0643e4597b60d50811881a818aa145c8b", func := "hopmesh/hopmeshlaw39.LoadLeast", spec := "loadLeast", inPlace := ["internal/abi.NoEscape"], unfollowed := true, recurses := true, named := ["internal/strconv.uint64pow10", "math/bits.deBruijn32tab", "math/bits.deBruijn64tab"], plainKeys := false, apart := false, laid := [("math/bits.deBruijn32tab", laid_math_bits_deBruijn32tab), ("math/bits.deBruijn64tab", laid_math_bits_deBruijn64tab), ("internal/strconv.uint64pow10", laid_internal_strconv_uint64pow10)], narrowed := true }
def LoadLeastUptoSaid : Prop := loadLeastUptoRow.holds Tryz.pinned (OpenSpec.upto loadLeastSpec)

end Rows
end Go.Proofs.YtbaajjihhdmdpaaGreatDoor
