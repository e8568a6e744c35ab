/-
  NARROWER THAN 'FOR EVERY INPUT', by the rows' own cells (each row's printed sentence says how): ListenLoudness: laid · ListenGates: laid · ListenPeaks: laid · ListenTails: laid · ListenChances: laid · ListenRankings: laid · ListenNoBetter: laid · ListenStates: laid · ListenTests: laid · ListenCounted: laid · ListenMoves: laid · ListenFollow: laid · TopListenExact: laid · ListenApplies: laid · ListenBlind: laid · ListenStrings: laid.
  DERIVED. THE GIVEN ROWS OF THIS SEAT. 16 by the template 'for every input the law returns true; each argument reads behind the call as it read before'; 0 by the template 'total and deterministic' (their statements: YtiflkochjfiegaaDoorTotals.lean).
  GIVEN WITH THE SEED: the statements are not yours to turn. If you find one false, say at which input.
  Laid BY PROGRAM, IN A SANDBOX (cutbox-rows.mjs): the forced cells as the released guide's own fill.sh prints them over the translation ea8fcc6ae445bab7… (all of the seat's roots in one cut). By AI agents, Wed Nov 11 2026. No macro, syntax, notation, axiom, sorry.
-/
import Derived.Test.YtiflkochjfiegaaDoorChecked
import GoSem.Claim
import GoSem.ClaimJoined
import GoSem.ClaimMapViews
import Derived.JoinedTies
import Derived.KernelRfl
namespace Go.Proofs.YtiflkochjfiegaaDoor
/- THE CELL 'sum', in the pinned program and in every row, IS THE sha256 OF THE DUMP (.gsa) THAT YtiflkochjfiegaaDoorProg.lean LOADS. Nothing in Lean hashes anything: it is a label: what it is worth is what the hold of that sum in a sandbox is worth. -/
noncomputable def Tryd.pinned : Pinned := { name := "ytiflkochjfiegaadoor", sum := "ea8fcc6ae445bab7c5b2e8c16e01cba9ec2268d5da4ab1a430be41463407ca0d", checked := Tryd.checked }
namespace Rows
def none {H : Type} : Left H := { results := [], args := [] }

/- WHAT THE LISTED PACKAGE-LEVEL VARIABLES READ AS WHEN THE CALL BEGINS. Each datum BY PROGRAM (the guide's laid-datum.mjs) off the statement by which the dump's own 'gosem.cut.vars' lays the variable. In a bare row this is a premise. The card (YtiflkochjfiegaaDoorCards.lean) ties it to the program's text. -/
def laid_lacquer_listen_kernels {H : Type} : DataW H := .agg [.agg [.lit (.float .f32 3235905536), .lit (.float .f32 1121058816), .lit (.float .f32 1108082688), .lit (.float .f32 3231711232)], .agg [.lit (.float .f32 3238002688), .lit (.float .f32 1116733440), .lit (.float .f32 1116733440), .lit (.float .f32 3238002688)], .agg [.lit (.float .f32 3231711232), .lit (.float .f32 1108082688), .lit (.float .f32 1121058816), .lit (.float .f32 3235905536)]]
def laid_math_bits_deBruijn32tab {H : Type} : DataW H := .agg [.lit (.int .u8 0), .lit (.int .u8 1), .lit (.int .u8 28), .lit (.int .u8 2), .lit (.int .u8 29), .lit (.int .u8 14), .lit (.int .u8 24), .lit (.int .u8 3), .lit (.int .u8 30), .lit (.int .u8 22), .lit (.int .u8 20), .lit (.int .u8 15), .lit (.int .u8 25), .lit (.int .u8 17), .lit (.int .u8 4), .lit (.int .u8 8), .lit (.int .u8 31), .lit (.int .u8 27), .lit (.int .u8 13), .lit (.int .u8 23), .lit (.int .u8 21), .lit (.int .u8 19), .lit (.int .u8 16), .lit (.int .u8 7), .lit (.int .u8 26), .lit (.int .u8 12), .lit (.int .u8 18), .lit (.int .u8 6), .lit (.int .u8 11), .lit (.int .u8 5), .lit (.int .u8 10), .lit (.int .u8 9)]
def laid_math_bits_deBruijn64tab {H : Type} : DataW H := .agg [.lit (.int .u8 0), .lit (.int .u8 1), .lit (.int .u8 56), .lit (.int .u8 2), .lit (.int .u8 57), .lit (.int .u8 49), .lit (.int .u8 28), .lit (.int .u8 3), .lit (.int .u8 61), .lit (.int .u8 58), .lit (.int .u8 42), .lit (.int .u8 50), .lit (.int .u8 38), .lit (.int .u8 29), .lit (.int .u8 17), .lit (.int .u8 4), .lit (.int .u8 62), .lit (.int .u8 47), .lit (.int .u8 59), .lit (.int .u8 36), .lit (.int .u8 45), .lit (.int .u8 43), .lit (.int .u8 51), .lit (.int .u8 22), .lit (.int .u8 53), .lit (.int .u8 39), .lit (.int .u8 33), .lit (.int .u8 30), .lit (.int .u8 24), .lit (.int .u8 18), .lit (.int .u8 12), .lit (.int .u8 5), .lit (.int .u8 63), .lit (.int .u8 55), .lit (.int .u8 48), .lit (.int .u8 27), .lit (.int .u8 60), .lit (.int .u8 41), .lit (.int .u8 37), .lit (.int .u8 16), .lit (.int .u8 46), .lit (.int .u8 35), .lit (.int .u8 44), .lit (.int .u8 21), .lit (.int .u8 52), .lit (.int .u8 32), .lit (.int .u8 23), .lit (.int .u8 11), .lit (.int .u8 54), .lit (.int .u8 26), .lit (.int .u8 40), .lit (.int .u8 15), .lit (.int .u8 34), .lit (.int .u8 20), .lit (.int .u8 31), .lit (.int .u8 10), .lit (.int .u8 25), .lit (.int .u8 14), .lit (.int .u8 19), .lit (.int .u8 9), .lit (.int .u8 13), .lit (.int .u8 8), .lit (.int .u8 7), .lit (.int .u8 6)]
def laid_internal_strconv_uint64pow10 {H : Type} : DataW H := .agg [.lit (.int .u64 1), .lit (.int .u64 10), .lit (.int .u64 100), .lit (.int .u64 1000), .lit (.int .u64 10000), .lit (.int .u64 100000), .lit (.int .u64 1000000), .lit (.int .u64 10000000), .lit (.int .u64 100000000), .lit (.int .u64 1000000000), .lit (.int .u64 10000000000), .lit (.int .u64 100000000000), .lit (.int .u64 1000000000000), .lit (.int .u64 10000000000000), .lit (.int .u64 100000000000000), .lit (.int .u64 1000000000000000), .lit (.int .u64 10000000000000000), .lit (.int .u64 100000000000000000), .lit (.int .u64 1000000000000000000), .lit (.int .u64 10000000000000000000)]

/-- 'lacquerlaw09.ListenLoudness': WHATEVER THE INPUT: true; the input reads as it did. -/
def listenLoudnessSpec : ChangeSpec := { name := "listenLoudness", fn := fun _ => fun
  | [d1, d2] => { results := [.lit (.bool true)], args := [d1, d2] }
  | _ => none }
def listenLoudnessRow : OpenClaim := { program := "ytiflkochjfiegaadoor", sum := "ea8fcc6ae445bab7c5b2e8c16e01cba9ec2268d5da4ab1a430be41463407ca0d", func := "lacquer/lacquerlaw09.ListenLoudness", spec := "listenLoudness", unfollowed := true, recurses := true, named := ["lacquer/listen.kernels"], apart := false, laid := [("lacquer/listen.kernels", laid_lacquer_listen_kernels)] }
def ListenLoudnessSaid : Prop := listenLoudnessRow.holds Tryd.pinned (OpenSpec.ofChange listenLoudnessSpec)

/-- ITS FALSE NEIGHBOUR: 'it returns false'. Refute it at one input. -/
def listenLoudnessWrong : ChangeSpec := { name := "listenLoudness", fn := fun _ => fun
  | [d1, d2] => { results := [.lit (.bool false)], args := [d1, d2] }
  | _ => none }
def ListenLoudnessWrongFalsely : Prop := listenLoudnessRow.holds Tryd.pinned (OpenSpec.ofChange listenLoudnessWrong)

/-- 'lacquerlaw09.ListenGates': WHATEVER THE INPUT: true; the input reads as it did. -/
def listenGatesSpec : ChangeSpec := { name := "listenGates", fn := fun _ => fun
  | [d1, d2, d3] => { results := [.lit (.bool true)], args := [d1, d2, d3] }
  | _ => none }
def listenGatesRow : OpenClaim := { program := "ytiflkochjfiegaadoor", sum := "ea8fcc6ae445bab7c5b2e8c16e01cba9ec2268d5da4ab1a430be41463407ca0d", func := "lacquer/lacquerlaw09.ListenGates", spec := "listenGates", unfollowed := true, recurses := true, named := ["lacquer/listen.kernels"], apart := false, laid := [("lacquer/listen.kernels", laid_lacquer_listen_kernels)] }
def ListenGatesSaid : Prop := listenGatesRow.holds Tryd.pinned (OpenSpec.ofChange listenGatesSpec)

/-- ITS FALSE NEIGHBOUR: 'it returns false'. Refute it at one input. -/
def listenGatesWrong : ChangeSpec := { name := "listenGates", fn := fun _ => fun
  | [d1, d2, d3] => { results := [.lit (.bool false)], args := [d1, d2, d3] }
  | _ => none }
def ListenGatesWrongFalsely : Prop := listenGatesRow.holds Tryd.pinned (OpenSpec.ofChange listenGatesWrong)

/-- 'lacquerlaw09.ListenPeaks': WHATEVER THE INPUT: true; the input reads as it did. -/
def listenPeaksSpec : ChangeSpec := { name := "listenPeaks", fn := fun _ => fun
  | [d] => { results := [.lit (.bool true)], args := [d] }
  | _ => none }
def listenPeaksRow : OpenClaim := { program := "ytiflkochjfiegaadoor", sum := "ea8fcc6ae445bab7c5b2e8c16e01cba9ec2268d5da4ab1a430be41463407ca0d", func := "lacquer/lacquerlaw09.ListenPeaks", spec := "listenPeaks", unfollowed := true, recurses := true, named := ["lacquer/listen.kernels"], apart := false, laid := [("lacquer/listen.kernels", laid_lacquer_listen_kernels)] }
def ListenPeaksSaid : Prop := listenPeaksRow.holds Tryd.pinned (OpenSpec.ofChange listenPeaksSpec)

/-- ITS FALSE NEIGHBOUR: 'it returns false'. Refute it at one input. -/
def listenPeaksWrong : ChangeSpec := { name := "listenPeaks", fn := fun _ => fun
  | [d] => { results := [.lit (.bool false)], args := [d] }
  | _ => none }
def ListenPeaksWrongFalsely : Prop := listenPeaksRow.holds Tryd.pinned (OpenSpec.ofChange listenPeaksWrong)

/-- 'lacquerlaw09.ListenTails': WHATEVER THE INPUT: true; the input reads as it did. -/
def listenTailsSpec : ChangeSpec := { name := "listenTails", fn := fun _ => fun
  | [d1, d2, d3] => { results := [.lit (.bool true)], args := [d1, d2, d3] }
  | _ => none }
def listenTailsRow : OpenClaim := { program := "ytiflkochjfiegaadoor", sum := "ea8fcc6ae445bab7c5b2e8c16e01cba9ec2268d5da4ab1a430be41463407ca0d", func := "lacquer/lacquerlaw09.ListenTails", spec := "listenTails", unfollowed := true, recurses := true, named := ["lacquer/listen.kernels"], apart := false, laid := [("lacquer/listen.kernels", laid_lacquer_listen_kernels)] }
def ListenTailsSaid : Prop := listenTailsRow.holds Tryd.pinned (OpenSpec.ofChange listenTailsSpec)

/-- ITS FALSE NEIGHBOUR: 'it returns false'. Refute it at one input. -/
def listenTailsWrong : ChangeSpec := { name := "listenTails", fn := fun _ => fun
  | [d1, d2, d3] => { results := [.lit (.bool false)], args := [d1, d2, d3] }
  | _ => none }
def ListenTailsWrongFalsely : Prop := listenTailsRow.holds Tryd.pinned (OpenSpec.ofChange listenTailsWrong)

/-- 'lacquerlaw09.ListenChances': WHATEVER THE INPUT: true; the input reads as it did. -/
def listenChancesSpec : ChangeSpec := { name := "listenChances", fn := fun _ => fun
  | [d1, d2, d3] => { results := [.lit (.bool true)], args := [d1, d2, d3] }
  | _ => none }
def listenChancesRow : OpenClaim := { program := "ytiflkochjfiegaadoor", sum := "ea8fcc6ae445bab7c5b2e8c16e01cba9ec2268d5da4ab1a430be41463407ca0d", func := "lacquer/lacquerlaw09.ListenChances", spec := "listenChances", unfollowed := true, recurses := true, named := ["lacquer/listen.kernels"], apart := false, laid := [("lacquer/listen.kernels", laid_lacquer_listen_kernels)] }
def ListenChancesSaid : Prop := listenChancesRow.holds Tryd.pinned (OpenSpec.ofChange listenChancesSpec)

/-- ITS FALSE NEIGHBOUR: 'it returns false'. Refute it at one input. -/
def listenChancesWrong : ChangeSpec := { name := "listenChances", fn := fun _ => fun
  | [d1, d2, d3] => { results := [.lit (.bool false)], args := [d1, d2, d3] }
  | _ => none }
def ListenChancesWrongFalsely : Prop := listenChancesRow.holds Tryd.pinned (OpenSpec.ofChange listenChancesWrong)

/-- 'lacquerlaw09.ListenRankings': WHATEVER THE INPUT: true; the input reads as it did. -/
def listenRankingsSpec : ChangeSpec := { name := "listenRankings", fn := fun _ => fun
  | [d1, d2] => { results := [.lit (.bool true)], args := [d1, d2] }
  | _ => none }
def listenRankingsRow : OpenClaim := { program := "ytiflkochjfiegaadoor", sum := "ea8fcc6ae445bab7c5b2e8c16e01cba9ec2268d5da4ab1a430be41463407ca0d", func := "lacquer/lacquerlaw09.ListenRankings", spec := "listenRankings", unfollowed := true, recurses := true, named := ["lacquer/listen.kernels"], apart := false, laid := [("lacquer/listen.kernels", laid_lacquer_listen_kernels)] }
def ListenRankingsSaid : Prop := listenRankingsRow.holds Tryd.pinned (OpenSpec.ofChange listenRankingsSpec)

/-- ITS FALSE NEIGHBOUR: 'it returns false'. Refute it at one input. -/
def listenRankingsWrong : ChangeSpec := { name := "listenRankings", fn := fun _ => fun
  | [d1, d2] => { results := [.lit (.bool false)], args := [d1, d2] }
  | _ => none }
def ListenRankingsWrongFalsely : Prop := listenRankingsRow.holds Tryd.pinned (OpenSpec.ofChange listenRankingsWrong)

/-- 'lacquerlaw09.ListenNoBetter': WHATEVER THE INPUT: true; the input reads as it did. -/
def listenNoBetterSpec : ChangeSpec := { name := "listenNoBetter", fn := fun _ => fun
  | [d1, d2] => { results := [.lit (.bool true)], args := [d1, d2] }
  | _ => none }
def listenNoBetterRow : OpenClaim := { program := "ytiflkochjfiegaadoor", sum := "ea8fcc6ae445bab7c5b2e8c16e01cba9ec2268d5da4ab1a430be41463407ca0d", func := "lacquer/lacquerlaw09.ListenNoBetter", spec := "listenNoBetter", unfollowed := true, recurses := true, named := ["lacquer/listen.kernels"], apart := false, laid := [("lacquer/listen.kernels", laid_lacquer_listen_kernels)] }
def ListenNoBetterSaid : Prop := listenNoBetterRow.holds Tryd.pinned (OpenSpec.ofChange listenNoBetterSpec)

/-- ITS FALSE NEIGHBOUR: 'it returns false'. Refute it at one input. -/
def listenNoBetterWrong : ChangeSpec := { name := "listenNoBetter", fn := fun _ => fun
  | [d1, d2] => { results := [.lit (.bool false)], args := [d1, d2] }
  | _ => none }
def ListenNoBetterWrongFalsely : Prop := listenNoBetterRow.holds Tryd.pinned (OpenSpec.ofChange listenNoBetterWrong)

/-- 'lacquerlaw09.ListenStates': WHATEVER THE INPUT: true; the input reads as it did. -/
def listenStatesSpec : ChangeSpec := { name := "listenStates", fn := fun _ => fun
  | [d1, d2] => { results := [.lit (.bool true)], args := [d1, d2] }
  | _ => none }
def listenStatesRow : OpenClaim := { program := "ytiflkochjfiegaadoor", sum := "ea8fcc6ae445bab7c5b2e8c16e01cba9ec2268d5da4ab1a430be41463407ca0d", func := "lacquer/lacquerlaw09.ListenStates", spec := "listenStates", unfollowed := true, recurses := true, named := ["lacquer/listen.kernels"], apart := false, laid := [("lacquer/listen.kernels", laid_lacquer_listen_kernels)] }
def ListenStatesSaid : Prop := listenStatesRow.holds Tryd.pinned (OpenSpec.ofChange listenStatesSpec)

/-- ITS FALSE NEIGHBOUR: 'it returns false'. Refute it at one input. -/
def listenStatesWrong : ChangeSpec := { name := "listenStates", fn := fun _ => fun
  | [d1, d2] => { results := [.lit (.bool false)], args := [d1, d2] }
  | _ => none }
def ListenStatesWrongFalsely : Prop := listenStatesRow.holds Tryd.pinned (OpenSpec.ofChange listenStatesWrong)

/-- 'lacquerlaw09.ListenTests': WHATEVER THE INPUT: true; the input reads as it did. -/
def listenTestsSpec : ChangeSpec := { name := "listenTests", fn := fun _ => fun
  | [d1, d2] => { results := [.lit (.bool true)], args := [d1, d2] }
  | _ => none }
def listenTestsRow : OpenClaim := { program := "ytiflkochjfiegaadoor", sum := "ea8fcc6ae445bab7c5b2e8c16e01cba9ec2268d5da4ab1a430be41463407ca0d", func := "lacquer/lacquerlaw09.ListenTests", spec := "listenTests", unfollowed := true, recurses := true, named := ["lacquer/listen.kernels"], apart := false, laid := [("lacquer/listen.kernels", laid_lacquer_listen_kernels)] }
def ListenTestsSaid : Prop := listenTestsRow.holds Tryd.pinned (OpenSpec.ofChange listenTestsSpec)

/-- ITS FALSE NEIGHBOUR: 'it returns false'. Refute it at one input. -/
def listenTestsWrong : ChangeSpec := { name := "listenTests", fn := fun _ => fun
  | [d1, d2] => { results := [.lit (.bool false)], args := [d1, d2] }
  | _ => none }
def ListenTestsWrongFalsely : Prop := listenTestsRow.holds Tryd.pinned (OpenSpec.ofChange listenTestsWrong)

/-- 'lacquerlaw09.ListenCounted': WHATEVER THE INPUT: true; the input reads as it did. -/
def listenCountedSpec : ChangeSpec := { name := "listenCounted", fn := fun _ => fun
  | [d] => { results := [.lit (.bool true)], args := [d] }
  | _ => none }
def listenCountedRow : OpenClaim := { program := "ytiflkochjfiegaadoor", sum := "ea8fcc6ae445bab7c5b2e8c16e01cba9ec2268d5da4ab1a430be41463407ca0d", func := "lacquer/lacquerlaw09.ListenCounted", spec := "listenCounted", unfollowed := true, recurses := true, named := ["lacquer/listen.kernels"], apart := false, laid := [("lacquer/listen.kernels", laid_lacquer_listen_kernels)] }
def ListenCountedSaid : Prop := listenCountedRow.holds Tryd.pinned (OpenSpec.ofChange listenCountedSpec)

/-- ITS FALSE NEIGHBOUR: 'it returns false'. Refute it at one input. -/
def listenCountedWrong : ChangeSpec := { name := "listenCounted", fn := fun _ => fun
  | [d] => { results := [.lit (.bool false)], args := [d] }
  | _ => none }
def ListenCountedWrongFalsely : Prop := listenCountedRow.holds Tryd.pinned (OpenSpec.ofChange listenCountedWrong)

/-- 'lacquerlaw09.ListenMoves': WHATEVER THE INPUT: true; the input reads as it did. -/
def listenMovesSpec : ChangeSpec := { name := "listenMoves", fn := fun _ => fun
  | [d1, d2] => { results := [.lit (.bool true)], args := [d1, d2] }
  | _ => none }
def listenMovesRow : OpenClaim := { program := "ytiflkochjfiegaadoor", sum := "ea8fcc6ae445bab7c5b2e8c16e01cba9ec2268d5da4ab1a430be41463407ca0d", func := "lacquer/lacquerlaw09.ListenMoves", spec := "listenMoves", unfollowed := true, recurses := true, named := ["lacquer/listen.kernels"], apart := false, laid := [("lacquer/listen.kernels", laid_lacquer_listen_kernels)] }
def ListenMovesSaid : Prop := listenMovesRow.holds Tryd.pinned (OpenSpec.ofChange listenMovesSpec)

/-- ITS FALSE NEIGHBOUR: 'it returns false'. Refute it at one input. -/
def listenMovesWrong : ChangeSpec := { name := "listenMoves", fn := fun _ => fun
  | [d1, d2] => { results := [.lit (.bool false)], args := [d1, d2] }
  | _ => none }
def ListenMovesWrongFalsely : Prop := listenMovesRow.holds Tryd.pinned (OpenSpec.ofChange listenMovesWrong)

/-- 'lacquerlaw09.ListenFollow': WHATEVER THE INPUT: true; the input reads as it did. -/
def listenFollowSpec : ChangeSpec := { name := "listenFollow", fn := fun _ => fun
  | [d1, d2, d3] => { results := [.lit (.bool true)], args := [d1, d2, d3] }
  | _ => none }
def listenFollowRow : OpenClaim := { program := "ytiflkochjfiegaadoor", sum := "ea8fcc6ae445bab7c5b2e8c16e01cba9ec2268d5da4ab1a430be41463407ca0d", func := "lacquer/lacquerlaw09.ListenFollow", spec := "listenFollow", unfollowed := true, recurses := true, named := ["lacquer/listen.kernels"], apart := false, laid := [("lacquer/listen.kernels", laid_lacquer_listen_kernels)] }
def ListenFollowSaid : Prop := listenFollowRow.holds Tryd.pinned (OpenSpec.ofChange listenFollowSpec)

/-- ITS FALSE NEIGHBOUR: 'it returns false'. Refute it at one input. -/
def listenFollowWrong : ChangeSpec := { name := "listenFollow", fn := fun _ => fun
  | [d1, d2, d3] => { results := [.lit (.bool false)], args := [d1, d2, d3] }
  | _ => none }
def ListenFollowWrongFalsely : Prop := listenFollowRow.holds Tryd.pinned (OpenSpec.ofChange listenFollowWrong)

/-- 'lacquertop.TopListenExact': WHATEVER THE INPUT: true; the input reads as it did. -/
def topListenExactSpec : ChangeSpec := { name := "topListenExact", fn := fun _ => fun
  | [d1, d2, d3] => { results := [.lit (.bool true)], args := [d1, d2, d3] }
  | _ => none }
def topListenExactRow : OpenClaim := { program := "ytiflkochjfiegaadoor", sum := "ea8fcc6ae445bab7c5b2e8c16e01cba9ec2268d5da4ab1a430be41463407ca0d", func := "lacquer/lacquertop.TopListenExact", spec := "topListenExact", inPlace := ["internal/bytealg.IndexByteString", "internal/bytealg.IndexString"], unfollowed := true, recurses := true, named := ["internal/strconv.uint64pow10", "math/bits.deBruijn32tab", "math/bits.deBruijn64tab", "internal/bytealg.MaxLen"], apart := false, laid := [("math/bits.deBruijn32tab", laid_math_bits_deBruijn32tab), ("math/bits.deBruijn64tab", laid_math_bits_deBruijn64tab), ("internal/strconv.uint64pow10", laid_internal_strconv_uint64pow10)] }
def TopListenExactSaid : Prop := topListenExactRow.holds Tryd.pinned (OpenSpec.ofChange topListenExactSpec)

/-- ITS FALSE NEIGHBOUR: 'it returns false'. Refute it at one input. -/
def topListenExactWrong : ChangeSpec := { name := "topListenExact", fn := fun _ => fun
  | [d1, d2, d3] => { results := [.lit (.bool false)], args := [d1, d2, d3] }
  | _ => none }
def TopListenExactWrongFalsely : Prop := topListenExactRow.holds Tryd.pinned (OpenSpec.ofChange topListenExactWrong)

/-- 'lacquerlaw09.ListenApplies': WHATEVER THE INPUT: true; the input reads as it did. -/
def listenAppliesSpec : ChangeSpec := { name := "listenApplies", fn := fun _ => fun
  | [d1, d2, d3] => { results := [.lit (.bool true)], args := [d1, d2, d3] }
  | _ => none }
def listenAppliesRow : OpenClaim := { program := "ytiflkochjfiegaadoor", sum := "ea8fcc6ae445bab7c5b2e8c16e01cba9ec2268d5da4ab1a430be41463407ca0d", func := "lacquer/lacquerlaw09.ListenApplies", spec := "listenApplies", unfollowed := true, recurses := true, named := ["lacquer/listen.kernels"], apart := false, laid := [("lacquer/listen.kernels", laid_lacquer_listen_kernels)] }
def ListenAppliesSaid : Prop := listenAppliesRow.holds Tryd.pinned (OpenSpec.ofChange listenAppliesSpec)

/-- ITS FALSE NEIGHBOUR: 'it returns false'. Refute it at one input. -/
def listenAppliesWrong : ChangeSpec := { name := "listenApplies", fn := fun _ => fun
  | [d1, d2, d3] => { results := [.lit (.bool false)], args := [d1, d2, d3] }
  | _ => none }
def ListenAppliesWrongFalsely : Prop := listenAppliesRow.holds Tryd.pinned (OpenSpec.ofChange listenAppliesWrong)

/-- 'lacquerlaw09.ListenBlind': WHATEVER THE INPUT: true; the input reads as it did. -/
def listenBlindSpec : ChangeSpec := { name := "listenBlind", fn := fun _ => fun
  | [d1, d2] => { results := [.lit (.bool true)], args := [d1, d2] }
  | _ => none }
def listenBlindRow : OpenClaim := { program := "ytiflkochjfiegaadoor", sum := "ea8fcc6ae445bab7c5b2e8c16e01cba9ec2268d5da4ab1a430be41463407ca0d", func := "lacquer/lacquerlaw09.ListenBlind", spec := "listenBlind", unfollowed := true, recurses := true, named := ["lacquer/listen.kernels"], apart := false, laid := [("lacquer/listen.kernels", laid_lacquer_listen_kernels)] }
def ListenBlindSaid : Prop := listenBlindRow.holds Tryd.pinned (OpenSpec.ofChange listenBlindSpec)

/-- ITS FALSE NEIGHBOUR: 'it returns false'. Refute it at one input. -/
def listenBlindWrong : ChangeSpec := { name := "listenBlind", fn := fun _ => fun
  | [d1, d2] => { results := [.lit (.bool false)], args := [d1, d2] }
  | _ => none }
def ListenBlindWrongFalsely : Prop := listenBlindRow.holds Tryd.pinned (OpenSpec.ofChange listenBlindWrong)

/-- 'lacquerlaw09.ListenStrings': WHATEVER THE INPUT: true; the input reads as it did. -/
def listenStringsSpec : ChangeSpec := { name := "listenStrings", fn := fun _ => fun
  | [d1, d2] => { results := [.lit (.bool true)], args := [d1, d2] }
  | _ => none }
def listenStringsRow : OpenClaim := { program := "ytiflkochjfiegaadoor", sum := "ea8fcc6ae445bab7c5b2e8c16e01cba9ec2268d5da4ab1a430be41463407ca0d", func := "lacquer/lacquerlaw09.ListenStrings", spec := "listenStrings", inPlace := ["internal/bytealg.IndexByteString", "internal/bytealg.IndexString"], unfollowed := true, recurses := true, named := ["lacquer/listen.kernels", "internal/strconv.uint64pow10", "math/bits.deBruijn32tab", "math/bits.deBruijn64tab", "internal/bytealg.MaxLen"], apart := false, laid := [("math/bits.deBruijn32tab", laid_math_bits_deBruijn32tab), ("math/bits.deBruijn64tab", laid_math_bits_deBruijn64tab), ("internal/strconv.uint64pow10", laid_internal_strconv_uint64pow10), ("lacquer/listen.kernels", laid_lacquer_listen_kernels)] }
def ListenStringsSaid : Prop := listenStringsRow.holds Tryd.pinned (OpenSpec.ofChange listenStringsSpec)

/-- ITS FALSE NEIGHBOUR: 'it returns false'. Refute it at one input. -/
def listenStringsWrong : ChangeSpec := { name := "listenStrings", fn := fun _ => fun
  | [d1, d2] => { results := [.lit (.bool false)], args := [d1, d2] }
  | _ => none }
def ListenStringsWrongFalsely : Prop := listenStringsRow.holds Tryd.pinned (OpenSpec.ofChange listenStringsWrong)

/- THE SECOND FORM. 'bulk': how many values and letters a reading holds, each counted each time it is reached (what is shared counts as often as it is met; a slice's spare places count too). A statement '..UptoSaid' is the law's where the arguments, and the package variables that the reading takes, are together of bulk at most 1048576: NARROWER than '..Said'. Prove '..Said' where nothing that the law and all that it calls make is longer than what came in: it says more and counts as full. Else prove '..UptoSaid'. A law counts once. -/
mutual
def uptoBulk {H : Type} : DataW H → Nat
  | .lit (.string bytes) => bytes.length + 1
  | .lit _ => 1
  | .nil => 1
  | .ptr d => uptoBulk d + 1
  | .slice elems spare => uptoBulkAll elems + uptoBulkAll spare + 1
  | .agg parts => uptoBulkAll parts + 1
  | .iface _ d => uptoBulk d + 1
  | .map entries => uptoBulkEntries entries + 1
  | .held _ => 1
def uptoBulkAll {H : Type} : List (DataW H) → Nat
  | [] => 0
  | d :: r => uptoBulk d + uptoBulkAll r
def uptoBulkEntries {H : Type} : List (Lit × DataW H) → Nat
  | [] => 0
  | x :: r => uptoBulkEntry x + uptoBulkEntries r
def uptoBulkEntry {H : Type} : Lit × DataW H → Nat
  | (.string bytes, d) => bytes.length + uptoBulk d + 1
  | (_, d) => uptoBulk d + 1
 end
def uptoSmall : (H : Type) → List (DataW H) → Bool := fun _ ds => decide (uptoBulkAll ds ≤ 1048576)
def OpenSpec.upto (s : _root_.Go.ChangeSpec) : _root_.Go.OpenSpec := { _root_.Go.OpenSpec.ofChange s with cond := some uptoSmall }

/-- 'lacquerlaw09.ListenLoudness', WHERE WHAT IT READS IS OF BULK AT MOST 1048576: true; the input reads as it did. -/
def listenLoudnessUptoRow : OpenClaim := { program := "ytiflkochjfiegaadoor", sum := "ea8fcc6ae445bab7c5b2e8c16e01cba9ec2268d5da4ab1a430be41463407ca0d", func := "lacquer/lacquerlaw09.ListenLoudness", spec := "listenLoudness", unfollowed := true, recurses := true, named := ["lacquer/listen.kernels"], apart := false, laid := [("lacquer/listen.kernels", laid_lacquer_listen_kernels)], narrowed := true }
def ListenLoudnessUptoSaid : Prop := listenLoudnessUptoRow.holds Tryd.pinned (OpenSpec.upto listenLoudnessSpec)

/-- 'lacquerlaw09.ListenGates', WHERE WHAT IT READS IS OF BULK AT MOST 1048576: true; the input reads as it did. -/
def listenGatesUptoRow : OpenClaim := { program := "ytiflkochjfiegaadoor", sum := "ea8fcc6ae445bab7c5b2e8c16e01cba9ec2268d5da4ab1a430be41463407ca0d", func := "lacquer/lacquerlaw09.ListenGates", spec := "listenGates", unfollowed := true, recurses := true, named := ["lacquer/listen.kernels"], apart := false, laid := [("lacquer/listen.kernels", laid_lacquer_listen_kernels)], narrowed := true }
def ListenGatesUptoSaid : Prop := listenGatesUptoRow.holds Tryd.pinned (OpenSpec.upto listenGatesSpec)

/-- 'lacquerlaw09.ListenPeaks', WHERE WHAT IT READS IS OF BULK AT MOST 1048576: true; the input reads as it did. -/
def listenPeaksUptoRow : OpenClaim := { program := "ytiflkochjfiegaadoor", sum := "ea8fcc6ae445bab7c5b2e8c16e01cba9ec2268d5da4ab1a430be41463407ca0d", func := "lacquer/lacquerlaw09.ListenPeaks", spec := "listenPeaks", unfollowed := true, recurses := true, named := ["lacquer/listen.kernels"], apart := false, laid := [("lacquer/listen.kernels", laid_lacquer_listen_kernels)], narrowed := true }
def ListenPeaksUptoSaid : Prop := listenPeaksUptoRow.holds Tryd.pinned (OpenSpec.upto listenPeaksSpec)

/-- 'lacquerlaw09.ListenTails', WHERE WHAT IT READS IS OF BULK AT MOST 1048576: true; the input reads as it did. -/
def listenTailsUptoRow : OpenClaim := { program := "ytiflkochjfiegaadoor", sum := "ea8fcc6ae445bab7c5b2e8c16e01cba9ec2268d5da4ab1a430be41463407ca0d", func := "lacquer/lacquerlaw09.ListenTails", spec := "listenTails", unfollowed := true, recurses := true, named := ["lacquer/listen.kernels"], apart := false, laid := [("lacquer/listen.kernels", laid_lacquer_listen_kernels)], narrowed := true }
def ListenTailsUptoSaid : Prop := listenTailsUptoRow.holds Tryd.pinned (OpenSpec.upto listenTailsSpec)

/-- 'lacquerlaw09.ListenChances', WHERE WHAT IT READS IS OF BULK AT MOST 1048576: true; the input reads as it did. -/
def listenChancesUptoRow : OpenClaim := { program := "ytiflkochjfiegaadoor", sum := "ea8fcc6ae445bab7c5b2e8c16e01cba9ec2268d5da4ab1a430be41463407ca0d", func := "lacquer/lacquerlaw09.ListenChances", spec := "listenChances", unfollowed := true, recurses := true, named := ["lacquer/listen.kernels"], apart := false, laid := [("lacquer/listen.kernels", laid_lacquer_listen_kernels)], narrowed := true }
def ListenChancesUptoSaid : Prop := listenChancesUptoRow.holds Tryd.pinned (OpenSpec.upto listenChancesSpec)

/-- 'lacquerlaw09.ListenRankings', WHERE WHAT IT READS IS OF BULK AT MOST 1048576: true; the input reads as it did. -/
def listenRankingsUptoRow : OpenClaim := { program := "ytiflkochjfiegaadoor", sum := "ea8fcc6ae445bab7c5b2e8c16e01cba9ec2268d5da4ab1a430be41463407ca0d", func := "lacquer/lacquerlaw09.ListenRankings", spec := "listenRankings", unfollowed := true, recurses := true, named := ["lacquer/listen.kernels"], apart := false, laid := [("lacquer/listen.kernels", laid_lacquer_listen_kernels)], narrowed := true }
def ListenRankingsUptoSaid : Prop := listenRankingsUptoRow.holds Tryd.pinned (OpenSpec.upto listenRankingsSpec)

/-- 'lacquerlaw09.ListenNoBetter', WHERE WHAT IT READS IS OF BULK AT MOST 1048576: true; the input reads as it did. -/
def listenNoBetterUptoRow : OpenClaim := { program := "ytiflkochjfiegaadoor", sum := "ea8fcc6ae445bab7c5b2e8c16e01cba9ec2268d5da4ab1a430be41463407ca0d", func := "lacquer/lacquerlaw09.ListenNoBetter", spec := "listenNoBetter", unfollowed := true, recurses := true, named := ["lacquer/listen.kernels"], apart := false, laid := [("lacquer/listen.kernels", laid_lacquer_listen_kernels)], narrowed := true }
def ListenNoBetterUptoSaid : Prop := listenNoBetterUptoRow.holds Tryd.pinned (OpenSpec.upto listenNoBetterSpec)

/-- 'lacquerlaw09.ListenStates', WHERE WHAT IT READS IS OF BULK AT MOST 1048576: true; the input reads as it did. -/
def listenStatesUptoRow : OpenClaim := { program := "ytiflkochjfiegaadoor", sum := "ea8fcc6ae445bab7c5b2e8c16e01cba9ec2268d5da4ab1a430be41463407ca0d", func := "lacquer/lacquerlaw09.ListenStates", spec := "listenStates", unfollowed := true, recurses := true, named := ["lacquer/listen.kernels"], apart := false, laid := [("lacquer/listen.kernels", laid_lacquer_listen_kernels)], narrowed := true }
def ListenStatesUptoSaid : Prop := listenStatesUptoRow.holds Tryd.pinned (OpenSpec.upto listenStatesSpec)

/-- 'lacquerlaw09.ListenTests', WHERE WHAT IT READS IS OF BULK AT MOST 1048576: true; the input reads as it did. -/
def listenTestsUptoRow : OpenClaim := { program := "ytiflkochjfiegaadoor", sum := "ea8fcc6ae445bab7c5b2e8c16e01cba9ec2268d5da4ab1a430be41463407ca0d", func := "lacquer/lacquerlaw09.ListenTests", spec := "listenTests", unfollowed := true, recurses := true, named := ["lacquer/listen.kernels"], apart := false, laid := [("lacquer/listen.kernels", laid_lacquer_listen_kernels)], narrowed := true }
def ListenTestsUptoSaid : Prop := listenTestsUptoRow.holds Tryd.pinned (OpenSpec.upto listenTestsSpec)

/-- 'lacquerlaw09.ListenCounted', WHERE WHAT IT READS IS OF BULK AT MOST 1048576: true; the input reads as it did. -/
def listenCountedUptoRow : OpenClaim := { program := "ytiflkochjfiegaadoor", sum := "ea8fcc6ae445bab7c5b2e8c16e01cba9ec2268d5da4ab1a430be41463407ca0d", func := "lacquer/lacquerlaw09.ListenCounted", spec := "listenCounted", unfollowed := true, recurses := true, named := ["lacquer/listen.kernels"], apart := false, laid := [("lacquer/listen.kernels", laid_lacquer_listen_kernels)], narrowed := true }
def ListenCountedUptoSaid : Prop := listenCountedUptoRow.holds Tryd.pinned (OpenSpec.upto listenCountedSpec)

/-- 'lacquerlaw09.ListenMoves', WHERE WHAT IT READS IS OF BULK AT MOST 1048576: true; the input reads as it did. -/
def listenMovesUptoRow : OpenClaim := { program := "ytiflkochjfiegaadoor", sum := "ea8fcc6ae445bab7c5b2e8c16e01cba9ec2268d5da4ab1a430be41463407ca0d", func := "lacquer/lacquerlaw09.ListenMoves", spec := "listenMoves", unfollowed := true, recurses := true, named := ["lacquer/listen.kernels"], apart := false, laid := [("lacquer/listen.kernels", laid_lacquer_listen_kernels)], narrowed := true }
def ListenMovesUptoSaid : Prop := listenMovesUptoRow.holds Tryd.pinned (OpenSpec.upto listenMovesSpec)

/-- 'lacquerlaw09.ListenFollow', WHERE WHAT IT READS IS OF BULK AT MOST 1048576: true; the input reads as it did. -/
def listenFollowUptoRow : OpenClaim := { program := "ytiflkochjfiegaadoor", sum := "ea8fcc6ae445bab7c5b2e8c16e01cba9ec2268d5da4ab1a430be41463407ca0d", func := "lacquer/lacquerlaw09.ListenFollow", spec := "listenFollow", unfollowed := true, recurses := true, named := ["lacquer/listen.kernels"], apart := false, laid := [("lacquer/listen.kernels", laid_lacquer_listen_kernels)], narrowed := true }
def ListenFollowUptoSaid : Prop := listenFollowUptoRow.holds Tryd.pinned (OpenSpec.upto listenFollowSpec)

/-- 'lacquertop.TopListenExact', WHERE WHAT IT READS IS OF BULK AT MOST 1048576: true; the input reads as it did. -/
def topListenExactUptoRow : OpenClaim := { program := "ytiflkochjfiegaadoor", sum := "ea8fcc6ae445bab7c5b2e8c16e01cba9ec2268d5da4ab1a430be41463407ca0d", func := "lacquer/lacquertop.TopListenExact", spec := "topListenExact", inPlace := ["internal/bytealg.IndexByteString", "internal/bytealg.IndexString"], unfollowed := true, recurses := true, named := ["internal/strconv.uint64pow10", "math/bits.deBruijn32tab", "math/bits.deBruijn64tab", "internal/bytealg.MaxLen"], apart := false, laid := [("math/bits.deBruijn32tab", laid_math_bits_deBruijn32tab), ("math/bits.deBruijn64tab", laid_math_bits_deBruijn64tab), ("internal/strconv.uint64pow10", laid_internal_strconv_uint64pow10)], narrowed := true }
def TopListenExactUptoSaid : Prop := topListenExactUptoRow.holds Tryd.pinned (OpenSpec.upto topListenExactSpec)

/-- 'lacquerlaw09.ListenApplies', WHERE WHAT IT READS IS OF BULK AT MOST 1048576: true; the input reads as it did. -/
def listenAppliesUptoRow : OpenClaim := { program := "ytiflkochjfiegaadoor", sum := "ea8fcc6ae445bab7c5b2e8c16e01cba9ec2268d5da4ab1a430be41463407ca0d", func := "lacquer/lacquerlaw09.ListenApplies", spec := "listenApplies", unfollowed := true, recurses := true, named := ["lacquer/listen.kernels"], apart := false, laid := [("lacquer/listen.kernels", laid_lacquer_listen_kernels)], narrowed := true }
def ListenAppliesUptoSaid : Prop := listenAppliesUptoRow.holds Tryd.pinned (OpenSpec.upto listenAppliesSpec)

/-- 'lacquerlaw09.ListenBlind', WHERE WHAT IT READS IS OF BULK AT MOST 1048576: true; the input reads as it did. -/
def listenBlindUptoRow : OpenClaim := { program := "ytiflkochjfiegaadoor", sum := "ea8fcc6ae445bab7c5b2e8c16e01cba9ec2268d5da4ab1a430be41463407ca0d", func := "lacquer/lacquerlaw09.ListenBlind", spec := "listenBlind", unfollowed := true, recurses := true, named := ["lacquer/listen.kernels"], apart := false, laid := [("lacquer/listen.kernels", laid_lacquer_listen_kernels)], narrowed := true }
def ListenBlindUptoSaid : Prop := listenBlindUptoRow.holds Tryd.pinned (OpenSpec.upto listenBlindSpec)

/-- 'lacquerlaw09.ListenStrings', WHERE WHAT IT READS IS OF BULK AT MOST 1048576: true; the input reads as it did. -/
def listenStringsUptoRow : OpenClaim := { program := "ytiflkochjfiegaadoor", sum := "ea8fcc6ae445bab7c5b2e8c16e01cba9ec2268d5da4ab1a430be41463407ca0d", func := "lacquer/lacquerlaw09.ListenStrings", spec := "listenStrings", inPlace := ["internal/bytealg.IndexByteString", "internal/bytealg.IndexString"], unfollowed := true, recurses := true, named := ["lacquer/listen.kernels", "internal/strconv.uint64pow10", "math/bits.deBruijn32tab", "math/bits.deBruijn64tab", "internal/bytealg.MaxLen"], apart := false, laid := [("math/bits.deBruijn32tab", laid_math_bits_deBruijn32tab), ("math/bits.deBruijn64tab", laid_math_bits_deBruijn64tab), ("internal/strconv.uint64pow10", laid_internal_strconv_uint64pow10), ("lacquer/listen.kernels", laid_lacquer_listen_kernels)], narrowed := true }
def ListenStringsUptoSaid : Prop := listenStringsUptoRow.holds Tryd.pinned (OpenSpec.upto listenStringsSpec)

end Rows
end Go.Proofs.YtiflkochjfiegaaDoor
