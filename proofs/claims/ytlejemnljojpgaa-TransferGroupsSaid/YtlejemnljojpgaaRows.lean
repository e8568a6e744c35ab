/-
  No cell of these rows narrows 'for every input' (looked for: loops, veiled, ifaces, maps, wideKeys, modest, calm, conditions, laid).
  DERIVED. THE GIVEN ROWS OF THIS SEAT. 12 by the template 'for every input the law returns true; each argument reads behind the call as it read before'; 0 by the template 'total and deterministic' (their statements: YtlejemnljojpgaaTotals.lean).
  GIVEN WITH THE SEED: the statements are not yours to turn. If you find one false, say at which input.
  Laid BY PROGRAM, IN A SANDBOX (cutbox-rows.mjs): the forced cells as the released guide's own fill.sh prints them over the translation 4806502a2a7e4ceb… (all of the seat's roots in one cut). By AI agents, Wed Nov 11 2026. No macro, syntax, notation, axiom, sorry.
-/
import Derived.Test.YtlejemnljojpgaaChecked
import GoSem.Claim
import GoSem.ClaimJoined
import GoSem.ClaimMapViews
import Derived.JoinedTies
import Derived.KernelRfl
namespace Go.Proofs.Ytlejemnljojpgaa
/- THE CELL 'sum', in the pinned program and in every row, IS THE sha256 OF THE DUMP (.gsa) THAT YtlejemnljojpgaaProg.lean LOADS. Nothing in Lean hashes anything: it is a label: what it is worth is what the hold of that sum in a sandbox is worth. -/
noncomputable def Try.pinned : Pinned := { name := "ytlejemnljojpgaa", sum := "4806502a2a7e4ceb37bde89ada70d662fc5daa5d7339af16c37d5cd433e752fd", checked := Try.checked }
namespace Rows
def none {H : Type} : Left H := { results := [], args := [] }

/-- 'lacquerlaw01.TransferCarriers': WHATEVER THE INPUT: true; the input reads as it did. -/
def transferCarriersSpec : ChangeSpec := { name := "transferCarriers", fn := fun _ => fun
  | [d1, d2] => { results := [.lit (.bool true)], args := [d1, d2] }
  | _ => none }
def transferCarriersRow : OpenClaim := { program := "ytlejemnljojpgaa", sum := "4806502a2a7e4ceb37bde89ada70d662fc5daa5d7339af16c37d5cd433e752fd", func := "lacquer/lacquerlaw01.TransferCarriers", spec := "transferCarriers", unfollowed := true, recurses := true, plainKeys := false, apart := false }
def TransferCarriersSaid : Prop := transferCarriersRow.holds Try.pinned (OpenSpec.ofChange transferCarriersSpec)

/-- ITS FALSE NEIGHBOUR: 'it returns false'. Refute it at one input. -/
def transferCarriersWrong : ChangeSpec := { name := "transferCarriers", fn := fun _ => fun
  | [d1, d2] => { results := [.lit (.bool false)], args := [d1, d2] }
  | _ => none }
def TransferCarriersWrongFalsely : Prop := transferCarriersRow.holds Try.pinned (OpenSpec.ofChange transferCarriersWrong)

/-- 'lacquerlaw01.TransferBlocks': WHATEVER THE INPUT: true; the input reads as it did. -/
def transferBlocksSpec : ChangeSpec := { name := "transferBlocks", fn := fun _ => fun
  | [d] => { results := [.lit (.bool true)], args := [d] }
  | _ => none }
def transferBlocksRow : OpenClaim := { program := "ytlejemnljojpgaa", sum := "4806502a2a7e4ceb37bde89ada70d662fc5daa5d7339af16c37d5cd433e752fd", func := "lacquer/lacquerlaw01.TransferBlocks", spec := "transferBlocks", unfollowed := true, recurses := true, plainKeys := false, apart := false }
def TransferBlocksSaid : Prop := transferBlocksRow.holds Try.pinned (OpenSpec.ofChange transferBlocksSpec)

/-- ITS FALSE NEIGHBOUR: 'it returns false'. Refute it at one input. -/
def transferBlocksWrong : ChangeSpec := { name := "transferBlocks", fn := fun _ => fun
  | [d] => { results := [.lit (.bool false)], args := [d] }
  | _ => none }
def TransferBlocksWrongFalsely : Prop := transferBlocksRow.holds Try.pinned (OpenSpec.ofChange transferBlocksWrong)

/-- 'lacquerlaw01.TransferDamage': WHATEVER THE INPUT: true; the input reads as it did. -/
def transferDamageSpec : ChangeSpec := { name := "transferDamage", fn := fun _ => fun
  | [d1, d2, d3] => { results := [.lit (.bool true)], args := [d1, d2, d3] }
  | _ => none }
def transferDamageRow : OpenClaim := { program := "ytlejemnljojpgaa", sum := "4806502a2a7e4ceb37bde89ada70d662fc5daa5d7339af16c37d5cd433e752fd", func := "lacquer/lacquerlaw01.TransferDamage", spec := "transferDamage", unfollowed := true, recurses := true, plainKeys := false, apart := false }
def TransferDamageSaid : Prop := transferDamageRow.holds Try.pinned (OpenSpec.ofChange transferDamageSpec)

/-- ITS FALSE NEIGHBOUR: 'it returns false'. Refute it at one input. -/
def transferDamageWrong : ChangeSpec := { name := "transferDamage", fn := fun _ => fun
  | [d1, d2, d3] => { results := [.lit (.bool false)], args := [d1, d2, d3] }
  | _ => none }
def TransferDamageWrongFalsely : Prop := transferDamageRow.holds Try.pinned (OpenSpec.ofChange transferDamageWrong)

/-- 'lacquerlaw01.TransferPacks': WHATEVER THE INPUT: true; the input reads as it did. -/
def transferPacksSpec : ChangeSpec := { name := "transferPacks", fn := fun _ => fun
  | [d1, d2, d3] => { results := [.lit (.bool true)], args := [d1, d2, d3] }
  | _ => none }
def transferPacksRow : OpenClaim := { program := "ytlejemnljojpgaa", sum := "4806502a2a7e4ceb37bde89ada70d662fc5daa5d7339af16c37d5cd433e752fd", func := "lacquer/lacquerlaw01.TransferPacks", spec := "transferPacks", unfollowed := true, recurses := true, plainKeys := false, apart := false }
def TransferPacksSaid : Prop := transferPacksRow.holds Try.pinned (OpenSpec.ofChange transferPacksSpec)

/-- ITS FALSE NEIGHBOUR: 'it returns false'. Refute it at one input. -/
def transferPacksWrong : ChangeSpec := { name := "transferPacks", fn := fun _ => fun
  | [d1, d2, d3] => { results := [.lit (.bool false)], args := [d1, d2, d3] }
  | _ => none }
def TransferPacksWrongFalsely : Prop := transferPacksRow.holds Try.pinned (OpenSpec.ofChange transferPacksWrong)

/-- 'lacquerlaw01.TransferCuts': WHATEVER THE INPUT: true; the input reads as it did. -/
def transferCutsSpec : ChangeSpec := { name := "transferCuts", fn := fun _ => fun
  | [d1, d2] => { results := [.lit (.bool true)], args := [d1, d2] }
  | _ => none }
def transferCutsRow : OpenClaim := { program := "ytlejemnljojpgaa", sum := "4806502a2a7e4ceb37bde89ada70d662fc5daa5d7339af16c37d5cd433e752fd", func := "lacquer/lacquerlaw01.TransferCuts", spec := "transferCuts", unfollowed := true, recurses := true, plainKeys := false, apart := false }
def TransferCutsSaid : Prop := transferCutsRow.holds Try.pinned (OpenSpec.ofChange transferCutsSpec)

/-- ITS FALSE NEIGHBOUR: 'it returns false'. Refute it at one input. -/
def transferCutsWrong : ChangeSpec := { name := "transferCuts", fn := fun _ => fun
  | [d1, d2] => { results := [.lit (.bool false)], args := [d1, d2] }
  | _ => none }
def TransferCutsWrongFalsely : Prop := transferCutsRow.holds Try.pinned (OpenSpec.ofChange transferCutsWrong)

/-- 'lacquerlaw01.TransferParities': WHATEVER THE INPUT: true; the input reads as it did. -/
def transferParitiesSpec : ChangeSpec := { name := "transferParities", fn := fun _ => fun
  | [d1, d2, d3] => { results := [.lit (.bool true)], args := [d1, d2, d3] }
  | _ => none }
def transferParitiesRow : OpenClaim := { program := "ytlejemnljojpgaa", sum := "4806502a2a7e4ceb37bde89ada70d662fc5daa5d7339af16c37d5cd433e752fd", func := "lacquer/lacquerlaw01.TransferParities", spec := "transferParities", unfollowed := true, recurses := true, plainKeys := false, apart := false }
def TransferParitiesSaid : Prop := transferParitiesRow.holds Try.pinned (OpenSpec.ofChange transferParitiesSpec)

/-- ITS FALSE NEIGHBOUR: 'it returns false'. Refute it at one input. -/
def transferParitiesWrong : ChangeSpec := { name := "transferParities", fn := fun _ => fun
  | [d1, d2, d3] => { results := [.lit (.bool false)], args := [d1, d2, d3] }
  | _ => none }
def TransferParitiesWrongFalsely : Prop := transferParitiesRow.holds Try.pinned (OpenSpec.ofChange transferParitiesWrong)

/-- 'lacquerlaw01.TransferUnpacks': WHATEVER THE INPUT: true; the input reads as it did. -/
def transferUnpacksSpec : ChangeSpec := { name := "transferUnpacks", fn := fun _ => fun
  | [d] => { results := [.lit (.bool true)], args := [d] }
  | _ => none }
def transferUnpacksRow : OpenClaim := { program := "ytlejemnljojpgaa", sum := "4806502a2a7e4ceb37bde89ada70d662fc5daa5d7339af16c37d5cd433e752fd", func := "lacquer/lacquerlaw01.TransferUnpacks", spec := "transferUnpacks", unfollowed := true, recurses := true, plainKeys := false, apart := false }
def TransferUnpacksSaid : Prop := transferUnpacksRow.holds Try.pinned (OpenSpec.ofChange transferUnpacksSpec)

/-- ITS FALSE NEIGHBOUR: 'it returns false'. Refute it at one input. -/
def transferUnpacksWrong : ChangeSpec := { name := "transferUnpacks", fn := fun _ => fun
  | [d] => { results := [.lit (.bool false)], args := [d] }
  | _ => none }
def TransferUnpacksWrongFalsely : Prop := transferUnpacksRow.holds Try.pinned (OpenSpec.ofChange transferUnpacksWrong)

/-- 'lacquerlaw01.TransferBitByBit': WHATEVER THE INPUT: true; the input reads as it did. -/
def transferBitByBitSpec : ChangeSpec := { name := "transferBitByBit", fn := fun _ => fun
  | [d1, d2, d3] => { results := [.lit (.bool true)], args := [d1, d2, d3] }
  | _ => none }
def transferBitByBitRow : OpenClaim := { program := "ytlejemnljojpgaa", sum := "4806502a2a7e4ceb37bde89ada70d662fc5daa5d7339af16c37d5cd433e752fd", func := "lacquer/lacquerlaw01.TransferBitByBit", spec := "transferBitByBit", unfollowed := true, recurses := true, plainKeys := false, apart := false }
def TransferBitByBitSaid : Prop := transferBitByBitRow.holds Try.pinned (OpenSpec.ofChange transferBitByBitSpec)

/-- ITS FALSE NEIGHBOUR: 'it returns false'. Refute it at one input. -/
def transferBitByBitWrong : ChangeSpec := { name := "transferBitByBit", fn := fun _ => fun
  | [d1, d2, d3] => { results := [.lit (.bool false)], args := [d1, d2, d3] }
  | _ => none }
def TransferBitByBitWrongFalsely : Prop := transferBitByBitRow.holds Try.pinned (OpenSpec.ofChange transferBitByBitWrong)

/-- 'lacquerlaw01.TransferStreams': WHATEVER THE INPUT: true; the input reads as it did. -/
def transferStreamsSpec : ChangeSpec := { name := "transferStreams", fn := fun _ => fun
  | [d1, d2] => { results := [.lit (.bool true)], args := [d1, d2] }
  | _ => none }
def transferStreamsRow : OpenClaim := { program := "ytlejemnljojpgaa", sum := "4806502a2a7e4ceb37bde89ada70d662fc5daa5d7339af16c37d5cd433e752fd", func := "lacquer/lacquerlaw01.TransferStreams", spec := "transferStreams", unfollowed := true, recurses := true, plainKeys := false, apart := false }
def TransferStreamsSaid : Prop := transferStreamsRow.holds Try.pinned (OpenSpec.ofChange transferStreamsSpec)

/-- ITS FALSE NEIGHBOUR: 'it returns false'. Refute it at one input. -/
def transferStreamsWrong : ChangeSpec := { name := "transferStreams", fn := fun _ => fun
  | [d1, d2] => { results := [.lit (.bool false)], args := [d1, d2] }
  | _ => none }
def TransferStreamsWrongFalsely : Prop := transferStreamsRow.holds Try.pinned (OpenSpec.ofChange transferStreamsWrong)

/-- 'lacquerlaw01.TransferTogether': WHATEVER THE INPUT: true; the input reads as it did. -/
def transferTogetherSpec : ChangeSpec := { name := "transferTogether", fn := fun _ => fun
  | [d1, d2, d3] => { results := [.lit (.bool true)], args := [d1, d2, d3] }
  | _ => none }
def transferTogetherRow : OpenClaim := { program := "ytlejemnljojpgaa", sum := "4806502a2a7e4ceb37bde89ada70d662fc5daa5d7339af16c37d5cd433e752fd", func := "lacquer/lacquerlaw01.TransferTogether", spec := "transferTogether", unfollowed := true, recurses := true, plainKeys := false, apart := false }
def TransferTogetherSaid : Prop := transferTogetherRow.holds Try.pinned (OpenSpec.ofChange transferTogetherSpec)

/-- ITS FALSE NEIGHBOUR: 'it returns false'. Refute it at one input. -/
def transferTogetherWrong : ChangeSpec := { name := "transferTogether", fn := fun _ => fun
  | [d1, d2, d3] => { results := [.lit (.bool false)], args := [d1, d2, d3] }
  | _ => none }
def TransferTogetherWrongFalsely : Prop := transferTogetherRow.holds Try.pinned (OpenSpec.ofChange transferTogetherWrong)

/-- 'lacquerlaw01.TransferGroups': WHATEVER THE INPUT: true; the input reads as it did. -/
def transferGroupsSpec : ChangeSpec := { name := "transferGroups", fn := fun _ => fun
  | [d] => { results := [.lit (.bool true)], args := [d] }
  | _ => none }
def transferGroupsRow : OpenClaim := { program := "ytlejemnljojpgaa", sum := "4806502a2a7e4ceb37bde89ada70d662fc5daa5d7339af16c37d5cd433e752fd", func := "lacquer/lacquerlaw01.TransferGroups", spec := "transferGroups", unfollowed := true, recurses := true, plainKeys := false, apart := false }
def TransferGroupsSaid : Prop := transferGroupsRow.holds Try.pinned (OpenSpec.ofChange transferGroupsSpec)

/-- ITS FALSE NEIGHBOUR: 'it returns false'. Refute it at one input. -/
def transferGroupsWrong : ChangeSpec := { name := "transferGroups", fn := fun _ => fun
  | [d] => { results := [.lit (.bool false)], args := [d] }
  | _ => none }
def TransferGroupsWrongFalsely : Prop := transferGroupsRow.holds Try.pinned (OpenSpec.ofChange transferGroupsWrong)

/-- 'lacquerlaw01.TransferRestored': WHATEVER THE INPUT: true; the input reads as it did. -/
def transferRestoredSpec : ChangeSpec := { name := "transferRestored", fn := fun _ => fun
  | [d1, d2, d3] => { results := [.lit (.bool true)], args := [d1, d2, d3] }
  | _ => none }
def transferRestoredRow : OpenClaim := { program := "ytlejemnljojpgaa", sum := "4806502a2a7e4ceb37bde89ada70d662fc5daa5d7339af16c37d5cd433e752fd", func := "lacquer/lacquerlaw01.TransferRestored", spec := "transferRestored", unfollowed := true, recurses := true, plainKeys := false, apart := false }
def TransferRestoredSaid : Prop := transferRestoredRow.holds Try.pinned (OpenSpec.ofChange transferRestoredSpec)

/-- ITS FALSE NEIGHBOUR: 'it returns false'. Refute it at one input. -/
def transferRestoredWrong : ChangeSpec := { name := "transferRestored", fn := fun _ => fun
  | [d1, d2, d3] => { results := [.lit (.bool false)], args := [d1, d2, d3] }
  | _ => none }
def TransferRestoredWrongFalsely : Prop := transferRestoredRow.holds Try.pinned (OpenSpec.ofChange transferRestoredWrong)

/- THE SECOND FORM. 'bulk': how many values and letters a reading holds, each counted each time it is reached (what is shared counts as often as it is met; a slice's spare places count too). A statement '..UptoSaid' is the law's where the arguments, and the package variables that the reading takes, are together of bulk at most 1048576: NARROWER than '..Said'. Prove '..Said' where nothing that the law and all that it calls make is longer than what came in: it says more and counts as full. Else prove '..UptoSaid'. A law counts once. -/
mutual
def uptoBulk {H : Type} : DataW H → Nat
  | .lit (.string bytes) => bytes.length + 1
  | .lit _ => 1
  | .nil => 1
  | .ptr d => uptoBulk d + 1
  | .slice elems spare => uptoBulkAll elems + uptoBulkAll spare + 1
  | .agg parts => uptoBulkAll parts + 1
  | .iface _ d => uptoBulk d + 1
  | .map entries => uptoBulkEntries entries + 1
  | .held _ => 1
def uptoBulkAll {H : Type} : List (DataW H) → Nat
  | [] => 0
  | d :: r => uptoBulk d + uptoBulkAll r
def uptoBulkEntries {H : Type} : List (Lit × DataW H) → Nat
  | [] => 0
  | x :: r => uptoBulkEntry x + uptoBulkEntries r
def uptoBulkEntry {H : Type} : Lit × DataW H → Nat
  | (.string bytes, d) => bytes.length + uptoBulk d + 1
  | (_, d) => uptoBulk d + 1
 end
def uptoSmall : (H : Type) → List (DataW H) → Bool := fun _ ds => decide (uptoBulkAll ds ≤ 1048576)
def OpenSpec.upto (s : _root_.Go.ChangeSpec) : _root_.Go.OpenSpec := { _root_.Go.OpenSpec.ofChange s with cond := some uptoSmall }

/-- 'lacquerlaw01.TransferCarriers', WHERE WHAT IT READS IS OF BULK AT MOST 1048576: true; the input reads as it did. -/
def transferCarriersUptoRow : OpenClaim := { program := "ytlejemnljojpgaa", sum := "4806502a2a7e4ceb37bde89ada70d662fc5daa5d7339af16c37d5cd433e752fd", func := "lacquer/lacquerlaw01.TransferCarriers", spec := "transferCarriers", unfollowed := true, recurses := true, plainKeys := false, apart := false, narrowed := true }
def TransferCarriersUptoSaid : Prop := transferCarriersUptoRow.holds Try.pinned (OpenSpec.upto transferCarriersSpec)

/-- 'lacquerlaw01.TransferBlocks', WHERE WHAT IT READS IS OF BULK AT MOST 1048576: true; the input reads as it did. -/
def transferBlocksUptoRow : OpenClaim := { program := "ytlejemnljojpgaa", sum := "4806502a2a7e4ceb37bde89ada70d662fc5daa5d7339af16c37d5cd433e752fd", func := "lacquer/lacquerlaw01.TransferBlocks", spec := "transferBlocks", unfollowed := true, recurses := true, plainKeys := false, apart := false, narrowed := true }
def TransferBlocksUptoSaid : Prop := transferBlocksUptoRow.holds Try.pinned (OpenSpec.upto transferBlocksSpec)

/-- 'lacquerlaw01.TransferDamage', WHERE WHAT IT READS IS OF BULK AT MOST 1048576: true; the input reads as it did. -/
def transferDamageUptoRow : OpenClaim := { program := "ytlejemnljojpgaa", sum := "4806502a2a7e4ceb37bde89ada70d662fc5daa5d7339af16c37d5cd433e752fd", func := "lacquer/lacquerlaw01.TransferDamage", spec := "transferDamage", unfollowed := true, recurses := true, plainKeys := false, apart := false, narrowed := true }
def TransferDamageUptoSaid : Prop := transferDamageUptoRow.holds Try.pinned (OpenSpec.upto transferDamageSpec)

/-- 'lacquerlaw01.TransferPacks', WHERE WHAT IT READS IS OF BULK AT MOST 1048576: true; the input reads as it did. -/
def transferPacksUptoRow : OpenClaim := { program := "ytlejemnljojpgaa", sum := "4806502a2a7e4ceb37bde89ada70d662fc5daa5d7339af16c37d5cd433e752fd", func := "lacquer/lacquerlaw01.TransferPacks", spec := "transferPacks", unfollowed := true, recurses := true, plainKeys := false, apart := false, narrowed := true }
def TransferPacksUptoSaid : Prop := transferPacksUptoRow.holds Try.pinned (OpenSpec.upto transferPacksSpec)

/-- 'lacquerlaw01.TransferCuts', WHERE WHAT IT READS IS OF BULK AT MOST 1048576: true; the input reads as it did. -/
def transferCutsUptoRow : OpenClaim := { program := "ytlejemnljojpgaa", sum := "4806502a2a7e4ceb37bde89ada70d662fc5daa5d7339af16c37d5cd433e752fd", func := "lacquer/lacquerlaw01.TransferCuts", spec := "transferCuts", unfollowed := true, recurses := true, plainKeys := false, apart := false, narrowed := true }
def TransferCutsUptoSaid : Prop := transferCutsUptoRow.holds Try.pinned (OpenSpec.upto transferCutsSpec)

/-- 'lacquerlaw01.TransferParities', WHERE WHAT IT READS IS OF BULK AT MOST 1048576: true; the input reads as it did. -/
def transferParitiesUptoRow : OpenClaim := { program := "ytlejemnljojpgaa", sum := "4806502a2a7e4ceb37bde89ada70d662fc5daa5d7339af16c37d5cd433e752fd", func := "lacquer/lacquerlaw01.TransferParities", spec := "transferParities", unfollowed := true, recurses := true, plainKeys := false, apart := false, narrowed := true }
def TransferParitiesUptoSaid : Prop := transferParitiesUptoRow.holds Try.pinned (OpenSpec.upto transferParitiesSpec)

/-- 'lacquerlaw01.TransferUnpacks', WHERE WHAT IT READS IS OF BULK AT MOST 1048576: true; the input reads as it did. -/
def transferUnpacksUptoRow : OpenClaim := { program := "ytlejemnljojpgaa", sum := "4806502a2a7e4ceb37bde89ada70d662fc5daa5d7339af16c37d5cd433e752fd", func := "lacquer/lacquerlaw01.TransferUnpacks", spec := "transferUnpacks", unfollowed := true, recurses := true, plainKeys := false, apart := false, narrowed := true }
def TransferUnpacksUptoSaid : Prop := transferUnpacksUptoRow.holds Try.pinned (OpenSpec.upto transferUnpacksSpec)

/-- 'lacquerlaw01.TransferBitByBit', WHERE WHAT IT READS IS OF BULK AT MOST 1048576: true; the input reads as it did. -/
def transferBitByBitUptoRow : OpenClaim := { program := "ytlejemnljojpgaa", sum := "4806502a2a7e4ceb37bde89ada70d662fc5daa5d7339af16c37d5cd433e752fd", func := "lacquer/lacquerlaw01.TransferBitByBit", spec := "transferBitByBit", unfollowed := true, recurses := true, plainKeys := false, apart := false, narrowed := true }
def TransferBitByBitUptoSaid : Prop := transferBitByBitUptoRow.holds Try.pinned (OpenSpec.upto transferBitByBitSpec)

/-- 'lacquerlaw01.TransferStreams', WHERE WHAT IT READS IS OF BULK AT MOST 1048576: true; the input reads as it did. -/
def transferStreamsUptoRow : OpenClaim := { program := "ytlejemnljojpgaa", sum := "4806502a2a7e4ceb37bde89ada70d662fc5daa5d7339af16c37d5cd433e752fd", func := "lacquer/lacquerlaw01.TransferStreams", spec := "transferStreams", unfollowed := true, recurses := true, plainKeys := false, apart := false, narrowed := true }
def TransferStreamsUptoSaid : Prop := transferStreamsUptoRow.holds Try.pinned (OpenSpec.upto transferStreamsSpec)

/-- 'lacquerlaw01.TransferTogether', WHERE WHAT IT READS IS OF BULK AT MOST 1048576: true; the input reads as it did. -/
def transferTogetherUptoRow : OpenClaim := { program := "ytlejemnljojpgaa", sum := "4806502a2a7e4ceb37bde89ada70d662fc5daa5d7339af16c37d5cd433e752fd", func := "lacquer/lacquerlaw01.TransferTogether", spec := "transferTogether", unfollowed := true, recurses := true, plainKeys := false, apart := false, narrowed := true }
def TransferTogetherUptoSaid : Prop := transferTogetherUptoRow.holds Try.pinned (OpenSpec.upto transferTogetherSpec)

/-- 'lacquerlaw01.TransferGroups', WHERE WHAT IT READS IS OF BULK AT MOST 1048576: true; the input reads as it did. -/
def transferGroupsUptoRow : OpenClaim := { program := "ytlejemnljojpgaa", sum := "4806502a2a7e4ceb37bde89ada70d662fc5daa5d7339af16c37d5cd433e752fd", func := "lacquer/lacquerlaw01.TransferGroups", spec := "transferGroups", unfollowed := true, recurses := true, plainKeys := false, apart := false, narrowed := true }
def TransferGroupsUptoSaid : Prop := transferGroupsUptoRow.holds Try.pinned (OpenSpec.upto transferGroupsSpec)

/-- 'lacquerlaw01.TransferRestored', WHERE WHAT IT READS IS OF BULK AT MOST 1048576: true; the input reads as it did. -/
def transferRestoredUptoRow : OpenClaim := { program := "ytlejemnljojpgaa", sum := "4806502a2a7e4ceb37bde89ada70d662fc5daa5d7339af16c37d5cd433e752fd", func := "lacquer/lacquerlaw01.TransferRestored", spec := "transferRestored", unfollowed := true, recurses := true, plainKeys := false, apart := false, narrowed := true }
def TransferRestoredUptoSaid : Prop := transferRestoredUptoRow.holds Try.pinned (OpenSpec.upto transferRestoredSpec)

end Rows
end Go.Proofs.Ytlejemnljojpgaa
