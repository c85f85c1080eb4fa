/-
  No cell of these rows narrows 'for every input' (looked for: loops, veiled, ifaces, maps, wideKeys, modest, calm, conditions, laid).
  DERIVED. THE GIVEN ROWS OF THIS SEAT. 12 by the template 'for every input the law returns true; each argument reads behind the call as it read before'; 0 by the template 'total and deterministic' (their statements: YtbnpdiahogigiaaTotals.lean).
  GIVEN WITH THE SEED: the statements are not yours to turn. If you find one false, say at which input.
  Laid BY PROGRAM, IN A SANDBOX (cutbox-rows.mjs): the forced cells as the released guide's own fill.sh prints them over the translation f82e5c17c2a499e0… (all of the seat's roots in one cut). By AI agents, Wed Nov 11 2026. No macro, syntax, notation, axiom, sorry.
-/
import Derived.Test.YtbnpdiahogigiaaChecked
import GoSem.Claim
import GoSem.ClaimJoined
import GoSem.ClaimMapViews
import Derived.JoinedTies
import Derived.KernelRfl
namespace Go.Proofs.Ytbnpdiahogigiaa
/- THE CELL 'sum', in the pinned program and in every row, IS THE sha256 OF THE DUMP (.gsa) THAT YtbnpdiahogigiaaProg.lean LOADS. Nothing in Lean hashes anything: it is a label: what it is worth is what the hold of that sum in a sandbox is worth. -/
noncomputable def Try.pinned : Pinned := { name := "ytbnpdiahogigiaa", sum := "f82e5c17c2a499e0f1b4e4f81ea90fe959860ae0b30cfe3ec16086d8e5c40bf5", checked := Try.checked }
namespace Rows
def none {H : Type} : Left H := { results := [], args := [] }

/-- 'laws.FnExactBoardValid': WHATEVER THE INPUT: true; the input reads as it did. -/
def fnExactBoardValidSpec : ChangeSpec := { name := "fnExactBoardValid", fn := fun _ => fun
  | [d] => { results := [.lit (.bool true)], args := [d] }
  | _ => none }
def fnExactBoardValidRow : OpenClaim := { program := "ytbnpdiahogigiaa", sum := "f82e5c17c2a499e0f1b4e4f81ea90fe959860ae0b30cfe3ec16086d8e5c40bf5", func := "loop.example/gridpuzzles/laws.FnExactBoardValid", spec := "fnExactBoardValid", apart := false }
def FnExactBoardValidSaid : Prop := fnExactBoardValidRow.holds Try.pinned (OpenSpec.ofChange fnExactBoardValidSpec)

/-- ITS FALSE NEIGHBOUR: 'it returns false'. Refute it at one input. -/
def fnExactBoardValidWrong : ChangeSpec := { name := "fnExactBoardValid", fn := fun _ => fun
  | [d] => { results := [.lit (.bool false)], args := [d] }
  | _ => none }
def FnExactBoardValidWrongFalsely : Prop := fnExactBoardValidRow.holds Try.pinned (OpenSpec.ofChange fnExactBoardValidWrong)

/-- 'laws.FnExactSumBounds': WHATEVER THE INPUT: true; the input reads as it did. -/
def fnExactSumBoundsSpec : ChangeSpec := { name := "fnExactSumBounds", fn := fun _ => fun
  | [d] => { results := [.lit (.bool true)], args := [d] }
  | _ => none }
def fnExactSumBoundsRow : OpenClaim := { program := "ytbnpdiahogigiaa", sum := "f82e5c17c2a499e0f1b4e4f81ea90fe959860ae0b30cfe3ec16086d8e5c40bf5", func := "loop.example/gridpuzzles/laws.FnExactSumBounds", spec := "fnExactSumBounds", apart := false }
def FnExactSumBoundsSaid : Prop := fnExactSumBoundsRow.holds Try.pinned (OpenSpec.ofChange fnExactSumBoundsSpec)

/-- ITS FALSE NEIGHBOUR: 'it returns false'. Refute it at one input. -/
def fnExactSumBoundsWrong : ChangeSpec := { name := "fnExactSumBounds", fn := fun _ => fun
  | [d] => { results := [.lit (.bool false)], args := [d] }
  | _ => none }
def FnExactSumBoundsWrongFalsely : Prop := fnExactSumBoundsRow.holds Try.pinned (OpenSpec.ofChange fnExactSumBoundsWrong)

/-- 'laws.FnExactAreasValid': WHATEVER THE INPUT: true; the input reads as it did. -/
def fnExactAreasValidSpec : ChangeSpec := { name := "fnExactAreasValid", fn := fun _ => fun
  | [d1, d2] => { results := [.lit (.bool true)], args := [d1, d2] }
  | _ => none }
def fnExactAreasValidRow : OpenClaim := { program := "ytbnpdiahogigiaa", sum := "f82e5c17c2a499e0f1b4e4f81ea90fe959860ae0b30cfe3ec16086d8e5c40bf5", func := "loop.example/gridpuzzles/laws.FnExactAreasValid", spec := "fnExactAreasValid", apart := false }
def FnExactAreasValidSaid : Prop := fnExactAreasValidRow.holds Try.pinned (OpenSpec.ofChange fnExactAreasValidSpec)

/-- ITS FALSE NEIGHBOUR: 'it returns false'. Refute it at one input. -/
def fnExactAreasValidWrong : ChangeSpec := { name := "fnExactAreasValid", fn := fun _ => fun
  | [d1, d2] => { results := [.lit (.bool false)], args := [d1, d2] }
  | _ => none }
def FnExactAreasValidWrongFalsely : Prop := fnExactAreasValidRow.holds Try.pinned (OpenSpec.ofChange fnExactAreasValidWrong)

/-- 'laws.FnExactSumCan': WHATEVER THE INPUT: true; the input reads as it did. -/
def fnExactSumCanSpec : ChangeSpec := { name := "fnExactSumCan", fn := fun _ => fun
  | [d1, d2] => { results := [.lit (.bool true)], args := [d1, d2] }
  | _ => none }
def fnExactSumCanRow : OpenClaim := { program := "ytbnpdiahogigiaa", sum := "f82e5c17c2a499e0f1b4e4f81ea90fe959860ae0b30cfe3ec16086d8e5c40bf5", func := "loop.example/gridpuzzles/laws.FnExactSumCan", spec := "fnExactSumCan", apart := false }
def FnExactSumCanSaid : Prop := fnExactSumCanRow.holds Try.pinned (OpenSpec.ofChange fnExactSumCanSpec)

/-- ITS FALSE NEIGHBOUR: 'it returns false'. Refute it at one input. -/
def fnExactSumCanWrong : ChangeSpec := { name := "fnExactSumCan", fn := fun _ => fun
  | [d1, d2] => { results := [.lit (.bool false)], args := [d1, d2] }
  | _ => none }
def FnExactSumCanWrongFalsely : Prop := fnExactSumCanRow.holds Try.pinned (OpenSpec.ofChange fnExactSumCanWrong)

/-- 'laws.FnExactSumMust': WHATEVER THE INPUT: true; the input reads as it did. -/
def fnExactSumMustSpec : ChangeSpec := { name := "fnExactSumMust", fn := fun _ => fun
  | [d1, d2] => { results := [.lit (.bool true)], args := [d1, d2] }
  | _ => none }
def fnExactSumMustRow : OpenClaim := { program := "ytbnpdiahogigiaa", sum := "f82e5c17c2a499e0f1b4e4f81ea90fe959860ae0b30cfe3ec16086d8e5c40bf5", func := "loop.example/gridpuzzles/laws.FnExactSumMust", spec := "fnExactSumMust", apart := false }
def FnExactSumMustSaid : Prop := fnExactSumMustRow.holds Try.pinned (OpenSpec.ofChange fnExactSumMustSpec)

/-- ITS FALSE NEIGHBOUR: 'it returns false'. Refute it at one input. -/
def fnExactSumMustWrong : ChangeSpec := { name := "fnExactSumMust", fn := fun _ => fun
  | [d1, d2] => { results := [.lit (.bool false)], args := [d1, d2] }
  | _ => none }
def FnExactSumMustWrongFalsely : Prop := fnExactSumMustRow.holds Try.pinned (OpenSpec.ofChange fnExactSumMustWrong)

/-- 'laws.FnExactSumSets': WHATEVER THE INPUT: true; the input reads as it did. -/
def fnExactSumSetsSpec : ChangeSpec := { name := "fnExactSumSets", fn := fun _ => fun
  | [d1, d2] => { results := [.lit (.bool true)], args := [d1, d2] }
  | _ => none }
def fnExactSumSetsRow : OpenClaim := { program := "ytbnpdiahogigiaa", sum := "f82e5c17c2a499e0f1b4e4f81ea90fe959860ae0b30cfe3ec16086d8e5c40bf5", func := "loop.example/gridpuzzles/laws.FnExactSumSets", spec := "fnExactSumSets", apart := false }
def FnExactSumSetsSaid : Prop := fnExactSumSetsRow.holds Try.pinned (OpenSpec.ofChange fnExactSumSetsSpec)

/-- ITS FALSE NEIGHBOUR: 'it returns false'. Refute it at one input. -/
def fnExactSumSetsWrong : ChangeSpec := { name := "fnExactSumSets", fn := fun _ => fun
  | [d1, d2] => { results := [.lit (.bool false)], args := [d1, d2] }
  | _ => none }
def FnExactSumSetsWrongFalsely : Prop := fnExactSumSetsRow.holds Try.pinned (OpenSpec.ofChange fnExactSumSetsWrong)

/-- 'laws.FnSumBounds': WHATEVER THE INPUT: true; the input reads as it did. -/
def fnSumBoundsSpec : ChangeSpec := { name := "fnSumBounds", fn := fun _ => fun
  | [d] => { results := [.lit (.bool true)], args := [d] }
  | _ => none }
def fnSumBoundsRow : OpenClaim := { program := "ytbnpdiahogigiaa", sum := "f82e5c17c2a499e0f1b4e4f81ea90fe959860ae0b30cfe3ec16086d8e5c40bf5", func := "loop.example/gridpuzzles/laws.FnSumBounds", spec := "fnSumBounds", apart := false }
def FnSumBoundsSaid : Prop := fnSumBoundsRow.holds Try.pinned (OpenSpec.ofChange fnSumBoundsSpec)

/-- ITS FALSE NEIGHBOUR: 'it returns false'. Refute it at one input. -/
def fnSumBoundsWrong : ChangeSpec := { name := "fnSumBounds", fn := fun _ => fun
  | [d] => { results := [.lit (.bool false)], args := [d] }
  | _ => none }
def FnSumBoundsWrongFalsely : Prop := fnSumBoundsRow.holds Try.pinned (OpenSpec.ofChange fnSumBoundsWrong)

/-- 'laws.FnSumSets': WHATEVER THE INPUT: true; the input reads as it did. -/
def fnSumSetsSpec : ChangeSpec := { name := "fnSumSets", fn := fun _ => fun
  | [d] => { results := [.lit (.bool true)], args := [d] }
  | _ => none }
def fnSumSetsRow : OpenClaim := { program := "ytbnpdiahogigiaa", sum := "f82e5c17c2a499e0f1b4e4f81ea90fe959860ae0b30cfe3ec16086d8e5c40bf5", func := "loop.example/gridpuzzles/laws.FnSumSets", spec := "fnSumSets", apart := false }
def FnSumSetsSaid : Prop := fnSumSetsRow.holds Try.pinned (OpenSpec.ofChange fnSumSetsSpec)

/-- ITS FALSE NEIGHBOUR: 'it returns false'. Refute it at one input. -/
def fnSumSetsWrong : ChangeSpec := { name := "fnSumSets", fn := fun _ => fun
  | [d] => { results := [.lit (.bool false)], args := [d] }
  | _ => none }
def FnSumSetsWrongFalsely : Prop := fnSumSetsRow.holds Try.pinned (OpenSpec.ofChange fnSumSetsWrong)

/-- 'laws.FnSumCan': WHATEVER THE INPUT: true; the input reads as it did. -/
def fnSumCanSpec : ChangeSpec := { name := "fnSumCan", fn := fun _ => fun
  | [d] => { results := [.lit (.bool true)], args := [d] }
  | _ => none }
def fnSumCanRow : OpenClaim := { program := "ytbnpdiahogigiaa", sum := "f82e5c17c2a499e0f1b4e4f81ea90fe959860ae0b30cfe3ec16086d8e5c40bf5", func := "loop.example/gridpuzzles/laws.FnSumCan", spec := "fnSumCan", apart := false }
def FnSumCanSaid : Prop := fnSumCanRow.holds Try.pinned (OpenSpec.ofChange fnSumCanSpec)

/-- ITS FALSE NEIGHBOUR: 'it returns false'. Refute it at one input. -/
def fnSumCanWrong : ChangeSpec := { name := "fnSumCan", fn := fun _ => fun
  | [d] => { results := [.lit (.bool false)], args := [d] }
  | _ => none }
def FnSumCanWrongFalsely : Prop := fnSumCanRow.holds Try.pinned (OpenSpec.ofChange fnSumCanWrong)

/-- 'laws.FnSumParts': WHATEVER THE INPUT: true; the input reads as it did. -/
def fnSumPartsSpec : ChangeSpec := { name := "fnSumParts", fn := fun _ => fun
  | [d] => { results := [.lit (.bool true)], args := [d] }
  | _ => none }
def fnSumPartsRow : OpenClaim := { program := "ytbnpdiahogigiaa", sum := "f82e5c17c2a499e0f1b4e4f81ea90fe959860ae0b30cfe3ec16086d8e5c40bf5", func := "loop.example/gridpuzzles/laws.FnSumParts", spec := "fnSumParts", apart := false }
def FnSumPartsSaid : Prop := fnSumPartsRow.holds Try.pinned (OpenSpec.ofChange fnSumPartsSpec)

/-- ITS FALSE NEIGHBOUR: 'it returns false'. Refute it at one input. -/
def fnSumPartsWrong : ChangeSpec := { name := "fnSumParts", fn := fun _ => fun
  | [d] => { results := [.lit (.bool false)], args := [d] }
  | _ => none }
def FnSumPartsWrongFalsely : Prop := fnSumPartsRow.holds Try.pinned (OpenSpec.ofChange fnSumPartsWrong)

/-- 'laws.FnBoardValid': WHATEVER THE INPUT: true; the input reads as it did. -/
def fnBoardValidSpec : ChangeSpec := { name := "fnBoardValid", fn := fun _ => fun
  | [d] => { results := [.lit (.bool true)], args := [d] }
  | _ => none }
def fnBoardValidRow : OpenClaim := { program := "ytbnpdiahogigiaa", sum := "f82e5c17c2a499e0f1b4e4f81ea90fe959860ae0b30cfe3ec16086d8e5c40bf5", func := "loop.example/gridpuzzles/laws.FnBoardValid", spec := "fnBoardValid", apart := false }
def FnBoardValidSaid : Prop := fnBoardValidRow.holds Try.pinned (OpenSpec.ofChange fnBoardValidSpec)

/-- ITS FALSE NEIGHBOUR: 'it returns false'. Refute it at one input. -/
def fnBoardValidWrong : ChangeSpec := { name := "fnBoardValid", fn := fun _ => fun
  | [d] => { results := [.lit (.bool false)], args := [d] }
  | _ => none }
def FnBoardValidWrongFalsely : Prop := fnBoardValidRow.holds Try.pinned (OpenSpec.ofChange fnBoardValidWrong)

/-- 'laws.FnAreasValid': WHATEVER THE INPUT: true; the input reads as it did. -/
def fnAreasValidSpec : ChangeSpec := { name := "fnAreasValid", fn := fun _ => fun
  | [d] => { results := [.lit (.bool true)], args := [d] }
  | _ => none }
def fnAreasValidRow : OpenClaim := { program := "ytbnpdiahogigiaa", sum := "f82e5c17c2a499e0f1b4e4f81ea90fe959860ae0b30cfe3ec16086d8e5c40bf5", func := "loop.example/gridpuzzles/laws.FnAreasValid", spec := "fnAreasValid", apart := false }
def FnAreasValidSaid : Prop := fnAreasValidRow.holds Try.pinned (OpenSpec.ofChange fnAreasValidSpec)

/-- ITS FALSE NEIGHBOUR: 'it returns false'. Refute it at one input. -/
def fnAreasValidWrong : ChangeSpec := { name := "fnAreasValid", fn := fun _ => fun
  | [d] => { results := [.lit (.bool false)], args := [d] }
  | _ => none }
def FnAreasValidWrongFalsely : Prop := fnAreasValidRow.holds Try.pinned (OpenSpec.ofChange fnAreasValidWrong)

/- THE SECOND FORM. 'bulk': how many values and letters a reading holds, each counted each time it is reached (what is shared counts as often as it is met; a slice's spare places count too). A statement '..UptoSaid' is the law's where the arguments, and the package variables that the reading takes, are together of bulk at most 1048576: NARROWER than '..Said'. Prove '..Said' where nothing that the law and all that it calls make is longer than what came in: it says more and counts as full. Else prove '..UptoSaid'. A law counts once. -/
mutual
def uptoBulk {H : Type} : DataW H → Nat
  | .lit (.string bytes) => bytes.length + 1
  | .lit _ => 1
  | .nil => 1
  | .ptr d => uptoBulk d + 1
  | .slice elems spare => uptoBulkAll elems + uptoBulkAll spare + 1
  | .agg parts => uptoBulkAll parts + 1
  | .iface _ d => uptoBulk d + 1
  | .map entries => uptoBulkEntries entries + 1
  | .held _ => 1
def uptoBulkAll {H : Type} : List (DataW H) → Nat
  | [] => 0
  | d :: r => uptoBulk d + uptoBulkAll r
def uptoBulkEntries {H : Type} : List (Lit × DataW H) → Nat
  | [] => 0
  | x :: r => uptoBulkEntry x + uptoBulkEntries r
def uptoBulkEntry {H : Type} : Lit × DataW H → Nat
  | (.string bytes, d) => bytes.length + uptoBulk d + 1
  | (_, d) => uptoBulk d + 1
 end
def uptoSmall : (H : Type) → List (DataW H) → Bool := fun _ ds => decide (uptoBulkAll ds ≤ 1048576)
def OpenSpec.upto (s : _root_.Go.ChangeSpec) : _root_.Go.OpenSpec := { _root_.Go.OpenSpec.ofChange s with cond := some uptoSmall }

/-- 'laws.FnExactBoardValid', WHERE WHAT IT READS IS OF BULK AT MOST 1048576: true; the input reads as it did. -/
def fnExactBoardValidUptoRow : OpenClaim := { program := "ytbnpdiahogigiaa", sum := "f82e5c17c2a499e0f1b4e4f81ea90fe959860ae0b30cfe3ec16086d8e5c40bf5", func := "loop.example/gridpuzzles/laws.FnExactBoardValid", spec := "fnExactBoardValid", apart := false, narrowed := true }
def FnExactBoardValidUptoSaid : Prop := fnExactBoardValidUptoRow.holds Try.pinned (OpenSpec.upto fnExactBoardValidSpec)

/-- 'laws.FnExactSumBounds', WHERE WHAT IT READS IS OF BULK AT MOST 1048576: true; the input reads as it did. -/
def fnExactSumBoundsUptoRow : OpenClaim := { program := "ytbnpdiahogigiaa", sum := "f82e5c17c2a499e0f1b4e4f81ea90fe959860ae0b30cfe3ec16086d8e5c40bf5", func := "loop.example/gridpuzzles/laws.FnExactSumBounds", spec := "fnExactSumBounds", apart := false, narrowed := true }
def FnExactSumBoundsUptoSaid : Prop := fnExactSumBoundsUptoRow.holds Try.pinned (OpenSpec.upto fnExactSumBoundsSpec)

/-- 'laws.FnExactAreasValid', WHERE WHAT IT READS IS OF BULK AT MOST 1048576: true; the input reads as it did. -/
def fnExactAreasValidUptoRow : OpenClaim := { program := "ytbnpdiahogigiaa", sum := "f82e5c17c2a499e0f1b4e4f81ea90fe959860ae0b30cfe3ec16086d8e5c40bf5", func := "loop.example/gridpuzzles/laws.FnExactAreasValid", spec := "fnExactAreasValid", apart := false, narrowed := true }
def FnExactAreasValidUptoSaid : Prop := fnExactAreasValidUptoRow.holds Try.pinned (OpenSpec.upto fnExactAreasValidSpec)

/-- 'laws.FnExactSumCan', WHERE WHAT IT READS IS OF BULK AT MOST 1048576: true; the input reads as it did. -/
def fnExactSumCanUptoRow : OpenClaim := { program := "ytbnpdiahogigiaa", sum := "f82e5c17c2a499e0f1b4e4f81ea90fe959860ae0b30cfe3ec16086d8e5c40bf5", func := "loop.example/gridpuzzles/laws.FnExactSumCan", spec := "fnExactSumCan", apart := false, narrowed := true }
def FnExactSumCanUptoSaid : Prop := fnExactSumCanUptoRow.holds Try.pinned (OpenSpec.upto fnExactSumCanSpec)

/-- 'laws.FnExactSumMust', WHERE WHAT IT READS IS OF BULK AT MOST 1048576: true; the input reads as it did. -/
def fnExactSumMustUptoRow : OpenClaim := { program := "ytbnpdiahogigiaa", sum := "f82e5c17c2a499e0f1b4e4f81ea90fe959860ae0b30cfe3ec16086d8e5c40bf5", func := "loop.example/gridpuzzles/laws.FnExactSumMust", spec := "fnExactSumMust", apart := false, narrowed := true }
def FnExactSumMustUptoSaid : Prop := fnExactSumMustUptoRow.holds Try.pinned (OpenSpec.upto fnExactSumMustSpec)

/-- 'laws.FnExactSumSets', WHERE WHAT IT READS IS OF BULK AT MOST 1048576: true; the input reads as it did. -/
def fnExactSumSetsUptoRow : OpenClaim := { program := "ytbnpdiahogigiaa", sum := "f82e5c17c2a499e0f1b4e4f81ea90fe959860ae0b30cfe3ec16086d8e5c40bf5", func := "loop.example/gridpuzzles/laws.FnExactSumSets", spec := "fnExactSumSets", apart := false, narrowed := true }
def FnExactSumSetsUptoSaid : Prop := fnExactSumSetsUptoRow.holds Try.pinned (OpenSpec.upto fnExactSumSetsSpec)

/-- 'laws.FnSumBounds', WHERE WHAT IT READS IS OF BULK AT MOST 1048576: true; the input reads as it did. -/
def fnSumBoundsUptoRow : OpenClaim := { program := "ytbnpdiahogigiaa", sum := "f82e5c17c2a499e0f1b4e4f81ea90fe959860ae0b30cfe3ec16086d8e5c40bf5", func := "loop.example/gridpuzzles/laws.FnSumBounds", spec := "fnSumBounds", apart := false, narrowed := true }
def FnSumBoundsUptoSaid : Prop := fnSumBoundsUptoRow.holds Try.pinned (OpenSpec.upto fnSumBoundsSpec)

/-- 'laws.FnSumSets', WHERE WHAT IT READS IS OF BULK AT MOST 1048576: true; the input reads as it did. -/
def fnSumSetsUptoRow : OpenClaim := { program := "ytbnpdiahogigiaa", sum := "f82e5c17c2a499e0f1b4e4f81ea90fe959860ae0b30cfe3ec16086d8e5c40bf5", func := "loop.example/gridpuzzles/laws.FnSumSets", spec := "fnSumSets", apart := false, narrowed := true }
def FnSumSetsUptoSaid : Prop := fnSumSetsUptoRow.holds Try.pinned (OpenSpec.upto fnSumSetsSpec)

/-- 'laws.FnSumCan', WHERE WHAT IT READS IS OF BULK AT MOST 1048576: true; the input reads as it did. -/
def fnSumCanUptoRow : OpenClaim := { program := "ytbnpdiahogigiaa", sum := "f82e5c17c2a499e0f1b4e4f81ea90fe959860ae0b30cfe3ec16086d8e5c40bf5", func := "loop.example/gridpuzzles/laws.FnSumCan", spec := "fnSumCan", apart := false, narrowed := true }
def FnSumCanUptoSaid : Prop := fnSumCanUptoRow.holds Try.pinned (OpenSpec.upto fnSumCanSpec)

/-- 'laws.FnSumParts', WHERE WHAT IT READS IS OF BULK AT MOST 1048576: true; the input reads as it did. -/
def fnSumPartsUptoRow : OpenClaim := { program := "ytbnpdiahogigiaa", sum := "f82e5c17c2a499e0f1b4e4f81ea90fe959860ae0b30cfe3ec16086d8e5c40bf5", func := "loop.example/gridpuzzles/laws.FnSumParts", spec := "fnSumParts", apart := false, narrowed := true }
def FnSumPartsUptoSaid : Prop := fnSumPartsUptoRow.holds Try.pinned (OpenSpec.upto fnSumPartsSpec)

/-- 'laws.FnBoardValid', WHERE WHAT IT READS IS OF BULK AT MOST 1048576: true; the input reads as it did. -/
def fnBoardValidUptoRow : OpenClaim := { program := "ytbnpdiahogigiaa", sum := "f82e5c17c2a499e0f1b4e4f81ea90fe959860ae0b30cfe3ec16086d8e5c40bf5", func := "loop.example/gridpuzzles/laws.FnBoardValid", spec := "fnBoardValid", apart := false, narrowed := true }
def FnBoardValidUptoSaid : Prop := fnBoardValidUptoRow.holds Try.pinned (OpenSpec.upto fnBoardValidSpec)

/-- 'laws.FnAreasValid', WHERE WHAT IT READS IS OF BULK AT MOST 1048576: true; the input reads as it did. -/
def fnAreasValidUptoRow : OpenClaim := { program := "ytbnpdiahogigiaa", sum := "f82e5c17c2a499e0f1b4e4f81ea90fe959860ae0b30cfe3ec16086d8e5c40bf5", func := "loop.example/gridpuzzles/laws.FnAreasValid", spec := "fnAreasValid", apart := false, narrowed := true }
def FnAreasValidUptoSaid : Prop := fnAreasValidUptoRow.holds Try.pinned (OpenSpec.upto fnAreasValidSpec)

end Rows
end Go.Proofs.Ytbnpdiahogigiaa
