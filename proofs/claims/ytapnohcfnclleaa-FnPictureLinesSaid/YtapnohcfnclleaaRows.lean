/-
  No cell of these rows narrows 'for every input' (looked for: loops, veiled, ifaces, maps, wideKeys, modest, calm, conditions, laid).
  DERIVED. THE GIVEN ROWS OF THIS SEAT. 11 by the template 'for every input the law returns true; each argument reads behind the call as it read before'; 0 by the template 'total and deterministic' (their statements: YtapnohcfnclleaaTotals.lean).
  GIVEN WITH THE SEED: the statements are not yours to turn. If you find one false, say at which input.
  Laid BY PROGRAM, IN A SANDBOX (cutbox-rows.mjs): the forced cells as the released guide's own fill.sh prints them over the translation 897311e7f79797c1… (all of the seat's roots in one cut). By AI agents, Wed Nov 11 2026. No macro, syntax, notation, axiom, sorry.
-/
import Derived.Test.YtapnohcfnclleaaChecked
import GoSem.Claim
import GoSem.ClaimJoined
import GoSem.ClaimMapViews
import Derived.JoinedTies
import Derived.KernelRfl
namespace Go.Proofs.Ytapnohcfnclleaa
/- THE CELL 'sum', in the pinned program and in every row, IS THE sha256 OF THE DUMP (.gsa) THAT YtapnohcfnclleaaProg.lean LOADS. Nothing in Lean hashes anything: it is a label: what it is worth is what the hold of that sum in a sandbox is worth. -/
noncomputable def Try.pinned : Pinned := { name := "ytapnohcfnclleaa", sum := "897311e7f79797c190f695563b7e42ff08ff7e8874f69ba796a522bf29c651c4", checked := Try.checked }
namespace Rows
def none {H : Type} : Left H := { results := [], args := [] }

/-- 'laws.FnPictureLines': WHATEVER THE INPUT: true; the input reads as it did. -/
def fnPictureLinesSpec : ChangeSpec := { name := "fnPictureLines", fn := fun _ => fun
  | [d] => { results := [.lit (.bool true)], args := [d] }
  | _ => none }
def fnPictureLinesRow : OpenClaim := { program := "ytapnohcfnclleaa", sum := "897311e7f79797c190f695563b7e42ff08ff7e8874f69ba796a522bf29c651c4", func := "loop.example/gridpuzzles/laws.FnPictureLines", spec := "fnPictureLines", unfollowed := true, recurses := true, apart := false }
def FnPictureLinesSaid : Prop := fnPictureLinesRow.holds Try.pinned (OpenSpec.ofChange fnPictureLinesSpec)

/-- ITS FALSE NEIGHBOUR: 'it returns false'. Refute it at one input. -/
def fnPictureLinesWrong : ChangeSpec := { name := "fnPictureLines", fn := fun _ => fun
  | [d] => { results := [.lit (.bool false)], args := [d] }
  | _ => none }
def FnPictureLinesWrongFalsely : Prop := fnPictureLinesRow.holds Try.pinned (OpenSpec.ofChange fnPictureLinesWrong)

/-- 'laws.FnExactPictureValid': WHATEVER THE INPUT: true; the input reads as it did. -/
def fnExactPictureValidSpec : ChangeSpec := { name := "fnExactPictureValid", fn := fun _ => fun
  | [d] => { results := [.lit (.bool true)], args := [d] }
  | _ => none }
def fnExactPictureValidRow : OpenClaim := { program := "ytapnohcfnclleaa", sum := "897311e7f79797c190f695563b7e42ff08ff7e8874f69ba796a522bf29c651c4", func := "loop.example/gridpuzzles/laws.FnExactPictureValid", spec := "fnExactPictureValid", apart := false }
def FnExactPictureValidSaid : Prop := fnExactPictureValidRow.holds Try.pinned (OpenSpec.ofChange fnExactPictureValidSpec)

/-- ITS FALSE NEIGHBOUR: 'it returns false'. Refute it at one input. -/
def fnExactPictureValidWrong : ChangeSpec := { name := "fnExactPictureValid", fn := fun _ => fun
  | [d] => { results := [.lit (.bool false)], args := [d] }
  | _ => none }
def FnExactPictureValidWrongFalsely : Prop := fnExactPictureValidRow.holds Try.pinned (OpenSpec.ofChange fnExactPictureValidWrong)

/-- 'laws.FnPictureValid': WHATEVER THE INPUT: true; the input reads as it did. -/
def fnPictureValidSpec : ChangeSpec := { name := "fnPictureValid", fn := fun _ => fun
  | [d] => { results := [.lit (.bool true)], args := [d] }
  | _ => none }
def fnPictureValidRow : OpenClaim := { program := "ytapnohcfnclleaa", sum := "897311e7f79797c190f695563b7e42ff08ff7e8874f69ba796a522bf29c651c4", func := "loop.example/gridpuzzles/laws.FnPictureValid", spec := "fnPictureValid", apart := false }
def FnPictureValidSaid : Prop := fnPictureValidRow.holds Try.pinned (OpenSpec.ofChange fnPictureValidSpec)

/-- ITS FALSE NEIGHBOUR: 'it returns false'. Refute it at one input. -/
def fnPictureValidWrong : ChangeSpec := { name := "fnPictureValid", fn := fun _ => fun
  | [d] => { results := [.lit (.bool false)], args := [d] }
  | _ => none }
def FnPictureValidWrongFalsely : Prop := fnPictureValidRow.holds Try.pinned (OpenSpec.ofChange fnPictureValidWrong)

/-- 'laws.FnExactPictureOf': WHATEVER THE INPUT: true; the input reads as it did. -/
def fnExactPictureOfSpec : ChangeSpec := { name := "fnExactPictureOf", fn := fun _ => fun
  | [d] => { results := [.lit (.bool true)], args := [d] }
  | _ => none }
def fnExactPictureOfRow : OpenClaim := { program := "ytapnohcfnclleaa", sum := "897311e7f79797c190f695563b7e42ff08ff7e8874f69ba796a522bf29c651c4", func := "loop.example/gridpuzzles/laws.FnExactPictureOf", spec := "fnExactPictureOf", apart := false }
def FnExactPictureOfSaid : Prop := fnExactPictureOfRow.holds Try.pinned (OpenSpec.ofChange fnExactPictureOfSpec)

/-- ITS FALSE NEIGHBOUR: 'it returns false'. Refute it at one input. -/
def fnExactPictureOfWrong : ChangeSpec := { name := "fnExactPictureOf", fn := fun _ => fun
  | [d] => { results := [.lit (.bool false)], args := [d] }
  | _ => none }
def FnExactPictureOfWrongFalsely : Prop := fnExactPictureOfRow.holds Try.pinned (OpenSpec.ofChange fnExactPictureOfWrong)

/-- 'laws.FnPictureOf': WHATEVER THE INPUT: true; the input reads as it did. -/
def fnPictureOfSpec : ChangeSpec := { name := "fnPictureOf", fn := fun _ => fun
  | [d] => { results := [.lit (.bool true)], args := [d] }
  | _ => none }
def fnPictureOfRow : OpenClaim := { program := "ytapnohcfnclleaa", sum := "897311e7f79797c190f695563b7e42ff08ff7e8874f69ba796a522bf29c651c4", func := "loop.example/gridpuzzles/laws.FnPictureOf", spec := "fnPictureOf", unfollowed := true, recurses := true, apart := false }
def FnPictureOfSaid : Prop := fnPictureOfRow.holds Try.pinned (OpenSpec.ofChange fnPictureOfSpec)

/-- ITS FALSE NEIGHBOUR: 'it returns false'. Refute it at one input. -/
def fnPictureOfWrong : ChangeSpec := { name := "fnPictureOf", fn := fun _ => fun
  | [d] => { results := [.lit (.bool false)], args := [d] }
  | _ => none }
def FnPictureOfWrongFalsely : Prop := fnPictureOfRow.holds Try.pinned (OpenSpec.ofChange fnPictureOfWrong)

/-- 'laws.FnExactPictureCount': WHATEVER THE INPUT: true; the input reads as it did. -/
def fnExactPictureCountSpec : ChangeSpec := { name := "fnExactPictureCount", fn := fun _ => fun
  | [d1, d2] => { results := [.lit (.bool true)], args := [d1, d2] }
  | _ => none }
def fnExactPictureCountRow : OpenClaim := { program := "ytapnohcfnclleaa", sum := "897311e7f79797c190f695563b7e42ff08ff7e8874f69ba796a522bf29c651c4", func := "loop.example/gridpuzzles/laws.FnExactPictureCount", spec := "fnExactPictureCount", unfollowed := true, recurses := true, apart := false }
def FnExactPictureCountSaid : Prop := fnExactPictureCountRow.holds Try.pinned (OpenSpec.ofChange fnExactPictureCountSpec)

/-- ITS FALSE NEIGHBOUR: 'it returns false'. Refute it at one input. -/
def fnExactPictureCountWrong : ChangeSpec := { name := "fnExactPictureCount", fn := fun _ => fun
  | [d1, d2] => { results := [.lit (.bool false)], args := [d1, d2] }
  | _ => none }
def FnExactPictureCountWrongFalsely : Prop := fnExactPictureCountRow.holds Try.pinned (OpenSpec.ofChange fnExactPictureCountWrong)

/-- 'laws.FnPictureTurned': WHATEVER THE INPUT: true; the input reads as it did. -/
def fnPictureTurnedSpec : ChangeSpec := { name := "fnPictureTurned", fn := fun _ => fun
  | [d] => { results := [.lit (.bool true)], args := [d] }
  | _ => none }
def fnPictureTurnedRow : OpenClaim := { program := "ytapnohcfnclleaa", sum := "897311e7f79797c190f695563b7e42ff08ff7e8874f69ba796a522bf29c651c4", func := "loop.example/gridpuzzles/laws.FnPictureTurned", spec := "fnPictureTurned", unfollowed := true, recurses := true, apart := false }
def FnPictureTurnedSaid : Prop := fnPictureTurnedRow.holds Try.pinned (OpenSpec.ofChange fnPictureTurnedSpec)

/-- ITS FALSE NEIGHBOUR: 'it returns false'. Refute it at one input. -/
def fnPictureTurnedWrong : ChangeSpec := { name := "fnPictureTurned", fn := fun _ => fun
  | [d] => { results := [.lit (.bool false)], args := [d] }
  | _ => none }
def FnPictureTurnedWrongFalsely : Prop := fnPictureTurnedRow.holds Try.pinned (OpenSpec.ofChange fnPictureTurnedWrong)

/-- 'laws.FnPictureCount': WHATEVER THE INPUT: true; the input reads as it did. -/
def fnPictureCountSpec : ChangeSpec := { name := "fnPictureCount", fn := fun _ => fun
  | [d] => { results := [.lit (.bool true)], args := [d] }
  | _ => none }
def fnPictureCountRow : OpenClaim := { program := "ytapnohcfnclleaa", sum := "897311e7f79797c190f695563b7e42ff08ff7e8874f69ba796a522bf29c651c4", func := "loop.example/gridpuzzles/laws.FnPictureCount", spec := "fnPictureCount", unfollowed := true, recurses := true, apart := false }
def FnPictureCountSaid : Prop := fnPictureCountRow.holds Try.pinned (OpenSpec.ofChange fnPictureCountSpec)

/-- ITS FALSE NEIGHBOUR: 'it returns false'. Refute it at one input. -/
def fnPictureCountWrong : ChangeSpec := { name := "fnPictureCount", fn := fun _ => fun
  | [d] => { results := [.lit (.bool false)], args := [d] }
  | _ => none }
def FnPictureCountWrongFalsely : Prop := fnPictureCountRow.holds Try.pinned (OpenSpec.ofChange fnPictureCountWrong)

/-- 'laws.FnExactPictureLines': WHATEVER THE INPUT: true; the input reads as it did. -/
def fnExactPictureLinesSpec : ChangeSpec := { name := "fnExactPictureLines", fn := fun _ => fun
  | [d] => { results := [.lit (.bool true)], args := [d] }
  | _ => none }
def fnExactPictureLinesRow : OpenClaim := { program := "ytapnohcfnclleaa", sum := "897311e7f79797c190f695563b7e42ff08ff7e8874f69ba796a522bf29c651c4", func := "loop.example/gridpuzzles/laws.FnExactPictureLines", spec := "fnExactPictureLines", apart := false }
def FnExactPictureLinesSaid : Prop := fnExactPictureLinesRow.holds Try.pinned (OpenSpec.ofChange fnExactPictureLinesSpec)

/-- ITS FALSE NEIGHBOUR: 'it returns false'. Refute it at one input. -/
def fnExactPictureLinesWrong : ChangeSpec := { name := "fnExactPictureLines", fn := fun _ => fun
  | [d] => { results := [.lit (.bool false)], args := [d] }
  | _ => none }
def FnExactPictureLinesWrongFalsely : Prop := fnExactPictureLinesRow.holds Try.pinned (OpenSpec.ofChange fnExactPictureLinesWrong)

/-- 'laws.FnPictureFirst': WHATEVER THE INPUT: true; the input reads as it did. -/
def fnPictureFirstSpec : ChangeSpec := { name := "fnPictureFirst", fn := fun _ => fun
  | [d] => { results := [.lit (.bool true)], args := [d] }
  | _ => none }
def fnPictureFirstRow : OpenClaim := { program := "ytapnohcfnclleaa", sum := "897311e7f79797c190f695563b7e42ff08ff7e8874f69ba796a522bf29c651c4", func := "loop.example/gridpuzzles/laws.FnPictureFirst", spec := "fnPictureFirst", unfollowed := true, recurses := true, apart := false }
def FnPictureFirstSaid : Prop := fnPictureFirstRow.holds Try.pinned (OpenSpec.ofChange fnPictureFirstSpec)

/-- ITS FALSE NEIGHBOUR: 'it returns false'. Refute it at one input. -/
def fnPictureFirstWrong : ChangeSpec := { name := "fnPictureFirst", fn := fun _ => fun
  | [d] => { results := [.lit (.bool false)], args := [d] }
  | _ => none }
def FnPictureFirstWrongFalsely : Prop := fnPictureFirstRow.holds Try.pinned (OpenSpec.ofChange fnPictureFirstWrong)

/-- 'laws.FnExactPictureFirst': WHATEVER THE INPUT: true; the input reads as it did. -/
def fnExactPictureFirstSpec : ChangeSpec := { name := "fnExactPictureFirst", fn := fun _ => fun
  | [d] => { results := [.lit (.bool true)], args := [d] }
  | _ => none }
def fnExactPictureFirstRow : OpenClaim := { program := "ytapnohcfnclleaa", sum := "897311e7f79797c190f695563b7e42ff08ff7e8874f69ba796a522bf29c651c4", func := "loop.example/gridpuzzles/laws.FnExactPictureFirst", spec := "fnExactPictureFirst", unfollowed := true, recurses := true, apart := false }
def FnExactPictureFirstSaid : Prop := fnExactPictureFirstRow.holds Try.pinned (OpenSpec.ofChange fnExactPictureFirstSpec)

/-- ITS FALSE NEIGHBOUR: 'it returns false'. Refute it at one input. -/
def fnExactPictureFirstWrong : ChangeSpec := { name := "fnExactPictureFirst", fn := fun _ => fun
  | [d] => { results := [.lit (.bool false)], args := [d] }
  | _ => none }
def FnExactPictureFirstWrongFalsely : Prop := fnExactPictureFirstRow.holds Try.pinned (OpenSpec.ofChange fnExactPictureFirstWrong)

/- THE SECOND FORM. 'bulk': how many values and letters a reading holds, each counted each time it is reached (what is shared counts as often as it is met; a slice's spare places count too). A statement '..UptoSaid' is the law's where the arguments, and the package variables that the reading takes, are together of bulk at most 1048576: NARROWER than '..Said'. Prove '..Said' where nothing that the law and all that it calls make is longer than what came in: it says more and counts as full. Else prove '..UptoSaid'. A law counts once. -/
mutual
def uptoBulk {H : Type} : DataW H → Nat
  | .lit (.string bytes) => bytes.length + 1
  | .lit _ => 1
  | .nil => 1
  | .ptr d => uptoBulk d + 1
  | .slice elems spare => uptoBulkAll elems + uptoBulkAll spare + 1
  | .agg parts => uptoBulkAll parts + 1
  | .iface _ d => uptoBulk d + 1
  | .map entries => uptoBulkEntries entries + 1
  | .held _ => 1
def uptoBulkAll {H : Type} : List (DataW H) → Nat
  | [] => 0
  | d :: r => uptoBulk d + uptoBulkAll r
def uptoBulkEntries {H : Type} : List (Lit × DataW H) → Nat
  | [] => 0
  | x :: r => uptoBulkEntry x + uptoBulkEntries r
def uptoBulkEntry {H : Type} : Lit × DataW H → Nat
  | (.string bytes, d) => bytes.length + uptoBulk d + 1
  | (_, d) => uptoBulk d + 1
 end
def uptoSmall : (H : Type) → List (DataW H) → Bool := fun _ ds => decide (uptoBulkAll ds ≤ 1048576)
def OpenSpec.upto (s : _root_.Go.ChangeSpec) : _root_.Go.OpenSpec := { _root_.Go.OpenSpec.ofChange s with cond := some uptoSmall }

/-- 'laws.FnPictureLines', WHERE WHAT IT READS IS OF BULK AT MOST 1048576: true; the input reads as it did. -/
def fnPictureLinesUptoRow : OpenClaim := { program := "ytapnohcfnclleaa", sum := "897311e7f79797c190f695563b7e42ff08ff7e8874f69ba796a522bf29c651c4", func := "loop.example/gridpuzzles/laws.FnPictureLines", spec := "fnPictureLines", unfollowed := true, recurses := true, apart := false, narrowed := true }
def FnPictureLinesUptoSaid : Prop := fnPictureLinesUptoRow.holds Try.pinned (OpenSpec.upto fnPictureLinesSpec)

/-- 'laws.FnExactPictureValid', WHERE WHAT IT READS IS OF BULK AT MOST 1048576: true; the input reads as it did. -/
def fnExactPictureValidUptoRow : OpenClaim := { program := "ytapnohcfnclleaa", sum := "897311e7f79797c190f695563b7e42ff08ff7e8874f69ba796a522bf29c651c4", func := "loop.example/gridpuzzles/laws.FnExactPictureValid", spec := "fnExactPictureValid", apart := false, narrowed := true }
def FnExactPictureValidUptoSaid : Prop := fnExactPictureValidUptoRow.holds Try.pinned (OpenSpec.upto fnExactPictureValidSpec)

/-- 'laws.FnPictureValid', WHERE WHAT IT READS IS OF BULK AT MOST 1048576: true; the input reads as it did. -/
def fnPictureValidUptoRow : OpenClaim := { program := "ytapnohcfnclleaa", sum := "897311e7f79797c190f695563b7e42ff08ff7e8874f69ba796a522bf29c651c4", func := "loop.example/gridpuzzles/laws.FnPictureValid", spec := "fnPictureValid", apart := false, narrowed := true }
def FnPictureValidUptoSaid : Prop := fnPictureValidUptoRow.holds Try.pinned (OpenSpec.upto fnPictureValidSpec)

/-- 'laws.FnExactPictureOf', WHERE WHAT IT READS IS OF BULK AT MOST 1048576: true; the input reads as it did. -/
def fnExactPictureOfUptoRow : OpenClaim := { program := "ytapnohcfnclleaa", sum := "897311e7f79797c190f695563b7e42ff08ff7e8874f69ba796a522bf29c651c4", func := "loop.example/gridpuzzles/laws.FnExactPictureOf", spec := "fnExactPictureOf", apart := false, narrowed := true }
def FnExactPictureOfUptoSaid : Prop := fnExactPictureOfUptoRow.holds Try.pinned (OpenSpec.upto fnExactPictureOfSpec)

/-- 'laws.FnPictureOf', WHERE WHAT IT READS IS OF BULK AT MOST 1048576: true; the input reads as it did. -/
def fnPictureOfUptoRow : OpenClaim := { program := "ytapnohcfnclleaa", sum := "897311e7f79797c190f695563b7e42ff08ff7e8874f69ba796a522bf29c651c4", func := "loop.example/gridpuzzles/laws.FnPictureOf", spec := "fnPictureOf", unfollowed := true, recurses := true, apart := false, narrowed := true }
def FnPictureOfUptoSaid : Prop := fnPictureOfUptoRow.holds Try.pinned (OpenSpec.upto fnPictureOfSpec)

/-- 'laws.FnExactPictureCount', WHERE WHAT IT READS IS OF BULK AT MOST 1048576: true; the input reads as it did. -/
def fnExactPictureCountUptoRow : OpenClaim := { program := "ytapnohcfnclleaa", sum := "897311e7f79797c190f695563b7e42ff08ff7e8874f69ba796a522bf29c651c4", func := "loop.example/gridpuzzles/laws.FnExactPictureCount", spec := "fnExactPictureCount", unfollowed := true, recurses := true, apart := false, narrowed := true }
def FnExactPictureCountUptoSaid : Prop := fnExactPictureCountUptoRow.holds Try.pinned (OpenSpec.upto fnExactPictureCountSpec)

/-- 'laws.FnPictureTurned', WHERE WHAT IT READS IS OF BULK AT MOST 1048576: true; the input reads as it did. -/
def fnPictureTurnedUptoRow : OpenClaim := { program := "ytapnohcfnclleaa", sum := "897311e7f79797c190f695563b7e42ff08ff7e8874f69ba796a522bf29c651c4", func := "loop.example/gridpuzzles/laws.FnPictureTurned", spec := "fnPictureTurned", unfollowed := true, recurses := true, apart := false, narrowed := true }
def FnPictureTurnedUptoSaid : Prop := fnPictureTurnedUptoRow.holds Try.pinned (OpenSpec.upto fnPictureTurnedSpec)

/-- 'laws.FnPictureCount', WHERE WHAT IT READS IS OF BULK AT MOST 1048576: true; the input reads as it did. -/
def fnPictureCountUptoRow : OpenClaim := { program := "ytapnohcfnclleaa", sum := "897311e7f79797c190f695563b7e42ff08ff7e8874f69ba796a522bf29c651c4", func := "loop.example/gridpuzzles/laws.FnPictureCount", spec := "fnPictureCount", unfollowed := true, recurses := true, apart := false, narrowed := true }
def FnPictureCountUptoSaid : Prop := fnPictureCountUptoRow.holds Try.pinned (OpenSpec.upto fnPictureCountSpec)

/-- 'laws.FnExactPictureLines', WHERE WHAT IT READS IS OF BULK AT MOST 1048576: true; the input reads as it did. -/
def fnExactPictureLinesUptoRow : OpenClaim := { program := "ytapnohcfnclleaa", sum := "897311e7f79797c190f695563b7e42ff08ff7e8874f69ba796a522bf29c651c4", func := "loop.example/gridpuzzles/laws.FnExactPictureLines", spec := "fnExactPictureLines", apart := false, narrowed := true }
def FnExactPictureLinesUptoSaid : Prop := fnExactPictureLinesUptoRow.holds Try.pinned (OpenSpec.upto fnExactPictureLinesSpec)

/-- 'laws.FnPictureFirst', WHERE WHAT IT READS IS OF BULK AT MOST 1048576: true; the input reads as it did. -/
def fnPictureFirstUptoRow : OpenClaim := { program := "ytapnohcfnclleaa", sum := "897311e7f79797c190f695563b7e42ff08ff7e8874f69ba796a522bf29c651c4", func := "loop.example/gridpuzzles/laws.FnPictureFirst", spec := "fnPictureFirst", unfollowed := true, recurses := true, apart := false, narrowed := true }
def FnPictureFirstUptoSaid : Prop := fnPictureFirstUptoRow.holds Try.pinned (OpenSpec.upto fnPictureFirstSpec)

/-- 'laws.FnExactPictureFirst', WHERE WHAT IT READS IS OF BULK AT MOST 1048576: true; the input reads as it did. -/
def fnExactPictureFirstUptoRow : OpenClaim := { program := "ytapnohcfnclleaa", sum := "897311e7f79797c190f695563b7e42ff08ff7e8874f69ba796a522bf29c651c4", func := "loop.example/gridpuzzles/laws.FnExactPictureFirst", spec := "fnExactPictureFirst", unfollowed := true, recurses := true, apart := false, narrowed := true }
def FnExactPictureFirstUptoSaid : Prop := fnExactPictureFirstUptoRow.holds Try.pinned (OpenSpec.upto fnExactPictureFirstSpec)

end Rows
end Go.Proofs.Ytapnohcfnclleaa
