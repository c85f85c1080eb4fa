/-
  No cell of these rows narrows 'for every input' (looked for: loops, veiled, ifaces, maps, wideKeys, modest, calm, conditions, laid).
  DERIVED. THE GIVEN ROWS OF THIS SEAT. 12 by the template 'for every input the law returns true; each argument reads behind the call as it read before'; 0 by the template 'total and deterministic' (their statements: YtnmlcbdbbnaabaaTotals.lean).
  GIVEN WITH THE SEED: the statements are not yours to turn. If you find one false, say at which input.
  Laid BY PROGRAM, IN A SANDBOX (cutbox-rows.mjs): the forced cells as the released guide's own fill.sh prints them over the translation e0e74e436a23b523… (all of the seat's roots in one cut). By AI agents, Wed Nov 11 2026. No macro, syntax, notation, axiom, sorry.
-/
import Derived.Test.YtnmlcbdbbnaabaaChecked
import GoSem.Claim
import GoSem.ClaimJoined
import GoSem.ClaimMapViews
import Derived.JoinedTies
import Derived.KernelRfl
namespace Go.Proofs.Ytnmlcbdbbnaabaa
/- THE CELL 'sum', in the pinned program and in every row, IS THE sha256 OF THE DUMP (.gsa) THAT YtnmlcbdbbnaabaaProg.lean LOADS. Nothing in Lean hashes anything: it is a label: what it is worth is what the hold of that sum in a sandbox is worth. -/
noncomputable def Try.pinned : Pinned := { name := "ytnmlcbdbbnaabaa", sum := "e0e74e436a23b52395346bbcfb8a1d0dcff586903eaf7b78cf1fb5bfd3a4518e", checked := Try.checked }
namespace Rows
def none {H : Type} : Left H := { results := [], args := [] }

/-- 'laws.FnExactKnownValid': WHATEVER THE INPUT: true; the input reads as it did. -/
def fnExactKnownValidSpec : ChangeSpec := { name := "fnExactKnownValid", fn := fun _ => fun
  | [d] => { results := [.lit (.bool true)], args := [d] }
  | _ => none }
def fnExactKnownValidRow : OpenClaim := { program := "ytnmlcbdbbnaabaa", sum := "e0e74e436a23b52395346bbcfb8a1d0dcff586903eaf7b78cf1fb5bfd3a4518e", func := "loop.example/gridpuzzles/laws.FnExactKnownValid", spec := "fnExactKnownValid", apart := false }
def FnExactKnownValidSaid : Prop := fnExactKnownValidRow.holds Try.pinned (OpenSpec.ofChange fnExactKnownValidSpec)

/-- ITS FALSE NEIGHBOUR: 'it returns false'. Refute it at one input. -/
def fnExactKnownValidWrong : ChangeSpec := { name := "fnExactKnownValid", fn := fun _ => fun
  | [d] => { results := [.lit (.bool false)], args := [d] }
  | _ => none }
def FnExactKnownValidWrongFalsely : Prop := fnExactKnownValidRow.holds Try.pinned (OpenSpec.ofChange fnExactKnownValidWrong)

/-- 'laws.FnExactClueValid': WHATEVER THE INPUT: true; the input reads as it did. -/
def fnExactClueValidSpec : ChangeSpec := { name := "fnExactClueValid", fn := fun _ => fun
  | [d1, d2] => { results := [.lit (.bool true)], args := [d1, d2] }
  | _ => none }
def fnExactClueValidRow : OpenClaim := { program := "ytnmlcbdbbnaabaa", sum := "e0e74e436a23b52395346bbcfb8a1d0dcff586903eaf7b78cf1fb5bfd3a4518e", func := "loop.example/gridpuzzles/laws.FnExactClueValid", spec := "fnExactClueValid", apart := false }
def FnExactClueValidSaid : Prop := fnExactClueValidRow.holds Try.pinned (OpenSpec.ofChange fnExactClueValidSpec)

/-- ITS FALSE NEIGHBOUR: 'it returns false'. Refute it at one input. -/
def fnExactClueValidWrong : ChangeSpec := { name := "fnExactClueValid", fn := fun _ => fun
  | [d1, d2] => { results := [.lit (.bool false)], args := [d1, d2] }
  | _ => none }
def FnExactClueValidWrongFalsely : Prop := fnExactClueValidRow.holds Try.pinned (OpenSpec.ofChange fnExactClueValidWrong)

/-- 'laws.FnExactClueOf': WHATEVER THE INPUT: true; the input reads as it did. -/
def fnExactClueOfSpec : ChangeSpec := { name := "fnExactClueOf", fn := fun _ => fun
  | [d] => { results := [.lit (.bool true)], args := [d] }
  | _ => none }
def fnExactClueOfRow : OpenClaim := { program := "ytnmlcbdbbnaabaa", sum := "e0e74e436a23b52395346bbcfb8a1d0dcff586903eaf7b78cf1fb5bfd3a4518e", func := "loop.example/gridpuzzles/laws.FnExactClueOf", spec := "fnExactClueOf", apart := false }
def FnExactClueOfSaid : Prop := fnExactClueOfRow.holds Try.pinned (OpenSpec.ofChange fnExactClueOfSpec)

/-- ITS FALSE NEIGHBOUR: 'it returns false'. Refute it at one input. -/
def fnExactClueOfWrong : ChangeSpec := { name := "fnExactClueOf", fn := fun _ => fun
  | [d] => { results := [.lit (.bool false)], args := [d] }
  | _ => none }
def FnExactClueOfWrongFalsely : Prop := fnExactClueOfRow.holds Try.pinned (OpenSpec.ofChange fnExactClueOfWrong)

/-- 'laws.FnKnownValid': WHATEVER THE INPUT: true; the input reads as it did. -/
def fnKnownValidSpec : ChangeSpec := { name := "fnKnownValid", fn := fun _ => fun
  | [d] => { results := [.lit (.bool true)], args := [d] }
  | _ => none }
def fnKnownValidRow : OpenClaim := { program := "ytnmlcbdbbnaabaa", sum := "e0e74e436a23b52395346bbcfb8a1d0dcff586903eaf7b78cf1fb5bfd3a4518e", func := "loop.example/gridpuzzles/laws.FnKnownValid", spec := "fnKnownValid", apart := false }
def FnKnownValidSaid : Prop := fnKnownValidRow.holds Try.pinned (OpenSpec.ofChange fnKnownValidSpec)

/-- ITS FALSE NEIGHBOUR: 'it returns false'. Refute it at one input. -/
def fnKnownValidWrong : ChangeSpec := { name := "fnKnownValid", fn := fun _ => fun
  | [d] => { results := [.lit (.bool false)], args := [d] }
  | _ => none }
def FnKnownValidWrongFalsely : Prop := fnKnownValidRow.holds Try.pinned (OpenSpec.ofChange fnKnownValidWrong)

/-- 'laws.FnClueOf': WHATEVER THE INPUT: true; the input reads as it did. -/
def fnClueOfSpec : ChangeSpec := { name := "fnClueOf", fn := fun _ => fun
  | [d] => { results := [.lit (.bool true)], args := [d] }
  | _ => none }
def fnClueOfRow : OpenClaim := { program := "ytnmlcbdbbnaabaa", sum := "e0e74e436a23b52395346bbcfb8a1d0dcff586903eaf7b78cf1fb5bfd3a4518e", func := "loop.example/gridpuzzles/laws.FnClueOf", spec := "fnClueOf", apart := false }
def FnClueOfSaid : Prop := fnClueOfRow.holds Try.pinned (OpenSpec.ofChange fnClueOfSpec)

/-- ITS FALSE NEIGHBOUR: 'it returns false'. Refute it at one input. -/
def fnClueOfWrong : ChangeSpec := { name := "fnClueOf", fn := fun _ => fun
  | [d] => { results := [.lit (.bool false)], args := [d] }
  | _ => none }
def FnClueOfWrongFalsely : Prop := fnClueOfRow.holds Try.pinned (OpenSpec.ofChange fnClueOfWrong)

/-- 'laws.FnClueValid': WHATEVER THE INPUT: true; the input reads as it did. -/
def fnClueValidSpec : ChangeSpec := { name := "fnClueValid", fn := fun _ => fun
  | [d] => { results := [.lit (.bool true)], args := [d] }
  | _ => none }
def fnClueValidRow : OpenClaim := { program := "ytnmlcbdbbnaabaa", sum := "e0e74e436a23b52395346bbcfb8a1d0dcff586903eaf7b78cf1fb5bfd3a4518e", func := "loop.example/gridpuzzles/laws.FnClueValid", spec := "fnClueValid", apart := false }
def FnClueValidSaid : Prop := fnClueValidRow.holds Try.pinned (OpenSpec.ofChange fnClueValidSpec)

/-- ITS FALSE NEIGHBOUR: 'it returns false'. Refute it at one input. -/
def fnClueValidWrong : ChangeSpec := { name := "fnClueValid", fn := fun _ => fun
  | [d] => { results := [.lit (.bool false)], args := [d] }
  | _ => none }
def FnClueValidWrongFalsely : Prop := fnClueValidRow.holds Try.pinned (OpenSpec.ofChange fnClueValidWrong)

/-- 'laws.FnExactLineWays': WHATEVER THE INPUT: true; the input reads as it did. -/
def fnExactLineWaysSpec : ChangeSpec := { name := "fnExactLineWays", fn := fun _ => fun
  | [d1, d2] => { results := [.lit (.bool true)], args := [d1, d2] }
  | _ => none }
def fnExactLineWaysRow : OpenClaim := { program := "ytnmlcbdbbnaabaa", sum := "e0e74e436a23b52395346bbcfb8a1d0dcff586903eaf7b78cf1fb5bfd3a4518e", func := "loop.example/gridpuzzles/laws.FnExactLineWays", spec := "fnExactLineWays", apart := false }
def FnExactLineWaysSaid : Prop := fnExactLineWaysRow.holds Try.pinned (OpenSpec.ofChange fnExactLineWaysSpec)

/-- ITS FALSE NEIGHBOUR: 'it returns false'. Refute it at one input. -/
def fnExactLineWaysWrong : ChangeSpec := { name := "fnExactLineWays", fn := fun _ => fun
  | [d1, d2] => { results := [.lit (.bool false)], args := [d1, d2] }
  | _ => none }
def FnExactLineWaysWrongFalsely : Prop := fnExactLineWaysRow.holds Try.pinned (OpenSpec.ofChange fnExactLineWaysWrong)

/-- 'laws.FnLineClue': WHATEVER THE INPUT: true; the input reads as it did. -/
def fnLineClueSpec : ChangeSpec := { name := "fnLineClue", fn := fun _ => fun
  | [d] => { results := [.lit (.bool true)], args := [d] }
  | _ => none }
def fnLineClueRow : OpenClaim := { program := "ytnmlcbdbbnaabaa", sum := "e0e74e436a23b52395346bbcfb8a1d0dcff586903eaf7b78cf1fb5bfd3a4518e", func := "loop.example/gridpuzzles/laws.FnLineClue", spec := "fnLineClue", apart := false }
def FnLineClueSaid : Prop := fnLineClueRow.holds Try.pinned (OpenSpec.ofChange fnLineClueSpec)

/-- ITS FALSE NEIGHBOUR: 'it returns false'. Refute it at one input. -/
def fnLineClueWrong : ChangeSpec := { name := "fnLineClue", fn := fun _ => fun
  | [d] => { results := [.lit (.bool false)], args := [d] }
  | _ => none }
def FnLineClueWrongFalsely : Prop := fnLineClueRow.holds Try.pinned (OpenSpec.ofChange fnLineClueWrong)

/-- 'laws.FnExactLineForced': WHATEVER THE INPUT: true; the input reads as it did. -/
def fnExactLineForcedSpec : ChangeSpec := { name := "fnExactLineForced", fn := fun _ => fun
  | [d1, d2] => { results := [.lit (.bool true)], args := [d1, d2] }
  | _ => none }
def fnExactLineForcedRow : OpenClaim := { program := "ytnmlcbdbbnaabaa", sum := "e0e74e436a23b52395346bbcfb8a1d0dcff586903eaf7b78cf1fb5bfd3a4518e", func := "loop.example/gridpuzzles/laws.FnExactLineForced", spec := "fnExactLineForced", apart := false }
def FnExactLineForcedSaid : Prop := fnExactLineForcedRow.holds Try.pinned (OpenSpec.ofChange fnExactLineForcedSpec)

/-- ITS FALSE NEIGHBOUR: 'it returns false'. Refute it at one input. -/
def fnExactLineForcedWrong : ChangeSpec := { name := "fnExactLineForced", fn := fun _ => fun
  | [d1, d2] => { results := [.lit (.bool false)], args := [d1, d2] }
  | _ => none }
def FnExactLineForcedWrongFalsely : Prop := fnExactLineForcedRow.holds Try.pinned (OpenSpec.ofChange fnExactLineForcedWrong)

/-- 'laws.FnLineWays': WHATEVER THE INPUT: true; the input reads as it did. -/
def fnLineWaysSpec : ChangeSpec := { name := "fnLineWays", fn := fun _ => fun
  | [d] => { results := [.lit (.bool true)], args := [d] }
  | _ => none }
def fnLineWaysRow : OpenClaim := { program := "ytnmlcbdbbnaabaa", sum := "e0e74e436a23b52395346bbcfb8a1d0dcff586903eaf7b78cf1fb5bfd3a4518e", func := "loop.example/gridpuzzles/laws.FnLineWays", spec := "fnLineWays", apart := false }
def FnLineWaysSaid : Prop := fnLineWaysRow.holds Try.pinned (OpenSpec.ofChange fnLineWaysSpec)

/-- ITS FALSE NEIGHBOUR: 'it returns false'. Refute it at one input. -/
def fnLineWaysWrong : ChangeSpec := { name := "fnLineWays", fn := fun _ => fun
  | [d] => { results := [.lit (.bool false)], args := [d] }
  | _ => none }
def FnLineWaysWrongFalsely : Prop := fnLineWaysRow.holds Try.pinned (OpenSpec.ofChange fnLineWaysWrong)

/-- 'laws.FnForcedAgain': WHATEVER THE INPUT: true; the input reads as it did. -/
def fnForcedAgainSpec : ChangeSpec := { name := "fnForcedAgain", fn := fun _ => fun
  | [d] => { results := [.lit (.bool true)], args := [d] }
  | _ => none }
def fnForcedAgainRow : OpenClaim := { program := "ytnmlcbdbbnaabaa", sum := "e0e74e436a23b52395346bbcfb8a1d0dcff586903eaf7b78cf1fb5bfd3a4518e", func := "loop.example/gridpuzzles/laws.FnForcedAgain", spec := "fnForcedAgain", apart := false }
def FnForcedAgainSaid : Prop := fnForcedAgainRow.holds Try.pinned (OpenSpec.ofChange fnForcedAgainSpec)

/-- ITS FALSE NEIGHBOUR: 'it returns false'. Refute it at one input. -/
def fnForcedAgainWrong : ChangeSpec := { name := "fnForcedAgain", fn := fun _ => fun
  | [d] => { results := [.lit (.bool false)], args := [d] }
  | _ => none }
def FnForcedAgainWrongFalsely : Prop := fnForcedAgainRow.holds Try.pinned (OpenSpec.ofChange fnForcedAgainWrong)

/-- 'laws.FnLineForced': WHATEVER THE INPUT: true; the input reads as it did. -/
def fnLineForcedSpec : ChangeSpec := { name := "fnLineForced", fn := fun _ => fun
  | [d] => { results := [.lit (.bool true)], args := [d] }
  | _ => none }
def fnLineForcedRow : OpenClaim := { program := "ytnmlcbdbbnaabaa", sum := "e0e74e436a23b52395346bbcfb8a1d0dcff586903eaf7b78cf1fb5bfd3a4518e", func := "loop.example/gridpuzzles/laws.FnLineForced", spec := "fnLineForced", apart := false }
def FnLineForcedSaid : Prop := fnLineForcedRow.holds Try.pinned (OpenSpec.ofChange fnLineForcedSpec)

/-- ITS FALSE NEIGHBOUR: 'it returns false'. Refute it at one input. -/
def fnLineForcedWrong : ChangeSpec := { name := "fnLineForced", fn := fun _ => fun
  | [d] => { results := [.lit (.bool false)], args := [d] }
  | _ => none }
def FnLineForcedWrongFalsely : Prop := fnLineForcedRow.holds Try.pinned (OpenSpec.ofChange fnLineForcedWrong)

/- THE SECOND FORM. 'bulk': how many values and letters a reading holds, each counted each time it is reached (what is shared counts as often as it is met; a slice's spare places count too). A statement '..UptoSaid' is the law's where the arguments, and the package variables that the reading takes, are together of bulk at most 1048576: NARROWER than '..Said'. Prove '..Said' where nothing that the law and all that it calls make is longer than what came in: it says more and counts as full. Else prove '..UptoSaid'. A law counts once. -/
mutual
def uptoBulk {H : Type} : DataW H → Nat
  | .lit (.string bytes) => bytes.length + 1
  | .lit _ => 1
  | .nil => 1
  | .ptr d => uptoBulk d + 1
  | .slice elems spare => uptoBulkAll elems + uptoBulkAll spare + 1
  | .agg parts => uptoBulkAll parts + 1
  | .iface _ d => uptoBulk d + 1
  | .map entries => uptoBulkEntries entries + 1
  | .held _ => 1
def uptoBulkAll {H : Type} : List (DataW H) → Nat
  | [] => 0
  | d :: r => uptoBulk d + uptoBulkAll r
def uptoBulkEntries {H : Type} : List (Lit × DataW H) → Nat
  | [] => 0
  | x :: r => uptoBulkEntry x + uptoBulkEntries r
def uptoBulkEntry {H : Type} : Lit × DataW H → Nat
  | (.string bytes, d) => bytes.length + uptoBulk d + 1
  | (_, d) => uptoBulk d + 1
 end
def uptoSmall : (H : Type) → List (DataW H) → Bool := fun _ ds => decide (uptoBulkAll ds ≤ 1048576)
def OpenSpec.upto (s : _root_.Go.ChangeSpec) : _root_.Go.OpenSpec := { _root_.Go.OpenSpec.ofChange s with cond := some uptoSmall }

/-- 'laws.FnExactKnownValid', WHERE WHAT IT READS IS OF BULK AT MOST 1048576: true; the input reads as it did. -/
def fnExactKnownValidUptoRow : OpenClaim := { program := "ytnmlcbdbbnaabaa", sum := "e0e74e436a23b52395346bbcfb8a1d0dcff586903eaf7b78cf1fb5bfd3a4518e", func := "loop.example/gridpuzzles/laws.FnExactKnownValid", spec := "fnExactKnownValid", apart := false, narrowed := true }
def FnExactKnownValidUptoSaid : Prop := fnExactKnownValidUptoRow.holds Try.pinned (OpenSpec.upto fnExactKnownValidSpec)

/-- 'laws.FnExactClueValid', WHERE WHAT IT READS IS OF BULK AT MOST 1048576: true; the input reads as it did. -/
def fnExactClueValidUptoRow : OpenClaim := { program := "ytnmlcbdbbnaabaa", sum := "e0e74e436a23b52395346bbcfb8a1d0dcff586903eaf7b78cf1fb5bfd3a4518e", func := "loop.example/gridpuzzles/laws.FnExactClueValid", spec := "fnExactClueValid", apart := false, narrowed := true }
def FnExactClueValidUptoSaid : Prop := fnExactClueValidUptoRow.holds Try.pinned (OpenSpec.upto fnExactClueValidSpec)

/-- 'laws.FnExactClueOf', WHERE WHAT IT READS IS OF BULK AT MOST 1048576: true; the input reads as it did. -/
def fnExactClueOfUptoRow : OpenClaim := { program := "ytnmlcbdbbnaabaa", sum := "e0e74e436a23b52395346bbcfb8a1d0dcff586903eaf7b78cf1fb5bfd3a4518e", func := "loop.example/gridpuzzles/laws.FnExactClueOf", spec := "fnExactClueOf", apart := false, narrowed := true }
def FnExactClueOfUptoSaid : Prop := fnExactClueOfUptoRow.holds Try.pinned (OpenSpec.upto fnExactClueOfSpec)

/-- 'laws.FnKnownValid', WHERE WHAT IT READS IS OF BULK AT MOST 1048576: true; the input reads as it did. -/
def fnKnownValidUptoRow : OpenClaim := { program := "ytnmlcbdbbnaabaa", sum := "e0e74e436a23b52395346bbcfb8a1d0dcff586903eaf7b78cf1fb5bfd3a4518e", func := "loop.example/gridpuzzles/laws.FnKnownValid", spec := "fnKnownValid", apart := false, narrowed := true }
def FnKnownValidUptoSaid : Prop := fnKnownValidUptoRow.holds Try.pinned (OpenSpec.upto fnKnownValidSpec)

/-- 'laws.FnClueOf', WHERE WHAT IT READS IS OF BULK AT MOST 1048576: true; the input reads as it did. -/
def fnClueOfUptoRow : OpenClaim := { program := "ytnmlcbdbbnaabaa", sum := "e0e74e436a23b52395346bbcfb8a1d0dcff586903eaf7b78cf1fb5bfd3a4518e", func := "loop.example/gridpuzzles/laws.FnClueOf", spec := "fnClueOf", apart := false, narrowed := true }
def FnClueOfUptoSaid : Prop := fnClueOfUptoRow.holds Try.pinned (OpenSpec.upto fnClueOfSpec)

/-- 'laws.FnClueValid', WHERE WHAT IT READS IS OF BULK AT MOST 1048576: true; the input reads as it did. -/
def fnClueValidUptoRow : OpenClaim := { program := "ytnmlcbdbbnaabaa", sum := "e0e74e436a23b52395346bbcfb8a1d0dcff586903eaf7b78cf1fb5bfd3a4518e", func := "loop.example/gridpuzzles/laws.FnClueValid", spec := "fnClueValid", apart := false, narrowed := true }
def FnClueValidUptoSaid : Prop := fnClueValidUptoRow.holds Try.pinned (OpenSpec.upto fnClueValidSpec)

/-- 'laws.FnExactLineWays', WHERE WHAT IT READS IS OF BULK AT MOST 1048576: true; the input reads as it did. -/
def fnExactLineWaysUptoRow : OpenClaim := { program := "ytnmlcbdbbnaabaa", sum := "e0e74e436a23b52395346bbcfb8a1d0dcff586903eaf7b78cf1fb5bfd3a4518e", func := "loop.example/gridpuzzles/laws.FnExactLineWays", spec := "fnExactLineWays", apart := false, narrowed := true }
def FnExactLineWaysUptoSaid : Prop := fnExactLineWaysUptoRow.holds Try.pinned (OpenSpec.upto fnExactLineWaysSpec)

/-- 'laws.FnLineClue', WHERE WHAT IT READS IS OF BULK AT MOST 1048576: true; the input reads as it did. -/
def fnLineClueUptoRow : OpenClaim := { program := "ytnmlcbdbbnaabaa", sum := "e0e74e436a23b52395346bbcfb8a1d0dcff586903eaf7b78cf1fb5bfd3a4518e", func := "loop.example/gridpuzzles/laws.FnLineClue", spec := "fnLineClue", apart := false, narrowed := true }
def FnLineClueUptoSaid : Prop := fnLineClueUptoRow.holds Try.pinned (OpenSpec.upto fnLineClueSpec)

/-- 'laws.FnExactLineForced', WHERE WHAT IT READS IS OF BULK AT MOST 1048576: true; the input reads as it did. -/
def fnExactLineForcedUptoRow : OpenClaim := { program := "ytnmlcbdbbnaabaa", sum := "e0e74e436a23b52395346bbcfb8a1d0dcff586903eaf7b78cf1fb5bfd3a4518e", func := "loop.example/gridpuzzles/laws.FnExactLineForced", spec := "fnExactLineForced", apart := false, narrowed := true }
def FnExactLineForcedUptoSaid : Prop := fnExactLineForcedUptoRow.holds Try.pinned (OpenSpec.upto fnExactLineForcedSpec)

/-- 'laws.FnLineWays', WHERE WHAT IT READS IS OF BULK AT MOST 1048576: true; the input reads as it did. -/
def fnLineWaysUptoRow : OpenClaim := { program := "ytnmlcbdbbnaabaa", sum := "e0e74e436a23b52395346bbcfb8a1d0dcff586903eaf7b78cf1fb5bfd3a4518e", func := "loop.example/gridpuzzles/laws.FnLineWays", spec := "fnLineWays", apart := false, narrowed := true }
def FnLineWaysUptoSaid : Prop := fnLineWaysUptoRow.holds Try.pinned (OpenSpec.upto fnLineWaysSpec)

/-- 'laws.FnForcedAgain', WHERE WHAT IT READS IS OF BULK AT MOST 1048576: true; the input reads as it did. -/
def fnForcedAgainUptoRow : OpenClaim := { program := "ytnmlcbdbbnaabaa", sum := "e0e74e436a23b52395346bbcfb8a1d0dcff586903eaf7b78cf1fb5bfd3a4518e", func := "loop.example/gridpuzzles/laws.FnForcedAgain", spec := "fnForcedAgain", apart := false, narrowed := true }
def FnForcedAgainUptoSaid : Prop := fnForcedAgainUptoRow.holds Try.pinned (OpenSpec.upto fnForcedAgainSpec)

/-- 'laws.FnLineForced', WHERE WHAT IT READS IS OF BULK AT MOST 1048576: true; the input reads as it did. -/
def fnLineForcedUptoRow : OpenClaim := { program := "ytnmlcbdbbnaabaa", sum := "e0e74e436a23b52395346bbcfb8a1d0dcff586903eaf7b78cf1fb5bfd3a4518e", func := "loop.example/gridpuzzles/laws.FnLineForced", spec := "fnLineForced", apart := false, narrowed := true }
def FnLineForcedUptoSaid : Prop := fnLineForcedUptoRow.holds Try.pinned (OpenSpec.upto fnLineForcedSpec)

end Rows
end Go.Proofs.Ytnmlcbdbbnaabaa
