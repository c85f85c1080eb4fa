/-
  No cell of these rows narrows 'for every input' (looked for: loops, veiled, ifaces, maps, wideKeys, modest, calm, conditions, laid).
  DERIVED. THE GIVEN ROWS OF THIS SEAT. 4 by the template 'for every input the law returns true; each argument reads behind the call as it read before'; 0 by the template 'total and deterministic' (their statements: YtbdkmkbkggnekaaTotals.lean).
  GIVEN WITH THE SEED: the statements are not yours to turn. If you find one false, say at which input.
  Laid BY PROGRAM, IN A SANDBOX (cutbox-rows.mjs): the forced cells as the released guide's own fill.sh prints them over the translation 499e31d984c81a44… (all of the seat's roots in one cut). By AI agents, Wed Nov 11 2026. No macro, syntax, notation, axiom, sorry.
-/
import Derived.Test.YtbdkmkbkggnekaaChecked
import GoSem.Claim
import GoSem.ClaimJoined
import GoSem.ClaimMapViews
import Derived.JoinedTies
import Derived.KernelRfl
namespace Go.Proofs.Ytbdkmkbkggnekaa
/- THE CELL 'sum', in the pinned program and in every row, IS THE sha256 OF THE DUMP (.gsa) THAT YtbdkmkbkggnekaaProg.lean LOADS. Nothing in Lean hashes anything: it is a label: what it is worth is what the hold of that sum in a sandbox is worth. -/
noncomputable def Try.pinned : Pinned := { name := "ytbdkmkbkggnekaa", sum := "499e31d984c81a440d506391cf4e1a277b46cbe3752f4a30206919e24acfbec6", checked := Try.checked }
namespace Rows
def none {H : Type} : Left H := { results := [], args := [] }

/-- 'laws.FnExactBoardColours': WHATEVER THE INPUT: true; the input reads as it did. -/
def fnExactBoardColoursSpec : ChangeSpec := { name := "fnExactBoardColours", fn := fun _ => fun
  | [d] => { results := [.lit (.bool true)], args := [d] }
  | _ => none }
def fnExactBoardColoursRow : OpenClaim := { program := "ytbdkmkbkggnekaa", sum := "499e31d984c81a440d506391cf4e1a277b46cbe3752f4a30206919e24acfbec6", func := "loop.example/gridpuzzles/laws.FnExactBoardColours", spec := "fnExactBoardColours", apart := false }
def FnExactBoardColoursSaid : Prop := fnExactBoardColoursRow.holds Try.pinned (OpenSpec.ofChange fnExactBoardColoursSpec)

/-- ITS FALSE NEIGHBOUR: 'it returns false'. Refute it at one input. -/
def fnExactBoardColoursWrong : ChangeSpec := { name := "fnExactBoardColours", fn := fun _ => fun
  | [d] => { results := [.lit (.bool false)], args := [d] }
  | _ => none }
def FnExactBoardColoursWrongFalsely : Prop := fnExactBoardColoursRow.holds Try.pinned (OpenSpec.ofChange fnExactBoardColoursWrong)

/-- 'laws.FnExactBoardFree': WHATEVER THE INPUT: true; the input reads as it did. -/
def fnExactBoardFreeSpec : ChangeSpec := { name := "fnExactBoardFree", fn := fun _ => fun
  | [d] => { results := [.lit (.bool true)], args := [d] }
  | _ => none }
def fnExactBoardFreeRow : OpenClaim := { program := "ytbdkmkbkggnekaa", sum := "499e31d984c81a440d506391cf4e1a277b46cbe3752f4a30206919e24acfbec6", func := "loop.example/gridpuzzles/laws.FnExactBoardFree", spec := "fnExactBoardFree", apart := false }
def FnExactBoardFreeSaid : Prop := fnExactBoardFreeRow.holds Try.pinned (OpenSpec.ofChange fnExactBoardFreeSpec)

/-- ITS FALSE NEIGHBOUR: 'it returns false'. Refute it at one input. -/
def fnExactBoardFreeWrong : ChangeSpec := { name := "fnExactBoardFree", fn := fun _ => fun
  | [d] => { results := [.lit (.bool false)], args := [d] }
  | _ => none }
def FnExactBoardFreeWrongFalsely : Prop := fnExactBoardFreeRow.holds Try.pinned (OpenSpec.ofChange fnExactBoardFreeWrong)

/-- 'laws.FnBoardColours': WHATEVER THE INPUT: true; the input reads as it did. -/
def fnBoardColoursSpec : ChangeSpec := { name := "fnBoardColours", fn := fun _ => fun
  | [d] => { results := [.lit (.bool true)], args := [d] }
  | _ => none }
def fnBoardColoursRow : OpenClaim := { program := "ytbdkmkbkggnekaa", sum := "499e31d984c81a440d506391cf4e1a277b46cbe3752f4a30206919e24acfbec6", func := "loop.example/gridpuzzles/laws.FnBoardColours", spec := "fnBoardColours", apart := false }
def FnBoardColoursSaid : Prop := fnBoardColoursRow.holds Try.pinned (OpenSpec.ofChange fnBoardColoursSpec)

/-- ITS FALSE NEIGHBOUR: 'it returns false'. Refute it at one input. -/
def fnBoardColoursWrong : ChangeSpec := { name := "fnBoardColours", fn := fun _ => fun
  | [d] => { results := [.lit (.bool false)], args := [d] }
  | _ => none }
def FnBoardColoursWrongFalsely : Prop := fnBoardColoursRow.holds Try.pinned (OpenSpec.ofChange fnBoardColoursWrong)

/-- 'laws.FnBoardFree': WHATEVER THE INPUT: true; the input reads as it did. -/
def fnBoardFreeSpec : ChangeSpec := { name := "fnBoardFree", fn := fun _ => fun
  | [d] => { results := [.lit (.bool true)], args := [d] }
  | _ => none }
def fnBoardFreeRow : OpenClaim := { program := "ytbdkmkbkggnekaa", sum := "499e31d984c81a440d506391cf4e1a277b46cbe3752f4a30206919e24acfbec6", func := "loop.example/gridpuzzles/laws.FnBoardFree", spec := "fnBoardFree", apart := false }
def FnBoardFreeSaid : Prop := fnBoardFreeRow.holds Try.pinned (OpenSpec.ofChange fnBoardFreeSpec)

/-- ITS FALSE NEIGHBOUR: 'it returns false'. Refute it at one input. -/
def fnBoardFreeWrong : ChangeSpec := { name := "fnBoardFree", fn := fun _ => fun
  | [d] => { results := [.lit (.bool false)], args := [d] }
  | _ => none }
def FnBoardFreeWrongFalsely : Prop := fnBoardFreeRow.holds Try.pinned (OpenSpec.ofChange fnBoardFreeWrong)

/- THE SECOND FORM. 'bulk': how many values and letters a reading holds, each counted each time it is reached (what is shared counts as often as it is met; a slice's spare places count too). A statement '..UptoSaid' is the law's where the arguments, and the package variables that the reading takes, are together of bulk at most 1048576: NARROWER than '..Said'. Prove '..Said' where nothing that the law and all that it calls make is longer than what came in: it says more and counts as full. Else prove '..UptoSaid'. A law counts once. -/
mutual
def uptoBulk {H : Type} : DataW H → Nat
  | .lit (.string bytes) => bytes.length + 1
  | .lit _ => 1
  | .nil => 1
  | .ptr d => uptoBulk d + 1
  | .slice elems spare => uptoBulkAll elems + uptoBulkAll spare + 1
  | .agg parts => uptoBulkAll parts + 1
  | .iface _ d => uptoBulk d + 1
  | .map entries => uptoBulkEntries entries + 1
  | .held _ => 1
def uptoBulkAll {H : Type} : List (DataW H) → Nat
  | [] => 0
  | d :: r => uptoBulk d + uptoBulkAll r
def uptoBulkEntries {H : Type} : List (Lit × DataW H) → Nat
  | [] => 0
  | x :: r => uptoBulkEntry x + uptoBulkEntries r
def uptoBulkEntry {H : Type} : Lit × DataW H → Nat
  | (.string bytes, d) => bytes.length + uptoBulk d + 1
  | (_, d) => uptoBulk d + 1
 end
def uptoSmall : (H : Type) → List (DataW H) → Bool := fun _ ds => decide (uptoBulkAll ds ≤ 1048576)
def OpenSpec.upto (s : _root_.Go.ChangeSpec) : _root_.Go.OpenSpec := { _root_.Go.OpenSpec.ofChange s with cond := some uptoSmall }

/-- 'laws.FnExactBoardColours', WHERE WHAT IT READS IS OF BULK AT MOST 1048576: true; the input reads as it did. -/
def fnExactBoardColoursUptoRow : OpenClaim := { program := "ytbdkmkbkggnekaa", sum := "499e31d984c81a440d506391cf4e1a277b46cbe3752f4a30206919e24acfbec6", func := "loop.example/gridpuzzles/laws.FnExactBoardColours", spec := "fnExactBoardColours", apart := false, narrowed := true }
def FnExactBoardColoursUptoSaid : Prop := fnExactBoardColoursUptoRow.holds Try.pinned (OpenSpec.upto fnExactBoardColoursSpec)

/-- 'laws.FnExactBoardFree', WHERE WHAT IT READS IS OF BULK AT MOST 1048576: true; the input reads as it did. -/
def fnExactBoardFreeUptoRow : OpenClaim := { program := "ytbdkmkbkggnekaa", sum := "499e31d984c81a440d506391cf4e1a277b46cbe3752f4a30206919e24acfbec6", func := "loop.example/gridpuzzles/laws.FnExactBoardFree", spec := "fnExactBoardFree", apart := false, narrowed := true }
def FnExactBoardFreeUptoSaid : Prop := fnExactBoardFreeUptoRow.holds Try.pinned (OpenSpec.upto fnExactBoardFreeSpec)

/-- 'laws.FnBoardColours', WHERE WHAT IT READS IS OF BULK AT MOST 1048576: true; the input reads as it did. -/
def fnBoardColoursUptoRow : OpenClaim := { program := "ytbdkmkbkggnekaa", sum := "499e31d984c81a440d506391cf4e1a277b46cbe3752f4a30206919e24acfbec6", func := "loop.example/gridpuzzles/laws.FnBoardColours", spec := "fnBoardColours", apart := false, narrowed := true }
def FnBoardColoursUptoSaid : Prop := fnBoardColoursUptoRow.holds Try.pinned (OpenSpec.upto fnBoardColoursSpec)

/-- 'laws.FnBoardFree', WHERE WHAT IT READS IS OF BULK AT MOST 1048576: true; the input reads as it did. -/
def fnBoardFreeUptoRow : OpenClaim := { program := "ytbdkmkbkggnekaa", sum := "499e31d984c81a440d506391cf4e1a277b46cbe3752f4a30206919e24acfbec6", func := "loop.example/gridpuzzles/laws.FnBoardFree", spec := "fnBoardFree", apart := false, narrowed := true }
def FnBoardFreeUptoSaid : Prop := fnBoardFreeUptoRow.holds Try.pinned (OpenSpec.upto fnBoardFreeSpec)

end Rows
end Go.Proofs.Ytbdkmkbkggnekaa
