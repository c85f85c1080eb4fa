/-
  No cell of these rows narrows 'for every input' (looked for: loops, veiled, ifaces, maps, wideKeys, modest, calm, conditions, laid).
  DERIVED. THE GIVEN ROWS OF THIS SEAT. 7 by the template 'for every input the law returns true; each argument reads behind the call as it read before'; 0 by the template 'total and deterministic' (their statements: YtcghheaelgjnfaaTotals.lean).
  GIVEN WITH THE SEED: the statements are not yours to turn. If you find one false, say at which input.
  Laid BY PROGRAM, IN A SANDBOX (cutbox-rows.mjs): the forced cells as the released guide's own fill.sh prints them over the translation 9ef9a7bebf8c2676… (all of the seat's roots in one cut). By AI agents, Wed Nov 11 2026. No macro, syntax, notation, axiom, sorry.
-/
import Derived.Test.YtcghheaelgjnfaaChecked
import GoSem.Claim
import GoSem.ClaimJoined
import GoSem.ClaimMapViews
import Derived.JoinedTies
import Derived.KernelRfl
namespace Go.Proofs.Ytcghheaelgjnfaa
/- THE CELL 'sum', in the pinned program and in every row, IS THE sha256 OF THE DUMP (.gsa) THAT YtcghheaelgjnfaaProg.lean LOADS. Nothing in Lean hashes anything: it is a label: what it is worth is what the hold of that sum in a sandbox is worth. -/
noncomputable def Try.pinned : Pinned := { name := "ytcghheaelgjnfaa", sum := "9ef9a7bebf8c26769f17ef521376b44d2117e7b6e3dabd9e8faedfa5363f3442", checked := Try.checked }
namespace Rows
def none {H : Type} : Left H := { results := [], args := [] }

/-- 'laws.FnExactStarsFit': WHATEVER THE INPUT: true; the input reads as it did. -/
def fnExactStarsFitSpec : ChangeSpec := { name := "fnExactStarsFit", fn := fun _ => fun
  | [d1, d2, d3] => { results := [.lit (.bool true)], args := [d1, d2, d3] }
  | _ => none }
def fnExactStarsFitRow : OpenClaim := { program := "ytcghheaelgjnfaa", sum := "9ef9a7bebf8c26769f17ef521376b44d2117e7b6e3dabd9e8faedfa5363f3442", func := "loop.example/gridpuzzles/laws.FnExactStarsFit", spec := "fnExactStarsFit", apart := false }
def FnExactStarsFitSaid : Prop := fnExactStarsFitRow.holds Try.pinned (OpenSpec.ofChange fnExactStarsFitSpec)

/-- ITS FALSE NEIGHBOUR: 'it returns false'. Refute it at one input. -/
def fnExactStarsFitWrong : ChangeSpec := { name := "fnExactStarsFit", fn := fun _ => fun
  | [d1, d2, d3] => { results := [.lit (.bool false)], args := [d1, d2, d3] }
  | _ => none }
def FnExactStarsFitWrongFalsely : Prop := fnExactStarsFitRow.holds Try.pinned (OpenSpec.ofChange fnExactStarsFitWrong)

/-- 'laws.FnExactStarsCount': WHATEVER THE INPUT: true; the input reads as it did. -/
def fnExactStarsCountSpec : ChangeSpec := { name := "fnExactStarsCount", fn := fun _ => fun
  | [d1, d2] => { results := [.lit (.bool true)], args := [d1, d2] }
  | _ => none }
def fnExactStarsCountRow : OpenClaim := { program := "ytcghheaelgjnfaa", sum := "9ef9a7bebf8c26769f17ef521376b44d2117e7b6e3dabd9e8faedfa5363f3442", func := "loop.example/gridpuzzles/laws.FnExactStarsCount", spec := "fnExactStarsCount", unfollowed := true, recurses := true, apart := false }
def FnExactStarsCountSaid : Prop := fnExactStarsCountRow.holds Try.pinned (OpenSpec.ofChange fnExactStarsCountSpec)

/-- ITS FALSE NEIGHBOUR: 'it returns false'. Refute it at one input. -/
def fnExactStarsCountWrong : ChangeSpec := { name := "fnExactStarsCount", fn := fun _ => fun
  | [d1, d2] => { results := [.lit (.bool false)], args := [d1, d2] }
  | _ => none }
def FnExactStarsCountWrongFalsely : Prop := fnExactStarsCountRow.holds Try.pinned (OpenSpec.ofChange fnExactStarsCountWrong)

/-- 'laws.FnExactStarsFirst': WHATEVER THE INPUT: true; the input reads as it did. -/
def fnExactStarsFirstSpec : ChangeSpec := { name := "fnExactStarsFirst", fn := fun _ => fun
  | [d1, d2] => { results := [.lit (.bool true)], args := [d1, d2] }
  | _ => none }
def fnExactStarsFirstRow : OpenClaim := { program := "ytcghheaelgjnfaa", sum := "9ef9a7bebf8c26769f17ef521376b44d2117e7b6e3dabd9e8faedfa5363f3442", func := "loop.example/gridpuzzles/laws.FnExactStarsFirst", spec := "fnExactStarsFirst", unfollowed := true, recurses := true, apart := false }
def FnExactStarsFirstSaid : Prop := fnExactStarsFirstRow.holds Try.pinned (OpenSpec.ofChange fnExactStarsFirstSpec)

/-- ITS FALSE NEIGHBOUR: 'it returns false'. Refute it at one input. -/
def fnExactStarsFirstWrong : ChangeSpec := { name := "fnExactStarsFirst", fn := fun _ => fun
  | [d1, d2] => { results := [.lit (.bool false)], args := [d1, d2] }
  | _ => none }
def FnExactStarsFirstWrongFalsely : Prop := fnExactStarsFirstRow.holds Try.pinned (OpenSpec.ofChange fnExactStarsFirstWrong)

/-- 'laws.FnStarsFit': WHATEVER THE INPUT: true; the input reads as it did. -/
def fnStarsFitSpec : ChangeSpec := { name := "fnStarsFit", fn := fun _ => fun
  | [d] => { results := [.lit (.bool true)], args := [d] }
  | _ => none }
def fnStarsFitRow : OpenClaim := { program := "ytcghheaelgjnfaa", sum := "9ef9a7bebf8c26769f17ef521376b44d2117e7b6e3dabd9e8faedfa5363f3442", func := "loop.example/gridpuzzles/laws.FnStarsFit", spec := "fnStarsFit", recurses := true, apart := false }
def FnStarsFitSaid : Prop := fnStarsFitRow.holds Try.pinned (OpenSpec.ofChange fnStarsFitSpec)

/-- ITS FALSE NEIGHBOUR: 'it returns false'. Refute it at one input. -/
def fnStarsFitWrong : ChangeSpec := { name := "fnStarsFit", fn := fun _ => fun
  | [d] => { results := [.lit (.bool false)], args := [d] }
  | _ => none }
def FnStarsFitWrongFalsely : Prop := fnStarsFitRow.holds Try.pinned (OpenSpec.ofChange fnStarsFitWrong)

/-- 'laws.FnStarsAreas': WHATEVER THE INPUT: true; the input reads as it did. -/
def fnStarsAreasSpec : ChangeSpec := { name := "fnStarsAreas", fn := fun _ => fun
  | [d] => { results := [.lit (.bool true)], args := [d] }
  | _ => none }
def fnStarsAreasRow : OpenClaim := { program := "ytcghheaelgjnfaa", sum := "9ef9a7bebf8c26769f17ef521376b44d2117e7b6e3dabd9e8faedfa5363f3442", func := "loop.example/gridpuzzles/laws.FnStarsAreas", spec := "fnStarsAreas", unfollowed := true, recurses := true, apart := false }
def FnStarsAreasSaid : Prop := fnStarsAreasRow.holds Try.pinned (OpenSpec.ofChange fnStarsAreasSpec)

/-- ITS FALSE NEIGHBOUR: 'it returns false'. Refute it at one input. -/
def fnStarsAreasWrong : ChangeSpec := { name := "fnStarsAreas", fn := fun _ => fun
  | [d] => { results := [.lit (.bool false)], args := [d] }
  | _ => none }
def FnStarsAreasWrongFalsely : Prop := fnStarsAreasRow.holds Try.pinned (OpenSpec.ofChange fnStarsAreasWrong)

/-- 'laws.FnStarsCount': WHATEVER THE INPUT: true; the input reads as it did. -/
def fnStarsCountSpec : ChangeSpec := { name := "fnStarsCount", fn := fun _ => fun
  | [d] => { results := [.lit (.bool true)], args := [d] }
  | _ => none }
def fnStarsCountRow : OpenClaim := { program := "ytcghheaelgjnfaa", sum := "9ef9a7bebf8c26769f17ef521376b44d2117e7b6e3dabd9e8faedfa5363f3442", func := "loop.example/gridpuzzles/laws.FnStarsCount", spec := "fnStarsCount", unfollowed := true, recurses := true, apart := false }
def FnStarsCountSaid : Prop := fnStarsCountRow.holds Try.pinned (OpenSpec.ofChange fnStarsCountSpec)

/-- ITS FALSE NEIGHBOUR: 'it returns false'. Refute it at one input. -/
def fnStarsCountWrong : ChangeSpec := { name := "fnStarsCount", fn := fun _ => fun
  | [d] => { results := [.lit (.bool false)], args := [d] }
  | _ => none }
def FnStarsCountWrongFalsely : Prop := fnStarsCountRow.holds Try.pinned (OpenSpec.ofChange fnStarsCountWrong)

/-- 'laws.FnStarsFirst': WHATEVER THE INPUT: true; the input reads as it did. -/
def fnStarsFirstSpec : ChangeSpec := { name := "fnStarsFirst", fn := fun _ => fun
  | [d] => { results := [.lit (.bool true)], args := [d] }
  | _ => none }
def fnStarsFirstRow : OpenClaim := { program := "ytcghheaelgjnfaa", sum := "9ef9a7bebf8c26769f17ef521376b44d2117e7b6e3dabd9e8faedfa5363f3442", func := "loop.example/gridpuzzles/laws.FnStarsFirst", spec := "fnStarsFirst", unfollowed := true, recurses := true, apart := false }
def FnStarsFirstSaid : Prop := fnStarsFirstRow.holds Try.pinned (OpenSpec.ofChange fnStarsFirstSpec)

/-- ITS FALSE NEIGHBOUR: 'it returns false'. Refute it at one input. -/
def fnStarsFirstWrong : ChangeSpec := { name := "fnStarsFirst", fn := fun _ => fun
  | [d] => { results := [.lit (.bool false)], args := [d] }
  | _ => none }
def FnStarsFirstWrongFalsely : Prop := fnStarsFirstRow.holds Try.pinned (OpenSpec.ofChange fnStarsFirstWrong)

/- THE SECOND FORM. 'bulk': how many values and letters a reading holds, each counted each time it is reached (what is shared counts as often as it is met; a slice's spare places count too). A statement '..UptoSaid' is the law's where the arguments, and the package variables that the reading takes, are together of bulk at most 1048576: NARROWER than '..Said'. Prove '..Said' where nothing that the law and all that it calls make is longer than what came in: it says more and counts as full. Else prove '..UptoSaid'. A law counts once. -/
mutual
def uptoBulk {H : Type} : DataW H → Nat
  | .lit (.string bytes) => bytes.length + 1
  | .lit _ => 1
  | .nil => 1
  | .ptr d => uptoBulk d + 1
  | .slice elems spare => uptoBulkAll elems + uptoBulkAll spare + 1
  | .agg parts => uptoBulkAll parts + 1
  | .iface _ d => uptoBulk d + 1
  | .map entries => uptoBulkEntries entries + 1
  | .held _ => 1
def uptoBulkAll {H : Type} : List (DataW H) → Nat
  | [] => 0
  | d :: r => uptoBulk d + uptoBulkAll r
def uptoBulkEntries {H : Type} : List (Lit × DataW H) → Nat
  | [] => 0
  | x :: r => uptoBulkEntry x + uptoBulkEntries r
def uptoBulkEntry {H : Type} : Lit × DataW H → Nat
  | (.string bytes, d) => bytes.length + uptoBulk d + 1
  | (_, d) => uptoBulk d + 1
 end
def uptoSmall : (H : Type) → List (DataW H) → Bool := fun _ ds => decide (uptoBulkAll ds ≤ 1048576)
def OpenSpec.upto (s : _root_.Go.ChangeSpec) : _root_.Go.OpenSpec := { _root_.Go.OpenSpec.ofChange s with cond := some uptoSmall }

/-- 'laws.FnExactStarsFit', WHERE WHAT IT READS IS OF BULK AT MOST 1048576: true; the input reads as it did. -/
def fnExactStarsFitUptoRow : OpenClaim := { program := "ytcghheaelgjnfaa", sum := "9ef9a7bebf8c26769f17ef521376b44d2117e7b6e3dabd9e8faedfa5363f3442", func := "loop.example/gridpuzzles/laws.FnExactStarsFit", spec := "fnExactStarsFit", apart := false, narrowed := true }
def FnExactStarsFitUptoSaid : Prop := fnExactStarsFitUptoRow.holds Try.pinned (OpenSpec.upto fnExactStarsFitSpec)

/-- 'laws.FnExactStarsCount', WHERE WHAT IT READS IS OF BULK AT MOST 1048576: true; the input reads as it did. -/
def fnExactStarsCountUptoRow : OpenClaim := { program := "ytcghheaelgjnfaa", sum := "9ef9a7bebf8c26769f17ef521376b44d2117e7b6e3dabd9e8faedfa5363f3442", func := "loop.example/gridpuzzles/laws.FnExactStarsCount", spec := "fnExactStarsCount", unfollowed := true, recurses := true, apart := false, narrowed := true }
def FnExactStarsCountUptoSaid : Prop := fnExactStarsCountUptoRow.holds Try.pinned (OpenSpec.upto fnExactStarsCountSpec)

/-- 'laws.FnExactStarsFirst', WHERE WHAT IT READS IS OF BULK AT MOST 1048576: true; the input reads as it did. -/
def fnExactStarsFirstUptoRow : OpenClaim := { program := "ytcghheaelgjnfaa", sum := "9ef9a7bebf8c26769f17ef521376b44d2117e7b6e3dabd9e8faedfa5363f3442", func := "loop.example/gridpuzzles/laws.FnExactStarsFirst", spec := "fnExactStarsFirst", unfollowed := true, recurses := true, apart := false, narrowed := true }
def FnExactStarsFirstUptoSaid : Prop := fnExactStarsFirstUptoRow.holds Try.pinned (OpenSpec.upto fnExactStarsFirstSpec)

/-- 'laws.FnStarsFit', WHERE WHAT IT READS IS OF BULK AT MOST 1048576: true; the input reads as it did. -/
def fnStarsFitUptoRow : OpenClaim := { program := "ytcghheaelgjnfaa", sum := "9ef9a7bebf8c26769f17ef521376b44d2117e7b6e3dabd9e8faedfa5363f3442", func := "loop.example/gridpuzzles/laws.FnStarsFit", spec := "fnStarsFit", recurses := true, apart := false, narrowed := true }
def FnStarsFitUptoSaid : Prop := fnStarsFitUptoRow.holds Try.pinned (OpenSpec.upto fnStarsFitSpec)

/-- 'laws.FnStarsAreas', WHERE WHAT IT READS IS OF BULK AT MOST 1048576: true; the input reads as it did. -/
def fnStarsAreasUptoRow : OpenClaim := { program := "ytcghheaelgjnfaa", sum := "9ef9a7bebf8c26769f17ef521376b44d2117e7b6e3dabd9e8faedfa5363f3442", func := "loop.example/gridpuzzles/laws.FnStarsAreas", spec := "fnStarsAreas", unfollowed := true, recurses := true, apart := false, narrowed := true }
def FnStarsAreasUptoSaid : Prop := fnStarsAreasUptoRow.holds Try.pinned (OpenSpec.upto fnStarsAreasSpec)

/-- 'laws.FnStarsCount', WHERE WHAT IT READS IS OF BULK AT MOST 1048576: true; the input reads as it did. -/
def fnStarsCountUptoRow : OpenClaim := { program := "ytcghheaelgjnfaa", sum := "9ef9a7bebf8c26769f17ef521376b44d2117e7b6e3dabd9e8faedfa5363f3442", func := "loop.example/gridpuzzles/laws.FnStarsCount", spec := "fnStarsCount", unfollowed := true, recurses := true, apart := false, narrowed := true }
def FnStarsCountUptoSaid : Prop := fnStarsCountUptoRow.holds Try.pinned (OpenSpec.upto fnStarsCountSpec)

/-- 'laws.FnStarsFirst', WHERE WHAT IT READS IS OF BULK AT MOST 1048576: true; the input reads as it did. -/
def fnStarsFirstUptoRow : OpenClaim := { program := "ytcghheaelgjnfaa", sum := "9ef9a7bebf8c26769f17ef521376b44d2117e7b6e3dabd9e8faedfa5363f3442", func := "loop.example/gridpuzzles/laws.FnStarsFirst", spec := "fnStarsFirst", unfollowed := true, recurses := true, apart := false, narrowed := true }
def FnStarsFirstUptoSaid : Prop := fnStarsFirstUptoRow.holds Try.pinned (OpenSpec.upto fnStarsFirstSpec)

end Rows
end Go.Proofs.Ytcghheaelgjnfaa
