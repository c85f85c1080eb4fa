/-
  No cell of these rows narrows 'for every input' (looked for: loops, veiled, ifaces, maps, wideKeys, modest, calm, conditions, laid).
  DERIVED. THE GIVEN ROWS OF THIS SEAT. 11 by the template 'for every input the law returns true; each argument reads behind the call as it read before'; 0 by the template 'total and deterministic' (their statements: YtniinbnpdnajjaaTotals.lean).
  GIVEN WITH THE SEED: the statements are not yours to turn. If you find one false, say at which input.
  Laid BY PROGRAM, IN A SANDBOX (cutbox-rows.mjs): the forced cells as the released guide's own fill.sh prints them over the translation 4287da2bca0cd353… (all of the seat's roots in one cut). By AI agents, Wed Nov 11 2026. No macro, syntax, notation, axiom, sorry.
-/
import Derived.Test.YtniinbnpdnajjaaChecked
import GoSem.Claim
import GoSem.ClaimJoined
import GoSem.ClaimMapViews
import Derived.JoinedTies
import Derived.KernelRfl
namespace Go.Proofs.Ytniinbnpdnajjaa
/- THE CELL 'sum', in the pinned program and in every row, IS THE sha256 OF THE DUMP (.gsa) THAT YtniinbnpdnajjaaProg.lean LOADS. Nothing in Lean hashes anything: it is a label: what it is worth is what the hold of that sum in a sandbox is worth. -/
noncomputable def Try.pinned : Pinned := { name := "ytniinbnpdnajjaa", sum := "4287da2bca0cd35322ba04107e82c4d4be8e4c680b090b62d59586b9e58235c4", checked := Try.checked }
namespace Rows
def none {H : Type} : Left H := { results := [], args := [] }

/-- 'laws.FnTurnNumber': WHATEVER THE INPUT: true; the input reads as it did. -/
def fnTurnNumberSpec : ChangeSpec := { name := "fnTurnNumber", fn := fun _ => fun
  | [d] => { results := [.lit (.bool true)], args := [d] }
  | _ => none }
def fnTurnNumberRow : OpenClaim := { program := "ytniinbnpdnajjaa", sum := "4287da2bca0cd35322ba04107e82c4d4be8e4c680b090b62d59586b9e58235c4", func := "loop.example/gridpuzzles/laws.FnTurnNumber", spec := "fnTurnNumber", unfollowed := true, recurses := true, apart := false }
def FnTurnNumberSaid : Prop := fnTurnNumberRow.holds Try.pinned (OpenSpec.ofChange fnTurnNumberSpec)

/-- ITS FALSE NEIGHBOUR: 'it returns false'. Refute it at one input. -/
def fnTurnNumberWrong : ChangeSpec := { name := "fnTurnNumber", fn := fun _ => fun
  | [d] => { results := [.lit (.bool false)], args := [d] }
  | _ => none }
def FnTurnNumberWrongFalsely : Prop := fnTurnNumberRow.holds Try.pinned (OpenSpec.ofChange fnTurnNumberWrong)

/-- 'laws.FnExactRenameGrid': WHATEVER THE INPUT: true; the input reads as it did. -/
def fnExactRenameGridSpec : ChangeSpec := { name := "fnExactRenameGrid", fn := fun _ => fun
  | [d1, d2] => { results := [.lit (.bool true)], args := [d1, d2] }
  | _ => none }
def fnExactRenameGridRow : OpenClaim := { program := "ytniinbnpdnajjaa", sum := "4287da2bca0cd35322ba04107e82c4d4be8e4c680b090b62d59586b9e58235c4", func := "loop.example/gridpuzzles/laws.FnExactRenameGrid", spec := "fnExactRenameGrid", apart := false }
def FnExactRenameGridSaid : Prop := fnExactRenameGridRow.holds Try.pinned (OpenSpec.ofChange fnExactRenameGridSpec)

/-- ITS FALSE NEIGHBOUR: 'it returns false'. Refute it at one input. -/
def fnExactRenameGridWrong : ChangeSpec := { name := "fnExactRenameGrid", fn := fun _ => fun
  | [d1, d2] => { results := [.lit (.bool false)], args := [d1, d2] }
  | _ => none }
def FnExactRenameGridWrongFalsely : Prop := fnExactRenameGridRow.holds Try.pinned (OpenSpec.ofChange fnExactRenameGridWrong)

/-- 'laws.FnExactGridForms': WHATEVER THE INPUT: true; the input reads as it did. -/
def fnExactGridFormsSpec : ChangeSpec := { name := "fnExactGridForms", fn := fun _ => fun
  | [d1, d2] => { results := [.lit (.bool true)], args := [d1, d2] }
  | _ => none }
def fnExactGridFormsRow : OpenClaim := { program := "ytniinbnpdnajjaa", sum := "4287da2bca0cd35322ba04107e82c4d4be8e4c680b090b62d59586b9e58235c4", func := "loop.example/gridpuzzles/laws.FnExactGridForms", spec := "fnExactGridForms", apart := false }
def FnExactGridFormsSaid : Prop := fnExactGridFormsRow.holds Try.pinned (OpenSpec.ofChange fnExactGridFormsSpec)

/-- ITS FALSE NEIGHBOUR: 'it returns false'. Refute it at one input. -/
def fnExactGridFormsWrong : ChangeSpec := { name := "fnExactGridForms", fn := fun _ => fun
  | [d1, d2] => { results := [.lit (.bool false)], args := [d1, d2] }
  | _ => none }
def FnExactGridFormsWrongFalsely : Prop := fnExactGridFormsRow.holds Try.pinned (OpenSpec.ofChange fnExactGridFormsWrong)

/-- 'laws.FnExactFormCount': WHATEVER THE INPUT: true; the input reads as it did. -/
def fnExactFormCountSpec : ChangeSpec := { name := "fnExactFormCount", fn := fun _ => fun
  | [d1, d2] => { results := [.lit (.bool true)], args := [d1, d2] }
  | _ => none }
def fnExactFormCountRow : OpenClaim := { program := "ytniinbnpdnajjaa", sum := "4287da2bca0cd35322ba04107e82c4d4be8e4c680b090b62d59586b9e58235c4", func := "loop.example/gridpuzzles/laws.FnExactFormCount", spec := "fnExactFormCount", unfollowed := true, recurses := true, apart := false }
def FnExactFormCountSaid : Prop := fnExactFormCountRow.holds Try.pinned (OpenSpec.ofChange fnExactFormCountSpec)

/-- ITS FALSE NEIGHBOUR: 'it returns false'. Refute it at one input. -/
def fnExactFormCountWrong : ChangeSpec := { name := "fnExactFormCount", fn := fun _ => fun
  | [d1, d2] => { results := [.lit (.bool false)], args := [d1, d2] }
  | _ => none }
def FnExactFormCountWrongFalsely : Prop := fnExactFormCountRow.holds Try.pinned (OpenSpec.ofChange fnExactFormCountWrong)

/-- 'laws.FnExactCanonicalGrid': WHATEVER THE INPUT: true; the input reads as it did. -/
def fnExactCanonicalGridSpec : ChangeSpec := { name := "fnExactCanonicalGrid", fn := fun _ => fun
  | [d1, d2] => { results := [.lit (.bool true)], args := [d1, d2] }
  | _ => none }
def fnExactCanonicalGridRow : OpenClaim := { program := "ytniinbnpdnajjaa", sum := "4287da2bca0cd35322ba04107e82c4d4be8e4c680b090b62d59586b9e58235c4", func := "loop.example/gridpuzzles/laws.FnExactCanonicalGrid", spec := "fnExactCanonicalGrid", apart := false }
def FnExactCanonicalGridSaid : Prop := fnExactCanonicalGridRow.holds Try.pinned (OpenSpec.ofChange fnExactCanonicalGridSpec)

/-- ITS FALSE NEIGHBOUR: 'it returns false'. Refute it at one input. -/
def fnExactCanonicalGridWrong : ChangeSpec := { name := "fnExactCanonicalGrid", fn := fun _ => fun
  | [d1, d2] => { results := [.lit (.bool false)], args := [d1, d2] }
  | _ => none }
def FnExactCanonicalGridWrongFalsely : Prop := fnExactCanonicalGridRow.holds Try.pinned (OpenSpec.ofChange fnExactCanonicalGridWrong)

/-- 'laws.FnRenameGrid': WHATEVER THE INPUT: true; the input reads as it did. -/
def fnRenameGridSpec : ChangeSpec := { name := "fnRenameGrid", fn := fun _ => fun
  | [d] => { results := [.lit (.bool true)], args := [d] }
  | _ => none }
def fnRenameGridRow : OpenClaim := { program := "ytniinbnpdnajjaa", sum := "4287da2bca0cd35322ba04107e82c4d4be8e4c680b090b62d59586b9e58235c4", func := "loop.example/gridpuzzles/laws.FnRenameGrid", spec := "fnRenameGrid", recurses := true, apart := false }
def FnRenameGridSaid : Prop := fnRenameGridRow.holds Try.pinned (OpenSpec.ofChange fnRenameGridSpec)

/-- ITS FALSE NEIGHBOUR: 'it returns false'. Refute it at one input. -/
def fnRenameGridWrong : ChangeSpec := { name := "fnRenameGrid", fn := fun _ => fun
  | [d] => { results := [.lit (.bool false)], args := [d] }
  | _ => none }
def FnRenameGridWrongFalsely : Prop := fnRenameGridRow.holds Try.pinned (OpenSpec.ofChange fnRenameGridWrong)

/-- 'laws.FnGridForms': WHATEVER THE INPUT: true; the input reads as it did. -/
def fnGridFormsSpec : ChangeSpec := { name := "fnGridForms", fn := fun _ => fun
  | [d] => { results := [.lit (.bool true)], args := [d] }
  | _ => none }
def fnGridFormsRow : OpenClaim := { program := "ytniinbnpdnajjaa", sum := "4287da2bca0cd35322ba04107e82c4d4be8e4c680b090b62d59586b9e58235c4", func := "loop.example/gridpuzzles/laws.FnGridForms", spec := "fnGridForms", recurses := true, apart := false }
def FnGridFormsSaid : Prop := fnGridFormsRow.holds Try.pinned (OpenSpec.ofChange fnGridFormsSpec)

/-- ITS FALSE NEIGHBOUR: 'it returns false'. Refute it at one input. -/
def fnGridFormsWrong : ChangeSpec := { name := "fnGridForms", fn := fun _ => fun
  | [d] => { results := [.lit (.bool false)], args := [d] }
  | _ => none }
def FnGridFormsWrongFalsely : Prop := fnGridFormsRow.holds Try.pinned (OpenSpec.ofChange fnGridFormsWrong)

/-- 'laws.FnRenameForms': WHATEVER THE INPUT: true; the input reads as it did. -/
def fnRenameFormsSpec : ChangeSpec := { name := "fnRenameForms", fn := fun _ => fun
  | [d] => { results := [.lit (.bool true)], args := [d] }
  | _ => none }
def fnRenameFormsRow : OpenClaim := { program := "ytniinbnpdnajjaa", sum := "4287da2bca0cd35322ba04107e82c4d4be8e4c680b090b62d59586b9e58235c4", func := "loop.example/gridpuzzles/laws.FnRenameForms", spec := "fnRenameForms", unfollowed := true, recurses := true, apart := false }
def FnRenameFormsSaid : Prop := fnRenameFormsRow.holds Try.pinned (OpenSpec.ofChange fnRenameFormsSpec)

/-- ITS FALSE NEIGHBOUR: 'it returns false'. Refute it at one input. -/
def fnRenameFormsWrong : ChangeSpec := { name := "fnRenameForms", fn := fun _ => fun
  | [d] => { results := [.lit (.bool false)], args := [d] }
  | _ => none }
def FnRenameFormsWrongFalsely : Prop := fnRenameFormsRow.holds Try.pinned (OpenSpec.ofChange fnRenameFormsWrong)

/-- 'laws.FnCanonicalGrid': WHATEVER THE INPUT: true; the input reads as it did. -/
def fnCanonicalGridSpec : ChangeSpec := { name := "fnCanonicalGrid", fn := fun _ => fun
  | [d] => { results := [.lit (.bool true)], args := [d] }
  | _ => none }
def fnCanonicalGridRow : OpenClaim := { program := "ytniinbnpdnajjaa", sum := "4287da2bca0cd35322ba04107e82c4d4be8e4c680b090b62d59586b9e58235c4", func := "loop.example/gridpuzzles/laws.FnCanonicalGrid", spec := "fnCanonicalGrid", recurses := true, apart := false }
def FnCanonicalGridSaid : Prop := fnCanonicalGridRow.holds Try.pinned (OpenSpec.ofChange fnCanonicalGridSpec)

/-- ITS FALSE NEIGHBOUR: 'it returns false'. Refute it at one input. -/
def fnCanonicalGridWrong : ChangeSpec := { name := "fnCanonicalGrid", fn := fun _ => fun
  | [d] => { results := [.lit (.bool false)], args := [d] }
  | _ => none }
def FnCanonicalGridWrongFalsely : Prop := fnCanonicalGridRow.holds Try.pinned (OpenSpec.ofChange fnCanonicalGridWrong)

/-- 'laws.FnFormCount': WHATEVER THE INPUT: true; the input reads as it did. -/
def fnFormCountSpec : ChangeSpec := { name := "fnFormCount", fn := fun _ => fun
  | [d] => { results := [.lit (.bool true)], args := [d] }
  | _ => none }
def fnFormCountRow : OpenClaim := { program := "ytniinbnpdnajjaa", sum := "4287da2bca0cd35322ba04107e82c4d4be8e4c680b090b62d59586b9e58235c4", func := "loop.example/gridpuzzles/laws.FnFormCount", spec := "fnFormCount", unfollowed := true, recurses := true, apart := false }
def FnFormCountSaid : Prop := fnFormCountRow.holds Try.pinned (OpenSpec.ofChange fnFormCountSpec)

/-- ITS FALSE NEIGHBOUR: 'it returns false'. Refute it at one input. -/
def fnFormCountWrong : ChangeSpec := { name := "fnFormCount", fn := fun _ => fun
  | [d] => { results := [.lit (.bool false)], args := [d] }
  | _ => none }
def FnFormCountWrongFalsely : Prop := fnFormCountRow.holds Try.pinned (OpenSpec.ofChange fnFormCountWrong)

/-- 'laws.FnFormsGrade': WHATEVER THE INPUT: true; the input reads as it did. -/
def fnFormsGradeSpec : ChangeSpec := { name := "fnFormsGrade", fn := fun _ => fun
  | [d] => { results := [.lit (.bool true)], args := [d] }
  | _ => none }
def fnFormsGradeRow : OpenClaim := { program := "ytniinbnpdnajjaa", sum := "4287da2bca0cd35322ba04107e82c4d4be8e4c680b090b62d59586b9e58235c4", func := "loop.example/gridpuzzles/laws.FnFormsGrade", spec := "fnFormsGrade", unfollowed := true, recurses := true, apart := false }
def FnFormsGradeSaid : Prop := fnFormsGradeRow.holds Try.pinned (OpenSpec.ofChange fnFormsGradeSpec)

/-- ITS FALSE NEIGHBOUR: 'it returns false'. Refute it at one input. -/
def fnFormsGradeWrong : ChangeSpec := { name := "fnFormsGrade", fn := fun _ => fun
  | [d] => { results := [.lit (.bool false)], args := [d] }
  | _ => none }
def FnFormsGradeWrongFalsely : Prop := fnFormsGradeRow.holds Try.pinned (OpenSpec.ofChange fnFormsGradeWrong)

/- THE SECOND FORM. 'bulk': how many values and letters a reading holds, each counted each time it is reached (what is shared counts as often as it is met; a slice's spare places count too). A statement '..UptoSaid' is the law's where the arguments, and the package variables that the reading takes, are together of bulk at most 1048576: NARROWER than '..Said'. Prove '..Said' where nothing that the law and all that it calls make is longer than what came in: it says more and counts as full. Else prove '..UptoSaid'. A law counts once. -/
mutual
def uptoBulk {H : Type} : DataW H → Nat
  | .lit (.string bytes) => bytes.length + 1
  | .lit _ => 1
  | .nil => 1
  | .ptr d => uptoBulk d + 1
  | .slice elems spare => uptoBulkAll elems + uptoBulkAll spare + 1
  | .agg parts => uptoBulkAll parts + 1
  | .iface _ d => uptoBulk d + 1
  | .map entries => uptoBulkEntries entries + 1
  | .held _ => 1
def uptoBulkAll {H : Type} : List (DataW H) → Nat
  | [] => 0
  | d :: r => uptoBulk d + uptoBulkAll r
def uptoBulkEntries {H : Type} : List (Lit × DataW H) → Nat
  | [] => 0
  | x :: r => uptoBulkEntry x + uptoBulkEntries r
def uptoBulkEntry {H : Type} : Lit × DataW H → Nat
  | (.string bytes, d) => bytes.length + uptoBulk d + 1
  | (_, d) => uptoBulk d + 1
 end
def uptoSmall : (H : Type) → List (DataW H) → Bool := fun _ ds => decide (uptoBulkAll ds ≤ 1048576)
def OpenSpec.upto (s : _root_.Go.ChangeSpec) : _root_.Go.OpenSpec := { _root_.Go.OpenSpec.ofChange s with cond := some uptoSmall }

/-- 'laws.FnTurnNumber', WHERE WHAT IT READS IS OF BULK AT MOST 1048576: true; the input reads as it did. -/
def fnTurnNumberUptoRow : OpenClaim := { program := "ytniinbnpdnajjaa", sum := "4287da2bca0cd35322ba04107e82c4d4be8e4c680b090b62d59586b9e58235c4", func := "loop.example/gridpuzzles/laws.FnTurnNumber", spec := "fnTurnNumber", unfollowed := true, recurses := true, apart := false, narrowed := true }
def FnTurnNumberUptoSaid : Prop := fnTurnNumberUptoRow.holds Try.pinned (OpenSpec.upto fnTurnNumberSpec)

/-- 'laws.FnExactRenameGrid', WHERE WHAT IT READS IS OF BULK AT MOST 1048576: true; the input reads as it did. -/
def fnExactRenameGridUptoRow : OpenClaim := { program := "ytniinbnpdnajjaa", sum := "4287da2bca0cd35322ba04107e82c4d4be8e4c680b090b62d59586b9e58235c4", func := "loop.example/gridpuzzles/laws.FnExactRenameGrid", spec := "fnExactRenameGrid", apart := false, narrowed := true }
def FnExactRenameGridUptoSaid : Prop := fnExactRenameGridUptoRow.holds Try.pinned (OpenSpec.upto fnExactRenameGridSpec)

/-- 'laws.FnExactGridForms', WHERE WHAT IT READS IS OF BULK AT MOST 1048576: true; the input reads as it did. -/
def fnExactGridFormsUptoRow : OpenClaim := { program := "ytniinbnpdnajjaa", sum := "4287da2bca0cd35322ba04107e82c4d4be8e4c680b090b62d59586b9e58235c4", func := "loop.example/gridpuzzles/laws.FnExactGridForms", spec := "fnExactGridForms", apart := false, narrowed := true }
def FnExactGridFormsUptoSaid : Prop := fnExactGridFormsUptoRow.holds Try.pinned (OpenSpec.upto fnExactGridFormsSpec)

/-- 'laws.FnExactFormCount', WHERE WHAT IT READS IS OF BULK AT MOST 1048576: true; the input reads as it did. -/
def fnExactFormCountUptoRow : OpenClaim := { program := "ytniinbnpdnajjaa", sum := "4287da2bca0cd35322ba04107e82c4d4be8e4c680b090b62d59586b9e58235c4", func := "loop.example/gridpuzzles/laws.FnExactFormCount", spec := "fnExactFormCount", unfollowed := true, recurses := true, apart := false, narrowed := true }
def FnExactFormCountUptoSaid : Prop := fnExactFormCountUptoRow.holds Try.pinned (OpenSpec.upto fnExactFormCountSpec)

/-- 'laws.FnExactCanonicalGrid', WHERE WHAT IT READS IS OF BULK AT MOST 1048576: true; the input reads as it did. -/
def fnExactCanonicalGridUptoRow : OpenClaim := { program := "ytniinbnpdnajjaa", sum := "4287da2bca0cd35322ba04107e82c4d4be8e4c680b090b62d59586b9e58235c4", func := "loop.example/gridpuzzles/laws.FnExactCanonicalGrid", spec := "fnExactCanonicalGrid", apart := false, narrowed := true }
def FnExactCanonicalGridUptoSaid : Prop := fnExactCanonicalGridUptoRow.holds Try.pinned (OpenSpec.upto fnExactCanonicalGridSpec)

/-- 'laws.FnRenameGrid', WHERE WHAT IT READS IS OF BULK AT MOST 1048576: true; the input reads as it did. -/
def fnRenameGridUptoRow : OpenClaim := { program := "ytniinbnpdnajjaa", sum := "4287da2bca0cd35322ba04107e82c4d4be8e4c680b090b62d59586b9e58235c4", func := "loop.example/gridpuzzles/laws.FnRenameGrid", spec := "fnRenameGrid", recurses := true, apart := false, narrowed := true }
def FnRenameGridUptoSaid : Prop := fnRenameGridUptoRow.holds Try.pinned (OpenSpec.upto fnRenameGridSpec)

/-- 'laws.FnGridForms', WHERE WHAT IT READS IS OF BULK AT MOST 1048576: true; the input reads as it did. -/
def fnGridFormsUptoRow : OpenClaim := { program := "ytniinbnpdnajjaa", sum := "4287da2bca0cd35322ba04107e82c4d4be8e4c680b090b62d59586b9e58235c4", func := "loop.example/gridpuzzles/laws.FnGridForms", spec := "fnGridForms", recurses := true, apart := false, narrowed := true }
def FnGridFormsUptoSaid : Prop := fnGridFormsUptoRow.holds Try.pinned (OpenSpec.upto fnGridFormsSpec)

/-- 'laws.FnRenameForms', WHERE WHAT IT READS IS OF BULK AT MOST 1048576: true; the input reads as it did. -/
def fnRenameFormsUptoRow : OpenClaim := { program := "ytniinbnpdnajjaa", sum := "4287da2bca0cd35322ba04107e82c4d4be8e4c680b090b62d59586b9e58235c4", func := "loop.example/gridpuzzles/laws.FnRenameForms", spec := "fnRenameForms", unfollowed := true, recurses := true, apart := false, narrowed := true }
def FnRenameFormsUptoSaid : Prop := fnRenameFormsUptoRow.holds Try.pinned (OpenSpec.upto fnRenameFormsSpec)

/-- 'laws.FnCanonicalGrid', WHERE WHAT IT READS IS OF BULK AT MOST 1048576: true; the input reads as it did. -/
def fnCanonicalGridUptoRow : OpenClaim := { program := "ytniinbnpdnajjaa", sum := "4287da2bca0cd35322ba04107e82c4d4be8e4c680b090b62d59586b9e58235c4", func := "loop.example/gridpuzzles/laws.FnCanonicalGrid", spec := "fnCanonicalGrid", recurses := true, apart := false, narrowed := true }
def FnCanonicalGridUptoSaid : Prop := fnCanonicalGridUptoRow.holds Try.pinned (OpenSpec.upto fnCanonicalGridSpec)

/-- 'laws.FnFormCount', WHERE WHAT IT READS IS OF BULK AT MOST 1048576: true; the input reads as it did. -/
def fnFormCountUptoRow : OpenClaim := { program := "ytniinbnpdnajjaa", sum := "4287da2bca0cd35322ba04107e82c4d4be8e4c680b090b62d59586b9e58235c4", func := "loop.example/gridpuzzles/laws.FnFormCount", spec := "fnFormCount", unfollowed := true, recurses := true, apart := false, narrowed := true }
def FnFormCountUptoSaid : Prop := fnFormCountUptoRow.holds Try.pinned (OpenSpec.upto fnFormCountSpec)

/-- 'laws.FnFormsGrade', WHERE WHAT IT READS IS OF BULK AT MOST 1048576: true; the input reads as it did. -/
def fnFormsGradeUptoRow : OpenClaim := { program := "ytniinbnpdnajjaa", sum := "4287da2bca0cd35322ba04107e82c4d4be8e4c680b090b62d59586b9e58235c4", func := "loop.example/gridpuzzles/laws.FnFormsGrade", spec := "fnFormsGrade", unfollowed := true, recurses := true, apart := false, narrowed := true }
def FnFormsGradeUptoSaid : Prop := fnFormsGradeUptoRow.holds Try.pinned (OpenSpec.upto fnFormsGradeSpec)

end Rows
end Go.Proofs.Ytniinbnpdnajjaa
