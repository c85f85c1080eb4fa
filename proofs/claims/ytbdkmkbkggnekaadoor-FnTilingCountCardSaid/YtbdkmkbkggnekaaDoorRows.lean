/-
  NARROWER THAN 'FOR EVERY INPUT', by the rows' own cells (each row's printed sentence says how): FnExactTilingCount: laid · FnExactTilingFirst: laid · FnTilingCount: laid · FnDominoHoles: laid · FnTilingFirst: laid.
  DERIVED. THE GIVEN ROWS OF THIS SEAT. 5 by the template 'for every input the law returns true; each argument reads behind the call as it read before'; 0 by the template 'total and deterministic' (their statements: YtbdkmkbkggnekaaDoorTotals.lean).
  GIVEN WITH THE SEED: the statements are not yours to turn. If you find one false, say at which input.
  Laid BY PROGRAM, IN A SANDBOX (cutbox-rows.mjs): the forced cells as the released guide's own fill.sh prints them over the translation 007f97ccce55b058… (all of the seat's roots in one cut). By AI agents, Wed Nov 11 2026. No macro, syntax, notation, axiom, sorry.
-/
import Derived.Test.YtbdkmkbkggnekaaDoorChecked
import GoSem.Claim
import GoSem.ClaimJoined
import GoSem.ClaimMapViews
import Derived.JoinedTies
import Derived.KernelRfl
namespace Go.Proofs.YtbdkmkbkggnekaaDoor
/- THE CELL 'sum', in the pinned program and in every row, IS THE sha256 OF THE DUMP (.gsa) THAT YtbdkmkbkggnekaaDoorProg.lean LOADS. Nothing in Lean hashes anything: it is a label: what it is worth is what the hold of that sum in a sandbox is worth. -/
noncomputable def Tryd.pinned : Pinned := { name := "ytbdkmkbkggnekaadoor", sum := "007f97ccce55b058a81c452a410e49b6e350810e1a3c77ef1b63e75fe6071bde", checked := Tryd.checked }
namespace Rows
def none {H : Type} : Left H := { results := [], args := [] }

/- WHAT THE LISTED PACKAGE-LEVEL VARIABLES READ AS WHEN THE CALL BEGINS. Each datum BY PROGRAM (the guide's laid-datum.mjs) off the statement by which the dump's own 'gosem.cut.vars' lays the variable. In a bare row this is a premise. The card (YtbdkmkbkggnekaaDoorCards.lean) ties it to the program's text. -/
def laid_math_bits_deBruijn32tab {H : Type} : DataW H := .agg [.lit (.int .u8 0), .lit (.int .u8 1), .lit (.int .u8 28), .lit (.int .u8 2), .lit (.int .u8 29), .lit (.int .u8 14), .lit (.int .u8 24), .lit (.int .u8 3), .lit (.int .u8 30), .lit (.int .u8 22), .lit (.int .u8 20), .lit (.int .u8 15), .lit (.int .u8 25), .lit (.int .u8 17), .lit (.int .u8 4), .lit (.int .u8 8), .lit (.int .u8 31), .lit (.int .u8 27), .lit (.int .u8 13), .lit (.int .u8 23), .lit (.int .u8 21), .lit (.int .u8 19), .lit (.int .u8 16), .lit (.int .u8 7), .lit (.int .u8 26), .lit (.int .u8 12), .lit (.int .u8 18), .lit (.int .u8 6), .lit (.int .u8 11), .lit (.int .u8 5), .lit (.int .u8 10), .lit (.int .u8 9)]
def laid_math_bits_deBruijn64tab {H : Type} : DataW H := .agg [.lit (.int .u8 0), .lit (.int .u8 1), .lit (.int .u8 56), .lit (.int .u8 2), .lit (.int .u8 57), .lit (.int .u8 49), .lit (.int .u8 28), .lit (.int .u8 3), .lit (.int .u8 61), .lit (.int .u8 58), .lit (.int .u8 42), .lit (.int .u8 50), .lit (.int .u8 38), .lit (.int .u8 29), .lit (.int .u8 17), .lit (.int .u8 4), .lit (.int .u8 62), .lit (.int .u8 47), .lit (.int .u8 59), .lit (.int .u8 36), .lit (.int .u8 45), .lit (.int .u8 43), .lit (.int .u8 51), .lit (.int .u8 22), .lit (.int .u8 53), .lit (.int .u8 39), .lit (.int .u8 33), .lit (.int .u8 30), .lit (.int .u8 24), .lit (.int .u8 18), .lit (.int .u8 12), .lit (.int .u8 5), .lit (.int .u8 63), .lit (.int .u8 55), .lit (.int .u8 48), .lit (.int .u8 27), .lit (.int .u8 60), .lit (.int .u8 41), .lit (.int .u8 37), .lit (.int .u8 16), .lit (.int .u8 46), .lit (.int .u8 35), .lit (.int .u8 44), .lit (.int .u8 21), .lit (.int .u8 52), .lit (.int .u8 32), .lit (.int .u8 23), .lit (.int .u8 11), .lit (.int .u8 54), .lit (.int .u8 26), .lit (.int .u8 40), .lit (.int .u8 15), .lit (.int .u8 34), .lit (.int .u8 20), .lit (.int .u8 31), .lit (.int .u8 10), .lit (.int .u8 25), .lit (.int .u8 14), .lit (.int .u8 19), .lit (.int .u8 9), .lit (.int .u8 13), .lit (.int .u8 8), .lit (.int .u8 7), .lit (.int .u8 6)]

/-- 'laws.FnExactTilingCount': WHATEVER THE INPUT: true; the input reads as it did. -/
def fnExactTilingCountSpec : ChangeSpec := { name := "fnExactTilingCount", fn := fun _ => fun
  | [d] => { results := [.lit (.bool true)], args := [d] }
  | _ => none }
def fnExactTilingCountRow : OpenClaim := { program := "ytbdkmkbkggnekaadoor", sum := "007f97ccce55b058a81c452a410e49b6e350810e1a3c77ef1b63e75fe6071bde", func := "loop.example/gridpuzzles/laws.FnExactTilingCount", spec := "fnExactTilingCount", recurses := true, named := ["math/bits.deBruijn32tab", "math/bits.deBruijn64tab"], apart := false, laid := [("math/bits.deBruijn32tab", laid_math_bits_deBruijn32tab), ("math/bits.deBruijn64tab", laid_math_bits_deBruijn64tab)] }
def FnExactTilingCountSaid : Prop := fnExactTilingCountRow.holds Tryd.pinned (OpenSpec.ofChange fnExactTilingCountSpec)

/-- ITS FALSE NEIGHBOUR: 'it returns false'. Refute it at one input. -/
def fnExactTilingCountWrong : ChangeSpec := { name := "fnExactTilingCount", fn := fun _ => fun
  | [d] => { results := [.lit (.bool false)], args := [d] }
  | _ => none }
def FnExactTilingCountWrongFalsely : Prop := fnExactTilingCountRow.holds Tryd.pinned (OpenSpec.ofChange fnExactTilingCountWrong)

/-- 'laws.FnExactTilingFirst': WHATEVER THE INPUT: true; the input reads as it did. -/
def fnExactTilingFirstSpec : ChangeSpec := { name := "fnExactTilingFirst", fn := fun _ => fun
  | [d] => { results := [.lit (.bool true)], args := [d] }
  | _ => none }
def fnExactTilingFirstRow : OpenClaim := { program := "ytbdkmkbkggnekaadoor", sum := "007f97ccce55b058a81c452a410e49b6e350810e1a3c77ef1b63e75fe6071bde", func := "loop.example/gridpuzzles/laws.FnExactTilingFirst", spec := "fnExactTilingFirst", recurses := true, named := ["math/bits.deBruijn32tab", "math/bits.deBruijn64tab"], apart := false, laid := [("math/bits.deBruijn32tab", laid_math_bits_deBruijn32tab), ("math/bits.deBruijn64tab", laid_math_bits_deBruijn64tab)] }
def FnExactTilingFirstSaid : Prop := fnExactTilingFirstRow.holds Tryd.pinned (OpenSpec.ofChange fnExactTilingFirstSpec)

/-- ITS FALSE NEIGHBOUR: 'it returns false'. Refute it at one input. -/
def fnExactTilingFirstWrong : ChangeSpec := { name := "fnExactTilingFirst", fn := fun _ => fun
  | [d] => { results := [.lit (.bool false)], args := [d] }
  | _ => none }
def FnExactTilingFirstWrongFalsely : Prop := fnExactTilingFirstRow.holds Tryd.pinned (OpenSpec.ofChange fnExactTilingFirstWrong)

/-- 'laws.FnTilingCount': WHATEVER THE INPUT: true; the input reads as it did. -/
def fnTilingCountSpec : ChangeSpec := { name := "fnTilingCount", fn := fun _ => fun
  | [d] => { results := [.lit (.bool true)], args := [d] }
  | _ => none }
def fnTilingCountRow : OpenClaim := { program := "ytbdkmkbkggnekaadoor", sum := "007f97ccce55b058a81c452a410e49b6e350810e1a3c77ef1b63e75fe6071bde", func := "loop.example/gridpuzzles/laws.FnTilingCount", spec := "fnTilingCount", recurses := true, named := ["math/bits.deBruijn32tab", "math/bits.deBruijn64tab"], apart := false, laid := [("math/bits.deBruijn32tab", laid_math_bits_deBruijn32tab), ("math/bits.deBruijn64tab", laid_math_bits_deBruijn64tab)] }
def FnTilingCountSaid : Prop := fnTilingCountRow.holds Tryd.pinned (OpenSpec.ofChange fnTilingCountSpec)

/-- ITS FALSE NEIGHBOUR: 'it returns false'. Refute it at one input. -/
def fnTilingCountWrong : ChangeSpec := { name := "fnTilingCount", fn := fun _ => fun
  | [d] => { results := [.lit (.bool false)], args := [d] }
  | _ => none }
def FnTilingCountWrongFalsely : Prop := fnTilingCountRow.holds Tryd.pinned (OpenSpec.ofChange fnTilingCountWrong)

/-- 'laws.FnDominoHoles': WHATEVER THE INPUT: true; the input reads as it did. -/
def fnDominoHolesSpec : ChangeSpec := { name := "fnDominoHoles", fn := fun _ => fun
  | [d] => { results := [.lit (.bool true)], args := [d] }
  | _ => none }
def fnDominoHolesRow : OpenClaim := { program := "ytbdkmkbkggnekaadoor", sum := "007f97ccce55b058a81c452a410e49b6e350810e1a3c77ef1b63e75fe6071bde", func := "loop.example/gridpuzzles/laws.FnDominoHoles", spec := "fnDominoHoles", recurses := true, named := ["math/bits.deBruijn32tab", "math/bits.deBruijn64tab"], apart := false, laid := [("math/bits.deBruijn32tab", laid_math_bits_deBruijn32tab), ("math/bits.deBruijn64tab", laid_math_bits_deBruijn64tab)] }
def FnDominoHolesSaid : Prop := fnDominoHolesRow.holds Tryd.pinned (OpenSpec.ofChange fnDominoHolesSpec)

/-- ITS FALSE NEIGHBOUR: 'it returns false'. Refute it at one input. -/
def fnDominoHolesWrong : ChangeSpec := { name := "fnDominoHoles", fn := fun _ => fun
  | [d] => { results := [.lit (.bool false)], args := [d] }
  | _ => none }
def FnDominoHolesWrongFalsely : Prop := fnDominoHolesRow.holds Tryd.pinned (OpenSpec.ofChange fnDominoHolesWrong)

/-- 'laws.FnTilingFirst': WHATEVER THE INPUT: true; the input reads as it did. -/
def fnTilingFirstSpec : ChangeSpec := { name := "fnTilingFirst", fn := fun _ => fun
  | [d] => { results := [.lit (.bool true)], args := [d] }
  | _ => none }
def fnTilingFirstRow : OpenClaim := { program := "ytbdkmkbkggnekaadoor", sum := "007f97ccce55b058a81c452a410e49b6e350810e1a3c77ef1b63e75fe6071bde", func := "loop.example/gridpuzzles/laws.FnTilingFirst", spec := "fnTilingFirst", recurses := true, named := ["math/bits.deBruijn32tab", "math/bits.deBruijn64tab"], apart := false, laid := [("math/bits.deBruijn32tab", laid_math_bits_deBruijn32tab), ("math/bits.deBruijn64tab", laid_math_bits_deBruijn64tab)] }
def FnTilingFirstSaid : Prop := fnTilingFirstRow.holds Tryd.pinned (OpenSpec.ofChange fnTilingFirstSpec)

/-- ITS FALSE NEIGHBOUR: 'it returns false'. Refute it at one input. -/
def fnTilingFirstWrong : ChangeSpec := { name := "fnTilingFirst", fn := fun _ => fun
  | [d] => { results := [.lit (.bool false)], args := [d] }
  | _ => none }
def FnTilingFirstWrongFalsely : Prop := fnTilingFirstRow.holds Tryd.pinned (OpenSpec.ofChange fnTilingFirstWrong)

/- THE SECOND FORM. 'bulk': how many values and letters a reading holds, each counted each time it is reached (what is shared counts as often as it is met; a slice's spare places count too). A statement '..UptoSaid' is the law's where the arguments, and the package variables that the reading takes, are together of bulk at most 1048576: NARROWER than '..Said'. Prove '..Said' where nothing that the law and all that it calls make is longer than what came in: it says more and counts as full. Else prove '..UptoSaid'. A law counts once. -/
mutual
def uptoBulk {H : Type} : DataW H → Nat
  | .lit (.string bytes) => bytes.length + 1
  | .lit _ => 1
  | .nil => 1
  | .ptr d => uptoBulk d + 1
  | .slice elems spare => uptoBulkAll elems + uptoBulkAll spare + 1
  | .agg parts => uptoBulkAll parts + 1
  | .iface _ d => uptoBulk d + 1
  | .map entries => uptoBulkEntries entries + 1
  | .held _ => 1
def uptoBulkAll {H : Type} : List (DataW H) → Nat
  | [] => 0
  | d :: r => uptoBulk d + uptoBulkAll r
def uptoBulkEntries {H : Type} : List (Lit × DataW H) → Nat
  | [] => 0
  | x :: r => uptoBulkEntry x + uptoBulkEntries r
def uptoBulkEntry {H : Type} : Lit × DataW H → Nat
  | (.string bytes, d) => bytes.length + uptoBulk d + 1
  | (_, d) => uptoBulk d + 1
 end
def uptoSmall : (H : Type) → List (DataW H) → Bool := fun _ ds => decide (uptoBulkAll ds ≤ 1048576)
def OpenSpec.upto (s : _root_.Go.ChangeSpec) : _root_.Go.OpenSpec := { _root_.Go.OpenSpec.ofChange s with cond := some uptoSmall }

/-- 'laws.FnExactTilingCount', WHERE WHAT IT READS IS OF BULK AT MOST 1048576: true; the input reads as it did. -/
def fnExactTilingCountUptoRow : OpenClaim := { program := "ytbdkmkbkggnekaadoor", sum := "007f97ccce55b058a81c452a410e49b6e350810e1a3c77ef1b63e75fe6071bde", func := "loop.example/gridpuzzles/laws.FnExactTilingCount", spec := "fnExactTilingCount", recurses := true, named := ["math/bits.deBruijn32tab", "math/bits.deBruijn64tab"], apart := false, laid := [("math/bits.deBruijn32tab", laid_math_bits_deBruijn32tab), ("math/bits.deBruijn64tab", laid_math_bits_deBruijn64tab)], narrowed := true }
def FnExactTilingCountUptoSaid : Prop := fnExactTilingCountUptoRow.holds Tryd.pinned (OpenSpec.upto fnExactTilingCountSpec)

/-- 'laws.FnExactTilingFirst', WHERE WHAT IT READS IS OF BULK AT MOST 1048576: true; the input reads as it did. -/
def fnExactTilingFirstUptoRow : OpenClaim := { program := "ytbdkmkbkggnekaadoor", sum := "007f97ccce55b058a81c452a410e49b6e350810e1a3c77ef1b63e75fe6071bde", func := "loop.example/gridpuzzles/laws.FnExactTilingFirst", spec := "fnExactTilingFirst", recurses := true, named := ["math/bits.deBruijn32tab", "math/bits.deBruijn64tab"], apart := false, laid := [("math/bits.deBruijn32tab", laid_math_bits_deBruijn32tab), ("math/bits.deBruijn64tab", laid_math_bits_deBruijn64tab)], narrowed := true }
def FnExactTilingFirstUptoSaid : Prop := fnExactTilingFirstUptoRow.holds Tryd.pinned (OpenSpec.upto fnExactTilingFirstSpec)

/-- 'laws.FnTilingCount', WHERE WHAT IT READS IS OF BULK AT MOST 1048576: true; the input reads as it did. -/
def fnTilingCountUptoRow : OpenClaim := { program := "ytbdkmkbkggnekaadoor", sum := "007f97ccce55b058a81c452a410e49b6e350810e1a3c77ef1b63e75fe6071bde", func := "loop.example/gridpuzzles/laws.FnTilingCount", spec := "fnTilingCount", recurses := true, named := ["math/bits.deBruijn32tab", "math/bits.deBruijn64tab"], apart := false, laid := [("math/bits.deBruijn32tab", laid_math_bits_deBruijn32tab), ("math/bits.deBruijn64tab", laid_math_bits_deBruijn64tab)], narrowed := true }
def FnTilingCountUptoSaid : Prop := fnTilingCountUptoRow.holds Tryd.pinned (OpenSpec.upto fnTilingCountSpec)

/-- 'laws.FnDominoHoles', WHERE WHAT IT READS IS OF BULK AT MOST 1048576: true; the input reads as it did. -/
def fnDominoHolesUptoRow : OpenClaim := { program := "ytbdkmkbkggnekaadoor", sum := "007f97ccce55b058a81c452a410e49b6e350810e1a3c77ef1b63e75fe6071bde", func := "loop.example/gridpuzzles/laws.FnDominoHoles", spec := "fnDominoHoles", recurses := true, named := ["math/bits.deBruijn32tab", "math/bits.deBruijn64tab"], apart := false, laid := [("math/bits.deBruijn32tab", laid_math_bits_deBruijn32tab), ("math/bits.deBruijn64tab", laid_math_bits_deBruijn64tab)], narrowed := true }
def FnDominoHolesUptoSaid : Prop := fnDominoHolesUptoRow.holds Tryd.pinned (OpenSpec.upto fnDominoHolesSpec)

/-- 'laws.FnTilingFirst', WHERE WHAT IT READS IS OF BULK AT MOST 1048576: true; the input reads as it did. -/
def fnTilingFirstUptoRow : OpenClaim := { program := "ytbdkmkbkggnekaadoor", sum := "007f97ccce55b058a81c452a410e49b6e350810e1a3c77ef1b63e75fe6071bde", func := "loop.example/gridpuzzles/laws.FnTilingFirst", spec := "fnTilingFirst", recurses := true, named := ["math/bits.deBruijn32tab", "math/bits.deBruijn64tab"], apart := false, laid := [("math/bits.deBruijn32tab", laid_math_bits_deBruijn32tab), ("math/bits.deBruijn64tab", laid_math_bits_deBruijn64tab)], narrowed := true }
def FnTilingFirstUptoSaid : Prop := fnTilingFirstUptoRow.holds Tryd.pinned (OpenSpec.upto fnTilingFirstSpec)

end Rows
end Go.Proofs.YtbdkmkbkggnekaaDoor
