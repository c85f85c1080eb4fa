/- The row of FnExactBoardColours: over its walk and the pure statement; for every board whatever. -/
import Derived.Test.YtbdkmkbkggnekaaRows
import Derived.Test.YtbdkmkbkggnekaaPFnExactBoardColoursx1
import Derived.Test.YtbdkmkbkggnekaaPureFnExactBoardColours
import Derived.WalkKit
import Derived.ProofKit
import Derived.OpenShut
import Derived.ShutString
import Derived.ChangeOld
import Derived.ChangeArms
import Derived.Below
import Derived.SizedLaws
import Derived.Lib.SmallJoins
namespace Go.Proofs.Ytbdkmkbkggnekaa.fnExactBoardColours
open Go.ChangeShapes Go.WideShapes Go.ChangeAt Go.RowKit
open Go.Joins
set_option linter.unusedVariables false
theorem own : ownKnob Try.prog.godebug = none := by kernel_rfl
set_option maxRecDepth 100000 in
theorem lifted (os : Os) (started : os.Started) (H : Type) (enc : TypeId × Value → H) :
    ReturnsInHanded {} Try.checked os 3 .any (Rows.fnExactBoardColoursSpec.pre6 enc Try.prog Try.f3 Rows.fnExactBoardColoursRow.domain false) (Rows.fnExactBoardColoursSpec.post enc Try.prog Try.f3 false true false false) := by
  refine returnsInHanded_of_change_sized (C := Try.checked) own started (by kernel_rfl) Try.func3
    (ChangeSpec.witness6 (enc := enc) (C := Try.checked) false ⟨#[], #[.agg #[.int .i64 0, .int .i64 0, .int .i64 0]], []⟩ 8 (by kernel_rfl) (by kernel_rfl) (by kernel_rfl) (by kernel_rfl)) ?_
  intro W base args ds gs before hval0 hW hcnd hsz0 _
  have hval : ∀ (j : Nat) t v, Try.f3.params[j]? = some t → args[j]? = some v → Value.okWide Try.prog W .any base t v := hval0
  have hW' := hW
  obtain ⟨p, q, hA0, hV, rfl, hfz, hnd⟩ := hW
  have hA : DataW.TrodAll enc Try.prog W 0 (fun _ => true) true Try.f3.params.toList args.toList ds p := hA0
  rw [Try.params3] at hA hval
  obtain ⟨v0, vs0, d0, ds0, p0, q0, hargs, rfl, rfl, h0, r0⟩ := trodAll_cons hA
  obtain ⟨rfl, rfl, rfl⟩ := trodAll_nil r0
  obtain rfl : args = #[v0] := by cases args; simp_all
  obtain ⟨rfl, rfl⟩ := trodVars_none hV
  obtain ⟨c0, c1, c2, y0, y1, y2, m, rfl, rfl, rfl, hy0, hy1, hy2⟩ := open_agg3 Try.underlying23 (by kernel_rfl) (by kernel_rfl) (hval 0 23 v0 rfl rfl) h0
  obtain ⟨a0, e0, rfl, w0⟩ := DataW.trod_int Try.underlying3 hy0
  obtain ⟨a1, e1, rfl, w1⟩ := DataW.trod_int Try.underlying3 hy1
  obtain ⟨a2, e2, rfl, w2⟩ := DataW.trod_int Try.underlying3 hy2
  simp at e0 e1 e2
  subst e0 e1 e2
  clear hA0 hval0 hsz0
  obtain ⟨k, h⟩ := Pure.FnExactBoardColours a0 a1 a2 w0 w1 w2
  refine (PFnExactBoardColours.laws_FnExactBoardColours.calls k a0 a1 a2 true W h).mono fun e W' ⟨he, bel⟩ => ?_
  subst he
  exact ⟨_, rfl, _, _, _, [], _, [], hW', trodAll_mk1 (shut_bool Try.underlying4 _), (trodAll_cons_mk (shut_agg3 Try.underlying23 (by kernel_rfl) (by kernel_rfl) (field_of_Trod (shut_int Try.underlying3 w0) rfl) (field_of_Trod (shut_int Try.underlying3 w1) rfl) (field_of_Trod (shut_int Try.underlying3 w2) rfl)) trodAll_mk0), rfl, bel.frame _, fun h => by cases h⟩
theorem over : Rows.fnExactBoardColoursRow.holds Try.pinned (OpenSpec.ofChange Rows.fnExactBoardColoursSpec) :=
  OpenClaim.holds_of_wide 3 Try.f3 rfl rfl rfl rfl rfl rfl rfl ⟨rfl, rfl, rfl, rfl, rfl⟩ rfl rfl rfl rfl rfl (by kernel_rfl) Try.func3 (by kernel_rfl)
    (of_decide_eq_true (by kernel_rfl)) (by unfold Func.isWrapper; first | (rw [if_pos (by decide +kernel)]; kernel_rfl) | (rw [if_neg (by decide +kernel)]; exact ⟨rfl, rfl⟩))
    (fun os started H enc _ => lifted os started H enc)
theorem proved : Rows.FnExactBoardColoursSaid := over
#print axioms proved
end Go.Proofs.Ytbdkmkbkggnekaa.fnExactBoardColours
namespace Go.Proofs.Ytbdkmkbkggnekaa
/-- The row, under a short name, for the claim. -/
theorem fnExactBoardColours_holds : Rows.FnExactBoardColoursSaid := fnExactBoardColours.proved
end Go.Proofs.Ytbdkmkbkggnekaa
