/- The row of FnExactPictureLines: over its walk and the pure statement; for every picture puzzle whatever. -/
import Derived.Test.YtapnohcfnclleaaRows
import Derived.Test.YtapnohcfnclleaaPFnExactPictureLinesx10
import Derived.Test.YtapnohcfnclleaaPureFnExactPictureLines
import Derived.WalkKit
import Derived.ProofKit
import Derived.OpenShut
import Derived.ShutString
import Derived.ChangeOld
import Derived.ChangeArms
import Derived.Below
import Derived.SizedLaws
import Derived.Lib.SmallJoins
import Derived.Deep.Grids
import Derived.Deep.Matrix
namespace Go.Proofs.Ytapnohcfnclleaa.fnExactPictureLines
open Go.ChangeShapes Go.WideShapes Go.ChangeAt Go.RowKit Go.Joins
open Go.Proofs.YtapnohcfnclleaaW.PrintWords
set_option linter.unusedVariables false
theorem own : ownKnob Try.prog.godebug = none := by kernel_rfl
theorem laidOut : laidOutB Try.prog = true := by kernel_rfl
/-- What a slice of slices of ints that came in is read as. -/
theorem rows_in {H : Type} {enc : TypeId × Value → H} {W : World} {t e q n : Nat} {v : Value} {y : DataW H × List MemPlace} (hu : Try.prog.underlying t = some (.slice e)) (he : Try.prog.underlying e = some (.slice q)) (hq : Try.prog.underlying q = some (.int .i64))
    (ce : Try.prog.cellsOf e = 1) (cq : Try.prog.cellsOf q = 1) (h : DataW.trod enc Try.prog W 0 (fun _ => true) true n t [v] = some y) (tq : Nat) :
    ∃ (a : Option Addr) (cap : Nat) (l : List (List Int)), v = .slice a l.length cap ∧ Kd.C (Kd.slice tq (Kd.int .i64)) W a l.length l ∧ l.length ≤ cap ∧ l.length ≤ 9223372036854775807 ∧ ∀ x ∈ l, x.length ≤ 9223372036854775807 := by
  have hml : maxLen = 9223372036854775807 := by decide +kernel
  rcases Deep.open_int_rows hu he hq ce cq h with ⟨hcs, _⟩ | ⟨a, len, cap, A, L, C, Z, hcs, _, hl, hm, _, hr⟩
  · cases hcs
    exact ⟨none, 0, [], rfl, Kd.C_nil _ _, Nat.le_refl _, by simp, by simp⟩
  · cases hcs
    have hlen : ((List.range len).map fun r => (Z r).take (L r)).length = len := by simp
    have hzl : ∀ r, r < cap → ((Z r).take (L r)).length = L r := fun r h => by
      obtain ⟨_, h1, _, h3, _⟩ := hr r h
      rw [List.length_take]; omega
    refine ⟨some a, cap, (List.range len).map fun r => (Z r).take (L r), by rw [hlen], ?_, by omega, by omega, ?_⟩
    · rw [hlen]
      refine ⟨hlen, by omega, fun _ => ⟨a, rfl, fun j p hj => ?_⟩⟩
      have hjl : j < len := by
        have := (List.getElem?_eq_some_iff.1 hj).1
        rw [hlen] at this; exact this
      have hp : p = (Z j).take (L j) := by
        simp [hjl] at hj; exact hj.symm
      subst hp
      obtain ⟨h0, h1, h2, h3, h4, h5, h6⟩ := hr j (by omega)
      have hz := hzl j (by omega)
      refine ⟨[.slice (A j) (L j) (C j)], rfl, ⟨A j, C j, by rw [hz], by rw [hz]; exact h1, ?_⟩, fun i u hi => ?_⟩
      · rw [hz]
        refine Kd.C_of_reads (d := 0) (h1 := fun _ => rfl) ⟨hz, by omega, fun hp => ?_⟩
        cases hA : A j with
        | none => have := h5 hA; omega
        | some a' =>
          refine ⟨a', rfl, fun i hi => ?_⟩
          rw [(h6 a' hA).2 i (by omega)]
          simp [List.getD_eq_getElem?_getD, hi]
      · cases i with
        | zero =>
          have hu : u = .slice (A j) (L j) (C j) := by simpa using hi.symm
          rw [hu, show (Kd.slice tq (Kd.int .i64)).sz = 1 from rfl, Nat.mul_one, Nat.add_zero]
          exact h0
        | succ i => simp at hi
    · intro x hx
      obtain ⟨r, hr1, rfl⟩ := List.mem_map.1 hx
      have hrl := List.mem_range.1 hr1
      rw [hzl r (by omega)]
      obtain ⟨_, h1, h2, _⟩ := hr r (by omega)
      omega
set_option maxRecDepth 100000 in
theorem lifted (os : Os) (started : os.Started) (H : Type) (enc : TypeId × Value → H) :
    ReturnsInHanded {} Try.checked os 11 .any (Rows.fnExactPictureLinesSpec.pre6 enc Try.prog Try.f11 Rows.fnExactPictureLinesRow.domain false) (Rows.fnExactPictureLinesSpec.post enc Try.prog Try.f11 false true false false) := by
  refine returnsInHanded_of_change_sized (C := Try.checked) own started (by kernel_rfl) Try.func11
    (ChangeSpec.witness6 (enc := enc) (C := Try.checked) false ⟨#[], #[.agg #[.slice none 0 0, .slice none 0 0]], []⟩ 8 (by kernel_rfl) (by kernel_rfl) (by kernel_rfl) (by kernel_rfl)) ?_
  intro W base args ds gs before hval0 hW hcnd hsz0 _
  have hsz : (DataW.weightsEach Try.prog (Try.f11.params.toList ++ Rows.fnExactPictureLinesSpec.plain.varTypes Try.prog) (ds ++ gs)).all (· ≤ reachBytes) = true := hsz0
  have hval : ∀ (j : Nat) t v, Try.f11.params[j]? = some t → args[j]? = some v → Value.okWide Try.prog W .any base t v := hval0
  have hW' := hW
  obtain ⟨p, q, hA0, hV, rfl, hfz, hnd⟩ := hW
  have hA : DataW.TrodAll enc Try.prog W 0 (fun _ => true) true Try.f11.params.toList args.toList ds p := hA0
  rw [Try.params11] at hA hval hsz
  obtain ⟨v0, vs0, d0, ds0, p0, q0, hargs, rfl, rfl, h0, r0⟩ := trodAll_cons hA
  obtain ⟨rfl, rfl, rfl⟩ := trodAll_nil r0
  obtain rfl : args = #[v0] := by cases args; simp_all
  obtain ⟨rfl, rfl⟩ := trodVars_none hV
  have k0 := h0
  have lt0 : ∀ x ∈ p0, x.block < W.heap.size := by obtain ⟨m, hm⟩ := k0; exact DataW.trod_lt m _ _ _ hm
  obtain ⟨c0, c1, y0, y1, m, rfl, rfl, rfl, hy0, hy1⟩ := open_agg2 Try.underlying39 (by kernel_rfl) (by kernel_rfl) (hval 0 39 v0 rfl rfl) h0
  obtain ⟨a0, cap0, l0, rfl, hC0, hlc0, hle0, hx0⟩ := rows_in Try.underlying23 Try.underlying36 Try.underlying3 (by kernel_rfl) (by kernel_rfl) hy0 3
  obtain ⟨a1, cap1, l1, rfl, hC1, hlc1, hle1, hx1⟩ := rows_in Try.underlying23 Try.underlying36 Try.underlying3 (by kernel_rfl) (by kernel_rfl) hy1 3
  clear hA0 hval0 hsz0 hsz
  obtain ⟨k, h⟩ := Pure.FnExactPictureLines l0 l1 hx0 hle0 hx1 hle1
  refine (PFnExactPictureLines.laws_FnExactPictureLines.calls k a0 cap0 l0 a1 cap1 l1 true W hC0 hlc0 hC1 hlc1 h).mono fun e W' ⟨he, bel⟩ => ?_
  subst he
  exact ⟨_, rfl, _, _, _, [], _, [], hW', trodAll_mk1 (shut_bool Try.underlying4 _), (trodAll_cons_mk (Below.trod laidOut (by kernel_rfl) (of_decide_eq_true (by kernel_rfl)) k0 bel lt0) trodAll_mk0), rfl, bel.frame _, fun h => by cases h⟩
theorem over : Rows.fnExactPictureLinesRow.holds Try.pinned (OpenSpec.ofChange Rows.fnExactPictureLinesSpec) :=
  OpenClaim.holds_of_wide 11 Try.f11 rfl rfl rfl rfl rfl rfl rfl ⟨rfl, rfl, rfl, rfl, rfl⟩ rfl rfl rfl rfl rfl (by kernel_rfl) Try.func11 (by kernel_rfl)
    (of_decide_eq_true (by kernel_rfl)) (by unfold Func.isWrapper; first | (rw [if_pos (by decide +kernel)]; kernel_rfl) | (rw [if_neg (by decide +kernel)]; exact ⟨rfl, rfl⟩))
    (fun os started H enc _ => lifted os started H enc)
theorem proved : Rows.FnExactPictureLinesSaid := over
#print axioms proved
end Go.Proofs.Ytapnohcfnclleaa.fnExactPictureLines
namespace Go.Proofs.Ytapnohcfnclleaa
/-- The row, under a short name, for the claim. -/
theorem fnExactPictureLines_holds : Rows.FnExactPictureLinesSaid := fnExactPictureLines.proved
end Go.Proofs.Ytapnohcfnclleaa
