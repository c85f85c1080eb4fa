/- The row of FnExactPictureOf: over its walk and the pure statement; for all rows whatever. -/
import Derived.Test.YtapnohcfnclleaaRows
import Derived.Test.YtapnohcfnclleaaPFnExactPictureOfx7
import Derived.Test.YtapnohcfnclleaaPureFnExactPictureOf
import Derived.WalkKit
import Derived.ProofKit
import Derived.OpenShut
import Derived.ShutString
import Derived.ChangeOld
import Derived.ChangeArms
import Derived.Below
import Derived.SizedLaws
import Derived.Lib.SmallJoins
import Derived.Deep.Grids
import Derived.Deep.Matrix
namespace Go.Proofs.Ytapnohcfnclleaa.fnExactPictureOf
open Go.ChangeShapes Go.WideShapes Go.ChangeAt Go.RowKit Go.Joins
open Go.Proofs.YtapnohcfnclleaaW.PrintWords
set_option linter.unusedVariables false
theorem own : ownKnob Try.prog.godebug = none := by kernel_rfl
theorem laidOut : laidOutB Try.prog = true := by kernel_rfl
/-- What a slice of slices of bools that came in is read as. -/
theorem rowsb_in {H : Type} {enc : TypeId × Value → H} {W : World} {t e q n : Nat} {v : Value} {y : DataW H × List MemPlace} (hu : Try.prog.underlying t = some (.slice e)) (he : Try.prog.underlying e = some (.slice q)) (hq : Try.prog.underlying q = some .bool)
    (ce : Try.prog.cellsOf e = 1) (cq : Try.prog.cellsOf q = 1) (h : DataW.trod enc Try.prog W 0 (fun _ => true) true n t [v] = some y) (tq : Nat) :
    ∃ (a : Option Addr) (cap : Nat) (l : List (List Bool)), v = .slice a l.length cap ∧ Kd.C (Kd.slice tq Kd.bool) W a l.length l ∧ l.length ≤ cap ∧ l.length ≤ 9223372036854775807 ∧ ∀ x ∈ l, x.length ≤ 9223372036854775807 := by
  have hml : maxLen = 9223372036854775807 := by decide +kernel
  rcases Deep.open_bool_rows hu he hq ce cq h with ⟨hcs, _⟩ | ⟨a, len, cap, A, L, C, B, hcs, _, hl, hm, _, hr⟩
  · cases hcs
    exact ⟨none, 0, [], rfl, Kd.C_nil _ _, Nat.le_refl _, by simp, by simp⟩
  · cases hcs
    have hlen : ((List.range len).map fun r => (List.range (L r)).map (B r)).length = len := by simp
    have hzl : ∀ r, r < cap → ((List.range (L r)).map (B r)).length = L r := fun r _ => by simp
    refine ⟨some a, cap, (List.range len).map fun r => (List.range (L r)).map (B r), by rw [hlen], ?_, by omega, by omega, ?_⟩
    · rw [hlen]
      refine ⟨hlen, by omega, fun _ => ⟨a, rfl, fun j p hj => ?_⟩⟩
      have hjl : j < len := by
        have := (List.getElem?_eq_some_iff.1 hj).1
        rw [hlen] at this; exact this
      have hp : p = (List.range (L j)).map (B j) := by
        simp [hjl] at hj; exact hj.symm
      subst hp
      obtain ⟨h0, h1, h2, h5, h6⟩ := hr j (by omega)
      have hz := hzl j (by omega)
      refine ⟨[.slice (A j) (L j) (C j)], rfl, ⟨A j, C j, by rw [hz], by rw [hz]; exact h1, ?_⟩, fun i u hi => ?_⟩
      · rw [hz]
        refine Kd.C_of_reads (d := false) (h1 := fun _ => rfl) ⟨hz, by omega, fun hp => ?_⟩
        cases hA : A j with
        | none => have := h5 hA; omega
        | some a' =>
          refine ⟨a', rfl, fun i hi => ?_⟩
          rw [(h6 a' hA).2 i (by omega)]
          simp [List.getD_eq_getElem?_getD, hi]
      · cases i with
        | zero =>
          have hu : u = .slice (A j) (L j) (C j) := by simpa using hi.symm
          rw [hu, show (Kd.slice tq Kd.bool).sz = 1 from rfl, Nat.mul_one, Nat.add_zero]
          exact h0
        | succ i => simp at hi
    · intro x hx
      obtain ⟨r, hr1, rfl⟩ := List.mem_map.1 hx
      have hrl := List.mem_range.1 hr1
      rw [hzl r (by omega)]
      obtain ⟨_, h1, h2, _⟩ := hr r (by omega)
      omega
set_option maxRecDepth 100000 in
theorem lifted (os : Os) (started : os.Started) (H : Type) (enc : TypeId × Value → H) :
    ReturnsInHanded {} Try.checked os 6 .any (Rows.fnExactPictureOfSpec.pre6 enc Try.prog Try.f6 Rows.fnExactPictureOfRow.domain false) (Rows.fnExactPictureOfSpec.post enc Try.prog Try.f6 false true false false) := by
  refine returnsInHanded_of_change_sized (C := Try.checked) own started (by kernel_rfl) Try.func6
    (ChangeSpec.witness6 (enc := enc) (C := Try.checked) false ⟨#[], #[.slice none 0 0], []⟩ 8 (by kernel_rfl) (by kernel_rfl) (by kernel_rfl) (by kernel_rfl)) ?_
  intro W base args ds gs before hval0 hW hcnd hsz0 _
  have hsz : (DataW.weightsEach Try.prog (Try.f6.params.toList ++ Rows.fnExactPictureOfSpec.plain.varTypes Try.prog) (ds ++ gs)).all (· ≤ reachBytes) = true := hsz0
  have hval : ∀ (j : Nat) t v, Try.f6.params[j]? = some t → args[j]? = some v → Value.okWide Try.prog W .any base t v := hval0
  have hW' := hW
  obtain ⟨p, q, hA0, hV, rfl, hfz, hnd⟩ := hW
  have hA : DataW.TrodAll enc Try.prog W 0 (fun _ => true) true Try.f6.params.toList args.toList ds p := hA0
  rw [Try.params6] at hA hval hsz
  obtain ⟨v0, vs0, d0, ds0, p0, q0, hargs, rfl, rfl, h0, r0⟩ := trodAll_cons hA
  obtain ⟨rfl, rfl, rfl⟩ := trodAll_nil r0
  obtain rfl : args = #[v0] := by cases args; simp_all
  obtain ⟨rfl, rfl⟩ := trodVars_none hV
  have k0 := h0
  have lt0 : ∀ x ∈ p0, x.block < W.heap.size := by obtain ⟨m, hm⟩ := k0; exact DataW.trod_lt m _ _ _ hm
  obtain ⟨a0, len0, cap0, rfl⟩ := okWide_slice Try.underlying32 (hval 0 32 v0 rfl rfl)
  obtain ⟨fu, hf⟩ := h0
  obtain ⟨a1, cap1, l0, ev, hC0, hlc0, hle0, hx0⟩ := rowsb_in (v := .slice a0 len0 cap0) Try.underlying32 Try.underlying37 Try.underlying4 (by kernel_rfl) (by kernel_rfl) hf 4
  obtain ⟨rfl, rfl, rfl⟩ := (Value.slice.injEq _ _ _ _ _ _).mp ev
  clear hA0 hval0 hsz0 hsz
  obtain ⟨k, h⟩ := Pure.FnExactPictureOf l0 hx0 hle0
  refine (PFnExactPictureOf.laws_FnExactPictureOf.calls k a0 cap0 l0 true W hC0 hlc0 h).mono fun e W' ⟨he, bel⟩ => ?_
  subst he
  exact ⟨_, rfl, _, _, _, [], _, [], hW', trodAll_mk1 (shut_bool Try.underlying4 _), (trodAll_cons_mk (Below.trod laidOut (by kernel_rfl) (of_decide_eq_true (by kernel_rfl)) k0 bel lt0) trodAll_mk0), rfl, bel.frame _, fun h => by cases h⟩
theorem over : Rows.fnExactPictureOfRow.holds Try.pinned (OpenSpec.ofChange Rows.fnExactPictureOfSpec) :=
  OpenClaim.holds_of_wide 6 Try.f6 rfl rfl rfl rfl rfl rfl rfl ⟨rfl, rfl, rfl, rfl, rfl⟩ rfl rfl rfl rfl rfl (by kernel_rfl) Try.func6 (by kernel_rfl)
    (of_decide_eq_true (by kernel_rfl)) (by unfold Func.isWrapper; first | (rw [if_pos (by decide +kernel)]; kernel_rfl) | (rw [if_neg (by decide +kernel)]; exact ⟨rfl, rfl⟩))
    (fun os started H enc _ => lifted os started H enc)
theorem proved : Rows.FnExactPictureOfSaid := over
#print axioms proved
end Go.Proofs.Ytapnohcfnclleaa.fnExactPictureOf
namespace Go.Proofs.Ytapnohcfnclleaa
/-- The row, under a short name, for the claim. -/
theorem fnExactPictureOf_holds : Rows.FnExactPictureOfSaid := fnExactPictureOf.proved
end Go.Proofs.Ytapnohcfnclleaa
