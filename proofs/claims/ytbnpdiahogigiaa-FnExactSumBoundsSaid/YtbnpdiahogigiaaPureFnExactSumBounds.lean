/- For every number SumBounds of the program returns the same two sums as SumBounds of the reference. No conditions beyond the argument being an int. -/
import Derived.Test.YtbnpdiahogigiaaPFnExactSumBoundsx1
namespace Go.Proofs.Ytbnpdiahogigiaa.Pure
open Go.RowKit Go.Proofs.Ytbnpdiahogigiaa.PFnExactSumBounds Go.Proofs.YtbnpdiahogigiaaW.PrintWords Go.Proofs.YtbnpdiahogigiaaW.PrintLast Go.Proofs.YtbnpdiahogigiaaW.PrintMore
set_option linter.unusedVariables false
set_option linter.unusedSimpArgs false
/-! Ev: small steps. -/
theorem _root_.Go.Proofs.YtbnpdiahogigiaaW.PrintWords.Ev.ifp {α : Type} {c : Prop} [Decidable c] {g f : Nat → Option α} {r : α} (hc : c) (h : Ev g r) : Ev (fun k => if c then g k else f k) r :=
  Ev.congr (fun _ => if_pos hc) h
theorem _root_.Go.Proofs.YtbnpdiahogigiaaW.PrintWords.Ev.ifn {α : Type} {c : Prop} [Decidable c] {g f : Nat → Option α} {r : α} (hc : ¬ c) (h : Ev f r) : Ev (fun k => if c then g k else f k) r :=
  Ev.congr (fun _ => if_neg hc) h
theorem _root_.Go.Proofs.YtbnpdiahogigiaaW.PrintWords.Ev.bindc {α β : Type} {o : Option α} {f : Nat → α → Option β} {a : α} {r : β} (h : o = some a) (k : Ev (fun n => f n a) r) : Ev (fun n => o.bind (f n)) r := by
  subst h; exact k
theorem _root_.Go.Proofs.YtbnpdiahogigiaaW.PrintWords.Ev.eq {α : Type} {g : Nat → Option α} {r r' : α} (h : Ev g r) (e : r = r') : Ev g r' := e ▸ h
theorem _root_.Go.Proofs.YtbnpdiahogigiaaW.PrintWords.Ev.cst {α : Type} {o : Option α} {r : α} (h : o = some r) : Ev (fun _ => o) r := ⟨0, fun _ _ => h⟩
theorem w64 {x : Int} (h0 : -9223372036854775808 ≤ x) (h1 : x ≤ 9223372036854775807) : wrap64 x = x := by unfold wrap64; omega
theorem wf_i64 {x : Int} (h : (Lit.int .i64 x).wf = true) : -9223372036854775808 ≤ x ∧ x ≤ 9223372036854775807 := by
  have h2 : (decide (IntKind.i64.min ≤ x) && decide (x ≤ IntKind.i64.max)) = true := h
  simp [IntKind.min, IntKind.max, IntKind.bits, IntKind.signed] at h2
  exact h2
theorem wf_u8 {x : Int} (h : (Lit.int .u8 x).wf = true) : 0 ≤ x ∧ x ≤ 255 := by
  have h2 : (decide (IntKind.u8.min ≤ x) && decide (x ≤ IntKind.u8.max)) = true := h
  simp [IntKind.min, IntKind.max, IntKind.bits, IntKind.signed] at h2
  omega
theorem rd_nat (xs : List Int) (i : Nat) (h : i < xs.length) : rd xs (i : Int) = xs[i] := by
  simp [rd, List.getD_eq_getElem?_getD, h]
theorem rd_mem (xs : List Int) (i : Int) (h0 : 0 ≤ i) (h : i < xs.length) : rd xs i ∈ xs := by
  obtain ⟨n, rfl⟩ := Int.eq_ofNat_of_zero_le h0
  rw [rd_nat xs n (by omega)]; exact List.getElem_mem _
theorem l1In_f (a b c : Int) : spec_l1In.f a b c = some (decide (b ≤ a ∧ a ≤ c)) := by
  unfold spec_l1In.f
  by_cases h : a ≥ b
  · rw [if_pos h]; simp; omega
  · rw [if_neg h]; simp; omega
/-- What SumBounds answers. -/
def boundsV (n : Int) : Int × Int := if 0 ≤ n ∧ n ≤ 9 then (n * (n + 1) / 2, n * (19 - n) / 2) else (-1, -1)
theorem nine {n : Int} (h : 0 ≤ n ∧ n ≤ 9) : n = 0 ∨ n = 1 ∨ n = 2 ∨ n = 3 ∨ n = 4 ∨ n = 5 ∨ n = 6 ∨ n = 7 ∨ n = 8 ∨ n = 9 := by omega
theorem spec_bounds (n : Int) : spec_SumBounds.f n = some (boundsV n) := by
  unfold spec_SumBounds.f boundsV
  rw [l1In_f]
  simp only [Option.bind_some]
  by_cases h : 0 ≤ n ∧ n ≤ 9
  · rcases nine h with rfl | rfl | rfl | rfl | rfl | rfl | rfl | rfl | rfl | rfl <;> decide +kernel
  · rw [if_neg (by simpa using h), if_neg h]
theorem impl_bounds (n : Int) : Ev (fun k => impl_SumBounds.f k n) (boundsV n) := by
  by_cases h : 0 ≤ n ∧ n ≤ 9
  · rcases nine h with rfl | rfl | rfl | rfl | rfl | rfl | rfl | rfl | rfl | rfl <;> exact Ev.of (fun k => impl_SumBounds.mono _ k) (k := 20) (by decide +kernel)
  · have no : ∀ b : Bool, b = true → Ev (fun k => impl_SumBounds.j0 k n b) (boundsV n) := by
      intro b hb
      refine Ev.step (f := fun _ => some (-1, -1)) (fun k => ?_) ((Ev.now _).eq ?_)
      · rw [impl_SumBounds.j0]; rw [if_pos hb]
      · unfold boundsV; rw [if_neg h]
    unfold impl_SumBounds.f
    by_cases c : n < 0
    · exact Ev.ifp c (no _ rfl)
    · exact Ev.ifn c (no _ (by simp; omega))
theorem FnExactSumBounds : laws_FnExactSumBounds.Pure := by
  intro n _
  apply Ev.rounds
  unfold laws_FnExactSumBounds.f
  refine Ev.bindc (spec_bounds n) (Ev.bind (impl_bounds n) (Ev.ifp rfl ?_))
  first
  | exact Ev.ifp rfl (Ev.now _)
  | exact (Ev.now _).eq (by simp)

end Go.Proofs.Ytbnpdiahogigiaa.Pure
