/- For every list of areas and every side AreasValid of the program answers what AreasValid of the reference answers, and leaves its argument as it was. No conditions beyond the arguments' types. -/
import Derived.Test.YtbnpdiahogigiaaPFnExactAreasValidx1
namespace Go.Proofs.Ytbnpdiahogigiaa.Pure
open Go.RowKit Go.Proofs.Ytbnpdiahogigiaa.PFnExactAreasValid Go.Proofs.YtbnpdiahogigiaaW.PrintWords Go.Proofs.YtbnpdiahogigiaaW.PrintLast Go.Proofs.YtbnpdiahogigiaaW.PrintMore
set_option linter.unusedVariables false
set_option linter.unusedSimpArgs false
/-! Ev: small steps. -/
theorem _root_.Go.Proofs.YtbnpdiahogigiaaW.PrintWords.Ev.ifp {α : Type} {c : Prop} [Decidable c] {g f : Nat → Option α} {r : α} (hc : c) (h : Ev g r) : Ev (fun k => if c then g k else f k) r :=
  Ev.congr (fun _ => if_pos hc) h
theorem _root_.Go.Proofs.YtbnpdiahogigiaaW.PrintWords.Ev.ifn {α : Type} {c : Prop} [Decidable c] {g f : Nat → Option α} {r : α} (hc : ¬ c) (h : Ev f r) : Ev (fun k => if c then g k else f k) r :=
  Ev.congr (fun _ => if_neg hc) h
theorem _root_.Go.Proofs.YtbnpdiahogigiaaW.PrintWords.Ev.bindc {α β : Type} {o : Option α} {f : Nat → α → Option β} {a : α} {r : β} (h : o = some a) (k : Ev (fun n => f n a) r) : Ev (fun n => o.bind (f n)) r := by
  subst h; exact k
theorem _root_.Go.Proofs.YtbnpdiahogigiaaW.PrintWords.Ev.eq {α : Type} {g : Nat → Option α} {r r' : α} (h : Ev g r) (e : r = r') : Ev g r' := e ▸ h
theorem _root_.Go.Proofs.YtbnpdiahogigiaaW.PrintWords.Ev.cst {α : Type} {o : Option α} {r : α} (h : o = some r) : Ev (fun _ => o) r := ⟨0, fun _ _ => h⟩
theorem w64 {x : Int} (h0 : -9223372036854775808 ≤ x) (h1 : x ≤ 9223372036854775807) : wrap64 x = x := by unfold wrap64; omega
theorem wf_i64 {x : Int} (h : (Lit.int .i64 x).wf = true) : -9223372036854775808 ≤ x ∧ x ≤ 9223372036854775807 := by
  have h2 : (decide (IntKind.i64.min ≤ x) && decide (x ≤ IntKind.i64.max)) = true := h
  simp [IntKind.min, IntKind.max, IntKind.bits, IntKind.signed] at h2
  exact h2
theorem wf_u8 {x : Int} (h : (Lit.int .u8 x).wf = true) : 0 ≤ x ∧ x ≤ 255 := by
  have h2 : (decide (IntKind.u8.min ≤ x) && decide (x ≤ IntKind.u8.max)) = true := h
  simp [IntKind.min, IntKind.max, IntKind.bits, IntKind.signed] at h2
  omega
theorem rd_nat (xs : List Int) (i : Nat) (h : i < xs.length) : rd xs (i : Int) = xs[i] := by
  simp [rd, List.getD_eq_getElem?_getD, h]
theorem rd_mem (xs : List Int) (i : Int) (h0 : 0 ≤ i) (h : i < xs.length) : rd xs i ∈ xs := by
  obtain ⟨n, rfl⟩ := Int.eq_ofNat_of_zero_le h0
  rw [rd_nat xs n (by omega)]; exact List.getElem_mem _
theorem l1In_f (a b c : Int) : spec_l1In.f a b c = some (decide (b ≤ a ∧ a ≤ c)) := by
  unfold spec_l1In.f
  by_cases h : a ≥ b
  · rw [if_pos h]; simp; omega
  · rw [if_neg h]; simp; omega
/-- What AreasValid answers. -/
def areasV (l : List Int) (s : Int) : Bool := decide (1 ≤ s ∧ s ≤ 6 ∧ (l.length : Int) = s * s) && l.all (fun x => decide (0 ≤ x ∧ x < s))
theorem six {s : Int} (h : 1 ≤ s ∧ s ≤ 6) : s = 1 ∨ s = 2 ∨ s = 3 ∨ s = 4 ∨ s = 5 ∨ s = 6 := by omega
theorem sq_six {s : Int} (h : 1 ≤ s ∧ s ≤ 6) : wrap64 (s * s) = s * s ∧ 1 ≤ s * s ∧ s * s ≤ 36 := by
  rcases six h with rfl | rfl | rfl | rfl | rfl | rfl <;> decide +kernel
theorem impl_areas_l (l : List Int) (s : Int) (hl : l.length ≤ 140737488351232) : ∀ (d i : Nat), l.length = i + d →
    Ev (fun k => impl_AreasValid.l0 k s l l.length i) ((l.drop i).all (fun x => decide (0 ≤ x ∧ x < s))) := by
  intro d
  induction d with
  | zero =>
    intro i hi
    refine Ev.step (f := fun _ => some true) (fun k => ?_) ((Ev.now _).eq (by rw [List.drop_eq_nil_of_le (by omega)]; rfl))
    rw [impl_AreasValid.l0]; rw [if_neg (by omega)]
  | succ d ih =>
    intro i hi
    have hlt : i < l.length := by omega
    have hw : wrap64 ((i : Int) + 1) = ((i + 1 : Nat) : Int) := by rw [w64 (by omega) (by omega)]; omega
    rw [List.drop_eq_getElem_cons hlt, List.all_cons]
    by_cases c : 0 ≤ l[i] ∧ l[i] < s
    · refine Ev.step (f := fun k => impl_AreasValid.l0 k s l l.length ((i + 1 : Nat) : Int)) (fun k => ?_) ((ih (i + 1) (by omega)).eq (by simp [c]))
      rw [impl_AreasValid.l0]
      rw [if_pos (by omega), if_pos (by omega), if_pos (by omega), rd_nat l i hlt, if_neg (by omega), if_neg (by omega), hw]
    · refine Ev.step (f := fun k => some false) (fun k => ?_) ((Ev.now _).eq (by simp [c]))
      rw [impl_AreasValid.l0]
      rw [if_pos (by omega), if_pos (by omega), if_pos (by omega), rd_nat l i hlt]
      by_cases c1 : l[i] < 0
      · rw [if_pos c1]
      · rw [if_neg c1, if_pos (by omega)]
theorem impl_areas (l : List Int) (s : Int) (hl : l.length ≤ 140737488351232) : Ev (fun k => impl_AreasValid.f k l s) (areasV l s) := by
  have no : ∀ b : Bool, b = true → areasV l s = false → Ev (fun k => impl_AreasValid.j0 k l s b) (areasV l s) := by
    intro b hb h
    refine Ev.step (f := fun _ => some false) (fun k => ?_) ((Ev.now _).eq h.symm)
    rw [impl_AreasValid.j0]; rw [if_pos hb]
  unfold impl_AreasValid.f
  by_cases c1 : s < 1
  · exact Ev.ifp c1 (no _ rfl (by unfold areasV; simp; omega))
  refine Ev.ifn c1 ?_
  by_cases c2 : s > 6
  · exact Ev.ifp c2 (no _ rfl (by unfold areasV; simp; omega))
  refine Ev.ifn c2 ?_
  have hs := sq_six (s := s) (by omega)
  rw [hs.1]
  by_cases c3 : (l.length : Int) = s * s
  · refine Ev.step (f := fun k => impl_AreasValid.l0 k s l l.length ((0 : Nat) : Int)) (fun k => ?_) ((impl_areas_l l s hl l.length 0 (by omega)).eq ?_)
    · rw [impl_AreasValid.j0]; rw [if_neg (by simp [c3])]; rfl
    · unfold areasV
      have : decide (1 ≤ s ∧ s ≤ 6 ∧ (l.length : Int) = s * s) = true := by simp; omega
      rw [this]; simp
  · exact no _ (by simp [c3]) (by unfold areasV; simp [c3])
theorem spec_areas_l (l : List Int) (s : Int) (hl : l.length ≤ 140737488351232) : ∀ (d i : Nat), l.length = i + d →
    Ev (fun k => spec_AreasValid.l0 k l s i) ((l.drop i).all (fun x => decide (0 ≤ x ∧ x ≤ wrap64 (s - 1))) && decide (1 ≤ s ∧ s ≤ 6 ∧ (l.length : Int) = s * s)) := by
  intro d
  induction d with
  | zero =>
    intro i hi
    refine Ev.step (f := fun _ => (spec_l1In.f s 1 6).bind fun t103 => (if t103 = true then (some ((l.length : Int) == (wrap64 (s * s)))) else (some false))) (fun k => ?_) ?_
    · rw [spec_AreasValid.l0]; rw [if_neg (by omega)]
    · refine Ev.bindc (l1In_f s 1 6) ?_
      rw [List.drop_eq_nil_of_le (by omega)]
      by_cases c : 1 ≤ s ∧ s ≤ 6
      · refine Ev.ifp (by simpa using c) ((Ev.now _).eq ?_)
        rw [(sq_six c).1]
        simp only [List.all_nil, Bool.true_and]
        by_cases e : (l.length : Int) = s * s
        · simp [e]; omega
        · simp [e]
      · refine Ev.ifn (by simpa using c) ((Ev.now _).eq ?_)
        simp only [List.all_nil, Bool.true_and]
        symm; simp; omega
  | succ d ih =>
    intro i hi
    have hlt : i < l.length := by omega
    have hw : wrap64 ((i : Int) + 1) = ((i + 1 : Nat) : Int) := by rw [w64 (by omega) (by omega)]; omega
    rw [List.drop_eq_getElem_cons hlt, List.all_cons]
    by_cases c : 0 ≤ l[i] ∧ l[i] ≤ wrap64 (s - 1)
    · refine Ev.step (f := fun k => spec_AreasValid.l0 k l s ((i + 1 : Nat) : Int)) (fun k => ?_) ((ih (i + 1) (by omega)).eq (by simp [c]))
      rw [spec_AreasValid.l0]
      rw [if_pos (by omega), if_pos (by omega), rd_nat l i hlt, l1In_f]
      simp only [Option.bind_some]
      rw [if_pos (by simpa using c), hw]
    · refine Ev.step (f := fun k => some false) (fun k => ?_) ((Ev.now _).eq (by simp [c]))
      rw [spec_AreasValid.l0]
      rw [if_pos (by omega), if_pos (by omega), rd_nat l i hlt, l1In_f]
      simp only [Option.bind_some]
      rw [if_neg (by simpa using c)]
theorem spec_areas (l : List Int) (s : Int) (hl : l.length ≤ 140737488351232) : Ev (fun k => spec_AreasValid.f k l s) (areasV l s) := by
  unfold spec_AreasValid.f
  refine (spec_areas_l l s hl l.length 0 (by omega)).eq ?_
  unfold areasV
  by_cases c : 1 ≤ s ∧ s ≤ 6
  · rw [w64 (by omega) (by omega), List.drop_zero, Bool.and_comm]
    congr 1
    congr 1
    funext x
    rw [decide_eq_decide]; omega
  · have e : decide (1 ≤ s ∧ s ≤ 6 ∧ (l.length : Int) = s * s) = false := by simp; omega
    rw [e]; simp
theorem toIntS_l (xs : List Int) (hn : xs.length ≤ 35184372088832) : ∀ (d : Nat) (ys : List Int) (i : Nat), ys.length = xs.length → xs.length = i + d →
    Ev (fun k => laws_toIntS.l0 k xs ys i) (ys.take i ++ xs.drop i) := by
  intro d
  induction d with
  | zero =>
    intro ys i hy hi
    refine Ev.step (f := fun _ => some ys) (fun k => ?_) ((Ev.now _).eq ?_)
    · rw [laws_toIntS.l0]; rw [if_neg (by omega)]
    · rw [List.drop_eq_nil_of_le (by omega), List.take_of_length_le (by omega)]; simp
  | succ d ih =>
    intro ys i hy hi
    have hw : wrap64 ((i : Int) + 1) = ((i + 1 : Nat) : Int) := by rw [w64 (by omega) (by omega)]; omega
    have hlt : i < xs.length := by omega
    refine Ev.step (f := fun k => laws_toIntS.l0 k xs (ys.set i xs[i]) ((i + 1 : Nat) : Int)) (fun k => ?_) ((ih (ys.set i xs[i]) (i + 1) (by simp [hy]) (by omega)).eq ?_)
    · rw [laws_toIntS.l0]; rw [if_pos (by omega), if_pos (by omega), if_pos (by omega), rd_nat xs i hlt, hw]; simp
    · rw [List.take_add_one, List.take_set_of_le (Nat.le_refl i), List.drop_eq_getElem_cons hlt]
      simp [show i < ys.length by omega]
theorem toIntS_ev (xs : List Int) (hn : xs.length ≤ 35184372088832) : Ev (fun k => laws_toIntS.f k xs) xs := by
  unfold laws_toIntS.f
  refine Ev.ifp (by omega) (Ev.ifp (by omega) ?_)
  have h := toIntS_l xs hn xs.length (List.replicate xs.length 0) 0 (by simp) (by omega)
  simpa using h
theorem eqIntS_l (a b : List Int) (h : a.length = b.length) (hl : a.length ≤ 140737488351232) : ∀ (d i : Nat), a.length = i + d → Ev (fun k => laws_eqIntS.l0 k a b i) (decide (a.drop i = b.drop i)) := by
  intro d
  induction d with
  | zero =>
    intro i hi
    refine Ev.step (f := fun _ => some (decide (a.drop i = b.drop i))) (fun k => ?_) (Ev.now _)
    rw [laws_eqIntS.l0]; rw [if_neg (by omega), List.drop_eq_nil_of_le (by omega), List.drop_eq_nil_of_le (by omega)]; simp
  | succ d ih =>
    intro i hi
    have ha : i < a.length := by omega
    have hb : i < b.length := by omega
    have hw : wrap64 ((i : Int) + 1) = ((i + 1 : Nat) : Int) := by rw [w64 (by omega) (by omega)]; omega
    by_cases c : a[i] = b[i]
    · refine Ev.step (f := fun k => laws_eqIntS.l0 k a b ((i + 1 : Nat) : Int)) (fun k => ?_) ((ih (i + 1) (by omega)).eq ?_)
      · rw [laws_eqIntS.l0]; rw [if_pos (by omega), if_pos (by omega), if_pos (by omega), rd_nat a i ha, rd_nat b i hb, if_pos c, hw]
      · rw [List.drop_eq_getElem_cons ha, List.drop_eq_getElem_cons hb, c]; simp only [List.cons.injEq, true_and]
    · refine Ev.step (f := fun k => some false) (fun k => ?_) ((Ev.now _).eq ?_)
      · rw [laws_eqIntS.l0]; rw [if_pos (by omega), if_pos (by omega), if_pos (by omega), rd_nat a i ha, rd_nat b i hb, if_neg c]
      · rw [List.drop_eq_getElem_cons ha, List.drop_eq_getElem_cons hb]; simp only [List.cons.injEq, c, false_and, decide_false]
theorem eqIntS_ev (a b : List Int) (hl : a.length ≤ 140737488351232) : Ev (fun k => laws_eqIntS.f k a b) (decide (a = b)) := by
  unfold laws_eqIntS.f
  by_cases h : a.length = b.length
  · exact Ev.ifp (by omega) ((eqIntS_l a b h hl a.length 0 (by omega)).eq (by simp))
  · refine Ev.ifn (by omega) ((Ev.now false).eq ?_)
    symm; simp; intro e; exact h (by rw [e])
theorem eqIntS_self (a : List Int) (hl : a.length ≤ 140737488351232) : Ev (fun k => laws_eqIntS.f k a a) true := (eqIntS_ev a a hl).eq (by simp)
theorem FnExactAreasValid : laws_FnExactAreasValid.Pure := by
  intro l s _ _ _ _
  apply Ev.rounds
  unfold laws_FnExactAreasValid.f
  by_cases c0 : (l.length : Int) > 1048576
  · exact Ev.ifp c0 (Ev.now _)
  have hT := toIntS_ev l (by omega)
  refine Ev.ifn c0 (Ev.bind hT (Ev.bind (spec_areas l s (by omega)) (Ev.bind hT (Ev.bind (impl_areas l s (by omega)) (Ev.ifn (by simp) (Ev.bind hT (Ev.bind (eqIntS_self l (by omega)) (Ev.ifp rfl (Ev.now _)))))))))

end Go.Proofs.Ytbnpdiahogigiaa.Pure
