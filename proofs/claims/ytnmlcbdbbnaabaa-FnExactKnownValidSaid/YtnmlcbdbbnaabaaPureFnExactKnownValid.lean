/- For every list KnownValid of the program answers what KnownValid of the reference answers, and leaves its argument as it was. No conditions beyond the argument's type. -/
import Derived.Test.YtnmlcbdbbnaabaaPFnExactKnownValidx1
namespace Go.Proofs.Ytnmlcbdbbnaabaa.Pure
open Go.RowKit Go.Proofs.Ytnmlcbdbbnaabaa.PFnExactKnownValid Go.Proofs.YtnmlcbdbbnaabaaW.PrintWords Go.Proofs.YtnmlcbdbbnaabaaW.PrintLast Go.Proofs.YtnmlcbdbbnaabaaW.PrintMore
set_option linter.unusedVariables false
set_option linter.unusedSimpArgs false
/-! Ev: small steps. -/
theorem _root_.Go.Proofs.YtnmlcbdbbnaabaaW.PrintWords.Ev.ifp {α : Type} {c : Prop} [Decidable c] {g f : Nat → Option α} {r : α} (hc : c) (h : Ev g r) : Ev (fun k => if c then g k else f k) r :=
  Ev.congr (fun _ => if_pos hc) h
theorem _root_.Go.Proofs.YtnmlcbdbbnaabaaW.PrintWords.Ev.ifn {α : Type} {c : Prop} [Decidable c] {g f : Nat → Option α} {r : α} (hc : ¬ c) (h : Ev f r) : Ev (fun k => if c then g k else f k) r :=
  Ev.congr (fun _ => if_neg hc) h
theorem _root_.Go.Proofs.YtnmlcbdbbnaabaaW.PrintWords.Ev.bindc {α β : Type} {o : Option α} {f : Nat → α → Option β} {a : α} {r : β} (h : o = some a) (k : Ev (fun n => f n a) r) : Ev (fun n => o.bind (f n)) r := by
  subst h; exact k
theorem _root_.Go.Proofs.YtnmlcbdbbnaabaaW.PrintWords.Ev.eq {α : Type} {g : Nat → Option α} {r r' : α} (h : Ev g r) (e : r = r') : Ev g r' := e ▸ h
theorem _root_.Go.Proofs.YtnmlcbdbbnaabaaW.PrintWords.Ev.cst {α : Type} {o : Option α} {r : α} (h : o = some r) : Ev (fun _ => o) r := ⟨0, fun _ _ => h⟩
theorem w64 {x : Int} (h0 : -9223372036854775808 ≤ x) (h1 : x ≤ 9223372036854775807) : wrap64 x = x := by unfold wrap64; omega
theorem wf_i64 {x : Int} (h : (Lit.int .i64 x).wf = true) : -9223372036854775808 ≤ x ∧ x ≤ 9223372036854775807 := by
  have h2 : (decide (IntKind.i64.min ≤ x) && decide (x ≤ IntKind.i64.max)) = true := h
  simp [IntKind.min, IntKind.max, IntKind.bits, IntKind.signed] at h2
  exact h2
theorem wf_u8 {x : Int} (h : (Lit.int .u8 x).wf = true) : 0 ≤ x ∧ x ≤ 255 := by
  have h2 : (decide (IntKind.u8.min ≤ x) && decide (x ≤ IntKind.u8.max)) = true := h
  simp [IntKind.min, IntKind.max, IntKind.bits, IntKind.signed] at h2
  omega
theorem rd_nat (xs : List Int) (i : Nat) (h : i < xs.length) : rd xs (i : Int) = xs[i] := by
  simp [rd, List.getD_eq_getElem?_getD, h]
theorem rd_mem (xs : List Int) (i : Int) (h0 : 0 ≤ i) (h : i < xs.length) : rd xs i ∈ xs := by
  obtain ⟨n, rfl⟩ := Int.eq_ofNat_of_zero_le h0
  rw [rd_nat xs n (by omega)]; exact List.getElem_mem _
theorem l1In_f (a b c : Int) : spec_l1In.f a b c = some (decide (b ≤ a ∧ a ≤ c)) := by
  unfold spec_l1In.f
  by_cases h : a ≥ b
  · rw [if_pos h]; simp; omega
  · rw [if_neg h]; simp; omega
/-- What KnownValid answers. -/
def knownV (l : List Int) : Bool := l.all (fun x => decide (-1 ≤ x ∧ x ≤ 1)) && decide (1 ≤ (l.length : Int) ∧ (l.length : Int) ≤ 8)
theorem spec_known_l (l : List Int) (hl : l.length ≤ 140737488351232) : ∀ (d i : Nat), l.length = i + d →
    Ev (fun k => spec_KnownValid.l0 k l i) ((l.drop i).all (fun x => decide (-1 ≤ x ∧ x ≤ 1)) && decide (1 ≤ (l.length : Int) ∧ (l.length : Int) ≤ 8)) := by
  intro d
  induction d with
  | zero =>
    intro i hi
    refine Ev.step (fun k => by rw [spec_KnownValid.l0]) (Ev.ifn (by omega) (Ev.bindc (l1In_f _ _ _) (Ev.eq (Ev.now _) ?_)))
    rw [List.drop_eq_nil_of_le (by omega)]; simp
  | succ d ih =>
    intro i hi
    have hlt : i < l.length := by omega
    have hw : wrap64 ((i : Int) + 1) = ((i + 1 : Nat) : Int) := by rw [w64 (by omega) (by omega)]; omega
    refine Ev.step (fun k => by rw [spec_KnownValid.l0]) ?_
    rw [rd_nat l i hlt, hw, List.drop_eq_getElem_cons hlt, List.all_cons]
    refine Ev.ifp (by omega) (Ev.ifp (by omega) (Ev.bindc (l1In_f _ _ _) ?_))
    by_cases c : -1 ≤ l[i] ∧ l[i] ≤ 1
    · exact Ev.ifp (by simpa using c) (Ev.eq (ih (i + 1) (by omega)) (by simp [c]))
    · exact Ev.ifn (by simpa using c) (Ev.eq (Ev.now _) (by simp [c]))
theorem spec_known (l : List Int) (hl : l.length ≤ 140737488351232) : Ev (fun k => spec_KnownValid.f k l) (knownV l) := by
  unfold spec_KnownValid.f
  exact spec_known_l l hl l.length 0 (by omega)
theorem impl_known_l (l : List Int) (hl : l.length ≤ 140737488351232) : ∀ (d i : Nat), l.length = i + d →
    Ev (fun k => impl_KnownValid.l0 k l l l.length i) ((l.drop i).all (fun x => decide (-1 ≤ x ∧ x ≤ 1)) && decide (1 ≤ (l.length : Int) ∧ (l.length : Int) ≤ 8)) := by
  intro d
  induction d with
  | zero =>
    intro i hi
    refine Ev.step (fun k => by rw [impl_KnownValid.l0]) (Ev.ifn (by omega) ?_)
    rw [List.drop_eq_nil_of_le (by omega)]
    by_cases c : (l.length : Int) ≥ 1
    · exact Ev.ifp c (Ev.eq (Ev.now _) (by simp; omega))
    · exact Ev.ifn c (Ev.eq (Ev.now _) (by simp; omega))
  | succ d ih =>
    intro i hi
    have hlt : i < l.length := by omega
    have hw : wrap64 ((i : Int) + 1) = ((i + 1 : Nat) : Int) := by rw [w64 (by omega) (by omega)]; omega
    refine Ev.step (fun k => by rw [impl_KnownValid.l0]) ?_
    rw [rd_nat l i hlt, hw, List.drop_eq_getElem_cons hlt, List.all_cons]
    refine Ev.ifp (by omega) (Ev.ifp (by omega) (Ev.ifp (by omega) ?_))
    by_cases c1 : l[i] < -1
    · exact Ev.ifp c1 (Ev.eq (Ev.now _) (by simp; omega))
    refine Ev.ifn c1 ?_
    by_cases c2 : l[i] > 1
    · exact Ev.ifp c2 (Ev.eq (Ev.now _) (by simp; omega))
    · have h : -1 ≤ l[i] ∧ l[i] ≤ 1 := by omega
      exact Ev.ifn c2 (Ev.eq (ih (i + 1) (by omega)) (by simp [h]))
theorem impl_known (l : List Int) (hl : l.length ≤ 140737488351232) : Ev (fun k => impl_KnownValid.f k l) (knownV l) := by
  unfold impl_KnownValid.f
  exact impl_known_l l hl l.length 0 (by omega)
theorem toIntS_l (xs : List Int) (hn : xs.length ≤ 35184372088832) : ∀ (d : Nat) (ys : List Int) (i : Nat), ys.length = xs.length → xs.length = i + d →
    Ev (fun k => laws_toIntS.l0 k xs ys i) (ys.take i ++ xs.drop i) := by
  intro d
  induction d with
  | zero =>
    intro ys i hy hi
    refine Ev.step (f := fun _ => some ys) (fun k => ?_) ((Ev.now _).eq ?_)
    · rw [laws_toIntS.l0]; rw [if_neg (by omega)]
    · rw [List.drop_eq_nil_of_le (by omega), List.take_of_length_le (by omega)]; simp
  | succ d ih =>
    intro ys i hy hi
    have hw : wrap64 ((i : Int) + 1) = ((i + 1 : Nat) : Int) := by rw [w64 (by omega) (by omega)]; omega
    have hlt : i < xs.length := by omega
    refine Ev.step (f := fun k => laws_toIntS.l0 k xs (ys.set i xs[i]) ((i + 1 : Nat) : Int)) (fun k => ?_) ((ih (ys.set i xs[i]) (i + 1) (by simp [hy]) (by omega)).eq ?_)
    · rw [laws_toIntS.l0]; rw [if_pos (by omega), if_pos (by omega), if_pos (by omega), rd_nat xs i hlt, hw]; simp
    · rw [List.take_add_one, List.take_set_of_le (Nat.le_refl i), List.drop_eq_getElem_cons hlt]
      simp [show i < ys.length by omega]
theorem toIntS_ev (xs : List Int) (hn : xs.length ≤ 35184372088832) : Ev (fun k => laws_toIntS.f k xs) xs := by
  unfold laws_toIntS.f
  refine Ev.ifp (by omega) (Ev.ifp (by omega) ?_)
  have h := toIntS_l xs hn xs.length (List.replicate xs.length 0) 0 (by simp) (by omega)
  simpa using h
theorem eqIntS_l (a b : List Int) (h : a.length = b.length) (hl : a.length ≤ 140737488351232) : ∀ (d i : Nat), a.length = i + d → Ev (fun k => laws_eqIntS.l0 k a b i) (decide (a.drop i = b.drop i)) := by
  intro d
  induction d with
  | zero =>
    intro i hi
    refine Ev.step (f := fun _ => some (decide (a.drop i = b.drop i))) (fun k => ?_) (Ev.now _)
    rw [laws_eqIntS.l0]; rw [if_neg (by omega), List.drop_eq_nil_of_le (by omega), List.drop_eq_nil_of_le (by omega)]; simp
  | succ d ih =>
    intro i hi
    have ha : i < a.length := by omega
    have hb : i < b.length := by omega
    have hw : wrap64 ((i : Int) + 1) = ((i + 1 : Nat) : Int) := by rw [w64 (by omega) (by omega)]; omega
    by_cases c : a[i] = b[i]
    · refine Ev.step (f := fun k => laws_eqIntS.l0 k a b ((i + 1 : Nat) : Int)) (fun k => ?_) ((ih (i + 1) (by omega)).eq ?_)
      · rw [laws_eqIntS.l0]; rw [if_pos (by omega), if_pos (by omega), if_pos (by omega), rd_nat a i ha, rd_nat b i hb, if_pos c, hw]
      · rw [List.drop_eq_getElem_cons ha, List.drop_eq_getElem_cons hb, c]; simp only [List.cons.injEq, true_and]
    · refine Ev.step (f := fun k => some false) (fun k => ?_) ((Ev.now _).eq ?_)
      · rw [laws_eqIntS.l0]; rw [if_pos (by omega), if_pos (by omega), if_pos (by omega), rd_nat a i ha, rd_nat b i hb, if_neg c]
      · rw [List.drop_eq_getElem_cons ha, List.drop_eq_getElem_cons hb]; simp only [List.cons.injEq, c, false_and, decide_false]
theorem eqIntS_ev (a b : List Int) (hl : a.length ≤ 140737488351232) : Ev (fun k => laws_eqIntS.f k a b) (decide (a = b)) := by
  unfold laws_eqIntS.f
  by_cases h : a.length = b.length
  · exact Ev.ifp (by omega) ((eqIntS_l a b h hl a.length 0 (by omega)).eq (by simp))
  · refine Ev.ifn (by omega) ((Ev.now false).eq ?_)
    symm; simp; intro e; exact h (by rw [e])
theorem eqIntS_self (a : List Int) (hl : a.length ≤ 140737488351232) : Ev (fun k => laws_eqIntS.f k a a) true := (eqIntS_ev a a hl).eq (by simp)
theorem FnExactKnownValid : laws_FnExactKnownValid.Pure := by
  intro l _ _ _
  apply Ev.rounds
  unfold laws_FnExactKnownValid.f
  by_cases c0 : (l.length : Int) > 1048576
  · exact Ev.ifp c0 (Ev.now _)
  have hT := toIntS_ev l (by omega)
  exact Ev.ifn c0 (Ev.bind hT (Ev.bind (spec_known l (by omega)) (Ev.bind hT (Ev.bind (impl_known l (by omega)) (Ev.ifn (by simp) (Ev.bind hT (Ev.bind (eqIntS_self l (by omega)) (Ev.ifp rfl (Ev.now _)))))))))

end Go.Proofs.Ytnmlcbdbbnaabaa.Pure
