/- For every list of areas and every side StarsCount of the program answers what StarsCount of the reference answers, and leaves its arguments as they were. No conditions beyond the arguments' types. -/
import Derived.Test.YtcghheaelgjnfaaPFnExactStarsCountx4
namespace Go.Proofs.Ytcghheaelgjnfaa.Pure
open Go.RowKit Go.Proofs.Ytcghheaelgjnfaa.PFnExactStarsCount Go.Proofs.YtcghheaelgjnfaaW.PrintWords Go.Proofs.YtcghheaelgjnfaaW.PrintLast Go.Proofs.YtcghheaelgjnfaaW.PrintMore
set_option linter.unusedVariables false
set_option linter.unusedSimpArgs false
/-! Ev: small steps. -/
theorem _root_.Go.Proofs.YtcghheaelgjnfaaW.PrintWords.Ev.ifp {α : Type} {c : Prop} [Decidable c] {g f : Nat → Option α} {r : α} (hc : c) (h : Ev g r) : Ev (fun k => if c then g k else f k) r :=
  Ev.congr (fun _ => if_pos hc) h
theorem _root_.Go.Proofs.YtcghheaelgjnfaaW.PrintWords.Ev.ifn {α : Type} {c : Prop} [Decidable c] {g f : Nat → Option α} {r : α} (hc : ¬ c) (h : Ev f r) : Ev (fun k => if c then g k else f k) r :=
  Ev.congr (fun _ => if_neg hc) h
theorem _root_.Go.Proofs.YtcghheaelgjnfaaW.PrintWords.Ev.bindc {α β : Type} {o : Option α} {f : Nat → α → Option β} {a : α} {r : β} (h : o = some a) (k : Ev (fun n => f n a) r) : Ev (fun n => o.bind (f n)) r := by
  subst h; exact k
theorem _root_.Go.Proofs.YtcghheaelgjnfaaW.PrintWords.Ev.eq {α : Type} {g : Nat → Option α} {r r' : α} (h : Ev g r) (e : r = r') : Ev g r' := e ▸ h
theorem _root_.Go.Proofs.YtcghheaelgjnfaaW.PrintWords.Ev.cst {α : Type} {o : Option α} {r : α} (h : o = some r) : Ev (fun _ => o) r := ⟨0, fun _ _ => h⟩
theorem w64 {x : Int} (h0 : -9223372036854775808 ≤ x) (h1 : x ≤ 9223372036854775807) : wrap64 x = x := by unfold wrap64; omega
theorem wf_i64 {x : Int} (h : (Lit.int .i64 x).wf = true) : -9223372036854775808 ≤ x ∧ x ≤ 9223372036854775807 := by
  have h2 : (decide (IntKind.i64.min ≤ x) && decide (x ≤ IntKind.i64.max)) = true := h
  simp [IntKind.min, IntKind.max, IntKind.bits, IntKind.signed] at h2
  exact h2
theorem wf_u8 {x : Int} (h : (Lit.int .u8 x).wf = true) : 0 ≤ x ∧ x ≤ 255 := by
  have h2 : (decide (IntKind.u8.min ≤ x) && decide (x ≤ IntKind.u8.max)) = true := h
  simp [IntKind.min, IntKind.max, IntKind.bits, IntKind.signed] at h2
  omega
theorem rd_nat (xs : List Int) (i : Nat) (h : i < xs.length) : rd xs (i : Int) = xs[i] := by
  simp [rd, List.getD_eq_getElem?_getD, h]
theorem rd_mem (xs : List Int) (i : Int) (h0 : 0 ≤ i) (h : i < xs.length) : rd xs i ∈ xs := by
  obtain ⟨n, rfl⟩ := Int.eq_ofNat_of_zero_le h0
  rw [rd_nat xs n (by omega)]; exact List.getElem_mem _
theorem l1In_f (a b c : Int) : spec_l1In.f a b c = some (decide (b ≤ a ∧ a ≤ c)) := by
  unfold spec_l1In.f
  by_cases h : a ≥ b
  · rw [if_pos h]; simp; omega
  · rw [if_neg h]; simp; omega
/-- What AreasValid answers. -/
def areasV (l : List Int) (s : Int) : Bool := decide (1 ≤ s ∧ s ≤ 6 ∧ (l.length : Int) = s * s) && l.all (fun x => decide (0 ≤ x ∧ x < s))
theorem six {s : Int} (h : 1 ≤ s ∧ s ≤ 6) : s = 1 ∨ s = 2 ∨ s = 3 ∨ s = 4 ∨ s = 5 ∨ s = 6 := by omega
theorem sq_six {s : Int} (h : 1 ≤ s ∧ s ≤ 6) : wrap64 (s * s) = s * s ∧ 1 ≤ s * s ∧ s * s ≤ 36 := by
  rcases six h with rfl | rfl | rfl | rfl | rfl | rfl <;> decide +kernel
theorem impl_areas_l (l : List Int) (s : Int) (hl : l.length ≤ 140737488351232) : ∀ (d i : Nat), l.length = i + d →
    Ev (fun k => impl_AreasValid.l0 k s l l.length i) ((l.drop i).all (fun x => decide (0 ≤ x ∧ x < s))) := by
  intro d
  induction d with
  | zero =>
    intro i hi
    refine Ev.step (f := fun _ => some true) (fun k => ?_) ((Ev.now _).eq (by rw [List.drop_eq_nil_of_le (by omega)]; rfl))
    rw [impl_AreasValid.l0]; rw [if_neg (by omega)]
  | succ d ih =>
    intro i hi
    have hlt : i < l.length := by omega
    have hw : wrap64 ((i : Int) + 1) = ((i + 1 : Nat) : Int) := by rw [w64 (by omega) (by omega)]; omega
    rw [List.drop_eq_getElem_cons hlt, List.all_cons]
    by_cases c : 0 ≤ l[i] ∧ l[i] < s
    · refine Ev.step (f := fun k => impl_AreasValid.l0 k s l l.length ((i + 1 : Nat) : Int)) (fun k => ?_) ((ih (i + 1) (by omega)).eq (by simp [c]))
      rw [impl_AreasValid.l0]
      rw [if_pos (by omega), if_pos (by omega), if_pos (by omega), rd_nat l i hlt, if_neg (by omega), if_neg (by omega), hw]
    · refine Ev.step (f := fun k => some false) (fun k => ?_) ((Ev.now _).eq (by simp [c]))
      rw [impl_AreasValid.l0]
      rw [if_pos (by omega), if_pos (by omega), if_pos (by omega), rd_nat l i hlt]
      by_cases c1 : l[i] < 0
      · rw [if_pos c1]
      · rw [if_neg c1, if_pos (by omega)]
theorem impl_areas (l : List Int) (s : Int) (hl : l.length ≤ 140737488351232) : Ev (fun k => impl_AreasValid.f k l s) (areasV l s) := by
  have no : ∀ b : Bool, b = true → areasV l s = false → Ev (fun k => impl_AreasValid.j0 k l s b) (areasV l s) := by
    intro b hb h
    refine Ev.step (f := fun _ => some false) (fun k => ?_) ((Ev.now _).eq h.symm)
    rw [impl_AreasValid.j0]; rw [if_pos hb]
  unfold impl_AreasValid.f
  by_cases c1 : s < 1
  · exact Ev.ifp c1 (no _ rfl (by unfold areasV; simp; omega))
  refine Ev.ifn c1 ?_
  by_cases c2 : s > 6
  · exact Ev.ifp c2 (no _ rfl (by unfold areasV; simp; omega))
  refine Ev.ifn c2 ?_
  have hs := sq_six (s := s) (by omega)
  rw [hs.1]
  by_cases c3 : (l.length : Int) = s * s
  · refine Ev.step (f := fun k => impl_AreasValid.l0 k s l l.length ((0 : Nat) : Int)) (fun k => ?_) ((impl_areas_l l s hl l.length 0 (by omega)).eq ?_)
    · rw [impl_AreasValid.j0]; rw [if_neg (by simp [c3])]; rfl
    · unfold areasV
      have : decide (1 ≤ s ∧ s ≤ 6 ∧ (l.length : Int) = s * s) = true := by simp; omega
      rw [this]; simp
  · exact no _ (by simp [c3]) (by unfold areasV; simp [c3])
theorem spec_areas_l (l : List Int) (s : Int) (hl : l.length ≤ 140737488351232) : ∀ (d i : Nat), l.length = i + d →
    Ev (fun k => spec_AreasValid.l0 k l s i) ((l.drop i).all (fun x => decide (0 ≤ x ∧ x ≤ wrap64 (s - 1))) && decide (1 ≤ s ∧ s ≤ 6 ∧ (l.length : Int) = s * s)) := by
  intro d
  induction d with
  | zero =>
    intro i hi
    refine Ev.step (f := fun _ => (spec_l1In.f s 1 6).bind fun t103 => (if t103 = true then (some ((l.length : Int) == (wrap64 (s * s)))) else (some false))) (fun k => ?_) ?_
    · rw [spec_AreasValid.l0]; rw [if_neg (by omega)]
    · refine Ev.bindc (l1In_f s 1 6) ?_
      rw [List.drop_eq_nil_of_le (by omega)]
      by_cases c : 1 ≤ s ∧ s ≤ 6
      · refine Ev.ifp (by simpa using c) ((Ev.now _).eq ?_)
        rw [(sq_six c).1]
        simp only [List.all_nil, Bool.true_and]
        by_cases e : (l.length : Int) = s * s
        · simp [e]; omega
        · simp [e]
      · refine Ev.ifn (by simpa using c) ((Ev.now _).eq ?_)
        simp only [List.all_nil, Bool.true_and]
        symm; simp; omega
  | succ d ih =>
    intro i hi
    have hlt : i < l.length := by omega
    have hw : wrap64 ((i : Int) + 1) = ((i + 1 : Nat) : Int) := by rw [w64 (by omega) (by omega)]; omega
    rw [List.drop_eq_getElem_cons hlt, List.all_cons]
    by_cases c : 0 ≤ l[i] ∧ l[i] ≤ wrap64 (s - 1)
    · refine Ev.step (f := fun k => spec_AreasValid.l0 k l s ((i + 1 : Nat) : Int)) (fun k => ?_) ((ih (i + 1) (by omega)).eq (by simp [c]))
      rw [spec_AreasValid.l0]
      rw [if_pos (by omega), if_pos (by omega), rd_nat l i hlt, l1In_f]
      simp only [Option.bind_some]
      rw [if_pos (by simpa using c), hw]
    · refine Ev.step (f := fun k => some false) (fun k => ?_) ((Ev.now _).eq (by simp [c]))
      rw [spec_AreasValid.l0]
      rw [if_pos (by omega), if_pos (by omega), rd_nat l i hlt, l1In_f]
      simp only [Option.bind_some]
      rw [if_neg (by simpa using c)]
theorem spec_areas (l : List Int) (s : Int) (hl : l.length ≤ 140737488351232) : Ev (fun k => spec_AreasValid.f k l s) (areasV l s) := by
  unfold spec_AreasValid.f
  refine (spec_areas_l l s hl l.length 0 (by omega)).eq ?_
  unfold areasV
  by_cases c : 1 ≤ s ∧ s ≤ 6
  · rw [w64 (by omega) (by omega), List.drop_zero, Bool.and_comm]
    congr 1
    congr 1
    funext x
    rw [decide_eq_decide]; omega
  · have e : decide (1 ≤ s ∧ s ≤ 6 ∧ (l.length : Int) = s * s) = false := by simp; omega
    rw [e]; simp
theorem toIntS_l (xs : List Int) (hn : xs.length ≤ 35184372088832) : ∀ (d : Nat) (ys : List Int) (i : Nat), ys.length = xs.length → xs.length = i + d →
    Ev (fun k => laws_toIntS.l0 k xs ys i) (ys.take i ++ xs.drop i) := by
  intro d
  induction d with
  | zero =>
    intro ys i hy hi
    refine Ev.step (f := fun _ => some ys) (fun k => ?_) ((Ev.now _).eq ?_)
    · rw [laws_toIntS.l0]; rw [if_neg (by omega)]
    · rw [List.drop_eq_nil_of_le (by omega), List.take_of_length_le (by omega)]; simp
  | succ d ih =>
    intro ys i hy hi
    have hw : wrap64 ((i : Int) + 1) = ((i + 1 : Nat) : Int) := by rw [w64 (by omega) (by omega)]; omega
    have hlt : i < xs.length := by omega
    refine Ev.step (f := fun k => laws_toIntS.l0 k xs (ys.set i xs[i]) ((i + 1 : Nat) : Int)) (fun k => ?_) ((ih (ys.set i xs[i]) (i + 1) (by simp [hy]) (by omega)).eq ?_)
    · rw [laws_toIntS.l0]; rw [if_pos (by omega), if_pos (by omega), if_pos (by omega), rd_nat xs i hlt, hw]; simp
    · rw [List.take_add_one, List.take_set_of_le (Nat.le_refl i), List.drop_eq_getElem_cons hlt]
      simp [show i < ys.length by omega]
theorem toIntS_ev (xs : List Int) (hn : xs.length ≤ 35184372088832) : Ev (fun k => laws_toIntS.f k xs) xs := by
  unfold laws_toIntS.f
  refine Ev.ifp (by omega) (Ev.ifp (by omega) ?_)
  have h := toIntS_l xs hn xs.length (List.replicate xs.length 0) 0 (by simp) (by omega)
  simpa using h
theorem eqIntS_l (a b : List Int) (h : a.length = b.length) (hl : a.length ≤ 140737488351232) : ∀ (d i : Nat), a.length = i + d → Ev (fun k => laws_eqIntS.l0 k a b i) (decide (a.drop i = b.drop i)) := by
  intro d
  induction d with
  | zero =>
    intro i hi
    refine Ev.step (f := fun _ => some (decide (a.drop i = b.drop i))) (fun k => ?_) (Ev.now _)
    rw [laws_eqIntS.l0]; rw [if_neg (by omega), List.drop_eq_nil_of_le (by omega), List.drop_eq_nil_of_le (by omega)]; simp
  | succ d ih =>
    intro i hi
    have ha : i < a.length := by omega
    have hb : i < b.length := by omega
    have hw : wrap64 ((i : Int) + 1) = ((i + 1 : Nat) : Int) := by rw [w64 (by omega) (by omega)]; omega
    by_cases c : a[i] = b[i]
    · refine Ev.step (f := fun k => laws_eqIntS.l0 k a b ((i + 1 : Nat) : Int)) (fun k => ?_) ((ih (i + 1) (by omega)).eq ?_)
      · rw [laws_eqIntS.l0]; rw [if_pos (by omega), if_pos (by omega), if_pos (by omega), rd_nat a i ha, rd_nat b i hb, if_pos c, hw]
      · rw [List.drop_eq_getElem_cons ha, List.drop_eq_getElem_cons hb, c]; simp only [List.cons.injEq, true_and]
    · refine Ev.step (f := fun k => some false) (fun k => ?_) ((Ev.now _).eq ?_)
      · rw [laws_eqIntS.l0]; rw [if_pos (by omega), if_pos (by omega), if_pos (by omega), rd_nat a i ha, rd_nat b i hb, if_neg c]
      · rw [List.drop_eq_getElem_cons ha, List.drop_eq_getElem_cons hb]; simp only [List.cons.injEq, c, false_and, decide_false]
theorem eqIntS_ev (a b : List Int) (hl : a.length ≤ 140737488351232) : Ev (fun k => laws_eqIntS.f k a b) (decide (a = b)) := by
  unfold laws_eqIntS.f
  by_cases h : a.length = b.length
  · exact Ev.ifp (by omega) ((eqIntS_l a b h hl a.length 0 (by omega)).eq (by simp))
  · refine Ev.ifn (by omega) ((Ev.now false).eq ?_)
    symm; simp; intro e; exact h (by rw [e])
theorem eqIntS_self (a : List Int) (hl : a.length ≤ 140737488351232) : Ev (fun k => laws_eqIntS.f k a a) true := (eqIntS_ev a a hl).eq (by simp)
/-! Stars: what fits, said of a list of columns. -/
def arAt (l : List Int) (n : Int) (s : List Int) (j : Nat) : Int := rd l ((j : Int) * n + rd s j)
def pairB (l : List Int) (n : Int) (s : List Int) (j i : Nat) : Bool := !(rd s j == rd s i) && !(arAt l n s j == arAt l n s i) && !(decide (j + 1 = i) && decide (-1 ≤ rd s j - rd s i ∧ rd s j - rd s i ≤ 1))
def okB (l : List Int) (n : Int) (s : List Int) (i : Nat) : Bool := decide (0 ≤ rd s i ∧ rd s i < n) && (List.range i).all (fun j => pairB l n s j i)
def starsV (l : List Int) (n : Int) (s : List Int) : Bool := areasV l n && decide ((s.length : Int) ≤ n) && (List.range s.length).all (okB l n s)
theorem areasV_ok {l : List Int} {n : Int} (h : areasV l n = true) : 1 ≤ n ∧ n ≤ 6 ∧ (l.length : Int) = n * n ∧ (∀ i : Int, 0 ≤ i → i < l.length → 0 ≤ rd l i ∧ rd l i < n) := by
  unfold areasV at h
  simp only [Bool.and_eq_true, decide_eq_true_eq, List.all_eq_true] at h
  refine ⟨h.1.1, h.1.2.1, h.1.2.2, fun i h0 h1 => h.2 _ (rd_mem l i h0 h1)⟩
theorem at_lt {n v : Int} {i : Nat} (h : 1 ≤ n ∧ n ≤ 6) (hi : (i : Int) < n) (h0 : 0 ≤ v) (h1 : v < n) : wrap64 ((i : Int) * n) = (i : Int) * n ∧ wrap64 ((i : Int) * n + v) = (i : Int) * n + v ∧ 0 ≤ (i : Int) * n + v ∧ (i : Int) * n + v < n * n := by
  have h2 : (i : Int) * n ≤ (n - 1) * n := Int.mul_le_mul_of_nonneg_right (by omega) (by omega)
  have h3 : 0 ≤ (i : Int) * n := Int.mul_nonneg (by omega) (by omega)
  have h4 : (n - 1) * n = n * n - n := by rw [Int.sub_mul, Int.one_mul]
  have h5 : n * n ≤ 36 := (sq_six h).2.2
  exact ⟨w64 (by omega) (by omega), w64 (by omega) (by omega), by omega, by omega⟩
theorem range'_all {p : Nat → Bool} (i d : Nat) : (List.range' i (d + 1)).all p = (p i && (List.range' i d).all p || false) → True := fun _ => trivial
theorem all_from {p : Nat → Bool} {n : Nat} : (List.range n).all p = (List.range' 0 n).all p := by rw [List.range_eq_range']
theorem spec_fit_l1 (l : List Int) (n : Int) (s : List Int) (i : Nat) (ha : areasV l n = true) (hs : (s.length : Int) ≤ n) (hi : i < s.length) (h : ∀ j, j ≤ i → 0 ≤ rd s j ∧ rd s j < n) (r : Bool)
    (H : Ev (fun k => spec_StarsFit.l0 k l n s ((i + 1 : Nat) : Int)) r) : ∀ (d j : Nat), i = j + d →
    Ev (fun k => spec_StarsFit.l1 k l n s i j) ((List.range' j d).all (fun j => pairB l n s j i) && r) := by
  obtain ⟨h1, h2, hl, hv⟩ := areasV_ok ha
  intro d
  induction d with
  | zero =>
    intro j hj
    have hw : wrap64 ((i : Int) + 1) = ((i + 1 : Nat) : Int) := by rw [w64 (by omega) (by omega)]; omega
    refine Ev.step (fun k => by rw [spec_StarsFit.l1, hw]) (Ev.ifn (by omega) (Ev.eq H (by simp)))
  | succ d ih =>
    intro j hj
    have hw : wrap64 ((j : Int) + 1) = ((j + 1 : Nat) : Int) := by rw [w64 (by omega) (by omega)]; omega
    have hwi : wrap64 ((i : Int) - 1) = (i : Int) - 1 := w64 (by omega) (by omega)
    have vj := h j (by omega)
    have vi := h i (by omega)
    have aj := at_lt (n := n) (v := rd s j) (i := j) ⟨h1, h2⟩ (by omega) vj.1 vj.2
    have ai := at_lt (n := n) (v := rd s i) (i := i) ⟨h1, h2⟩ (by omega) vi.1 vi.2
    have hn := ih (j + 1) (by omega)
    have hws : wrap64 (rd s j - rd s i) = rd s j - rd s i := w64 (by omega) (by omega)
    have jt : Ev (fun k => spec_StarsFit.j3 k l n s i j true) false := Ev.step (fun k => by rw [spec_StarsFit.j3]) (Ev.ifp rfl (Ev.now _))
    have jf : Ev (fun k => spec_StarsFit.j3 k l n s i j false) ((List.range' (j + 1) d).all (fun j => pairB l n s j i) && r) := Ev.step (fun k => by rw [spec_StarsFit.j3, hw]) (Ev.ifn (by decide) hn)
    rw [List.range'_succ, List.all_cons, Bool.and_assoc]
    refine Ev.step (fun k => by rw [spec_StarsFit.l1]) ?_
    rw [aj.1, ai.1, aj.2.1, ai.2.1, hwi, hws]
    refine Ev.ifp (by omega) (Ev.ifp (by omega) (Ev.ifp (by omega) (Ev.ifp (by omega) (Ev.ifp (by omega) ?_))))
    by_cases c1 : rd s j = rd s i
    · exact Ev.ifp c1 (Ev.eq jt (by simp [pairB, c1]))
    refine Ev.ifn c1 (Ev.ifp aj.2.2.1 (Ev.ifp (by omega) (Ev.ifp ai.2.2.1 (Ev.ifp (by omega) ?_))))
    by_cases c2 : rd l ((j : Int) * n + rd s j) = rd l ((i : Int) * n + rd s i)
    · exact Ev.ifp c2 (Ev.eq jt (by simp [pairB, arAt, c2]))
    refine Ev.ifn c2 ?_
    by_cases c3 : (j : Int) = i - 1
    · refine Ev.ifp c3 (Ev.bindc (l1In_f _ _ _) ?_)
      by_cases c4 : -1 ≤ rd s j - rd s i ∧ rd s j - rd s i ≤ 1
      · have e : decide (-1 ≤ rd s j - rd s i ∧ rd s j - rd s i ≤ 1) = true := decide_eq_true c4
        rw [e]
        have e3 : decide (j + 1 = i) = true := by simp; omega
        exact Ev.eq jt (by unfold pairB; rw [e, e3]; simp)
      · have e : decide (-1 ≤ rd s j - rd s i ∧ rd s j - rd s i ≤ 1) = false := decide_eq_false c4
        rw [e]
        exact Ev.eq jf (by unfold pairB arAt; rw [e]; simp [c1, c2])
    · have e3 : decide (j + 1 = i) = false := by simp; omega
      exact Ev.ifn c3 (Ev.eq jf (by unfold pairB arAt; rw [e3]; simp [c1, c2]))
theorem spec_fit_l0 (l : List Int) (n : Int) (s : List Int) (ha : areasV l n = true) (hs : (s.length : Int) ≤ n) : ∀ (d i : Nat), s.length = i + d → (∀ j, j < i → 0 ≤ rd s j ∧ rd s j < n) →
    Ev (fun k => spec_StarsFit.l0 k l n s i) ((List.range' i d).all (okB l n s)) := by
  obtain ⟨h1, h2, hl, hv⟩ := areasV_ok ha
  intro d
  induction d with
  | zero =>
    intro i hi h
    exact Ev.step (fun k => by rw [spec_StarsFit.l0]) (Ev.ifn (by omega) (Ev.eq (Ev.now _) (by simp)))
  | succ d ih =>
    intro i hi h
    have hw1 : wrap64 (n - 1) = n - 1 := w64 (by omega) (by omega)
    rw [List.range'_succ, List.all_cons]
    refine Ev.step (fun k => by rw [spec_StarsFit.l0, hw1]) (Ev.ifp (by omega) (Ev.ifp (by omega) (Ev.bindc (l1In_f _ _ _) ?_)))
    by_cases c : 0 ≤ rd s i ∧ rd s i ≤ n - 1
    · have e : decide (0 ≤ rd s i ∧ rd s i ≤ n - 1) = true := decide_eq_true c
      rw [e]
      have h' : ∀ j, j < i + 1 → 0 ≤ rd s j ∧ rd s j < n := by
        intro j hj
        by_cases hji : j = i
        · subst hji; omega
        · exact h j (by omega)
      have H := ih (i + 1) (by omega) h'
      refine Ev.ifp rfl (Ev.eq (spec_fit_l1 l n s i ha hs (by omega) (fun j hj => h' j (by omega)) _ H i 0 (by omega)) ?_)
      have e2 : decide (0 ≤ rd s i ∧ rd s i < n) = true := by simp; omega
      unfold okB
      rw [e2, List.range_eq_range']
      simp
    · have e : decide (0 ≤ rd s i ∧ rd s i ≤ n - 1) = false := decide_eq_false c
      rw [e]
      refine Ev.ifn (by decide) (Ev.eq (Ev.now _) ?_)
      have e2 : okB l n s i = false := by unfold okB; have : decide (0 ≤ rd s i ∧ rd s i < n) = false := (by simp; omega); rw [this]; rfl
      rw [e2]; rfl
theorem spec_fit (l : List Int) (n : Int) (s : List Int) (hl : l.length ≤ 140737488351232) : Ev (fun k => spec_StarsFit.f k l n s) (starsV l n s) := by
  unfold spec_StarsFit.f
  refine Ev.bind (spec_areas l n hl) ?_
  by_cases c : areasV l n = true
  · refine Ev.ifp c ?_
    by_cases c2 : (s.length : Int) > n
    · refine Ev.step (fun k => by rw [spec_StarsFit.j0]) (Ev.ifp (by simp; omega) (Ev.eq (Ev.now _) ?_))
      unfold starsV
      have : decide ((s.length : Int) ≤ n) = false := by simp; omega
      rw [this]; simp
    · have H : Ev (fun k => spec_StarsFit.l0 k l n s 0) ((List.range' 0 s.length).all (okB l n s)) := spec_fit_l0 l n s c (by omega) s.length 0 (by omega) (fun j hj => by omega)
      refine Ev.step (fun k => by rw [spec_StarsFit.j0]) (Ev.ifn (by simp; omega) (Ev.eq H ?_))
      unfold starsV
      have : decide ((s.length : Int) ≤ n) = true := by simp; omega
      rw [this, c, List.range_eq_range']; simp
  · refine Ev.ifn c (Ev.step (fun k => by rw [spec_StarsFit.j0]) (Ev.ifp rfl (Ev.eq (Ev.now _) ?_)))
    unfold starsV
    rw [Bool.eq_false_iff.mpr c]; rfl
def colsAt (s : List Int) (i : Nat) : List Bool := (List.range 6).map (fun v : Nat => (List.range i).any (fun j => rd s j == (v : Int)))
def usedAt (l : List Int) (n : Int) (s : List Int) (i : Nat) : List Bool := (List.range 6).map (fun v : Nat => (List.range i).any (fun j => arAt l n s j == (v : Int)))
theorem tab_get {m : Nat} {p : Nat → Bool} {v : Int} (h0 : 0 ≤ v) (h1 : v < m) : rdOf false ((List.range m).map p) v = p v.toNat := by
  have h : v.toNat < m := by omega
  simp [rdOf, List.getD_eq_getElem?_getD, h]
theorem any_succ (p : Nat → Bool) (i : Nat) : (List.range (i + 1)).any p = ((List.range i).any p || p i) := by
  rw [List.range_succ, List.any_append]; simp
theorem tab_set {m : Nat} (f : Nat → Int) (i : Nat) (h0 : 0 ≤ f i) (h1 : f i < m) :
    ((List.range m).map (fun v : Nat => (List.range i).any (fun j => f j == (v : Int)))).set (f i).toNat true = (List.range m).map (fun v : Nat => (List.range (i + 1)).any (fun j => f j == (v : Int))) := by
  apply List.ext_getElem
  · simp
  · intro v a b
    have hv : v < m := by simpa using a
    rw [List.getElem_set, List.getElem_map, List.getElem_map, List.getElem_range, any_succ]
    by_cases c : (f i).toNat = v
    · rw [if_pos c]
      have : (f i == (v : Int)) = true := by simp; omega
      rw [this]; simp
    · rw [if_neg c]
      have : (f i == (v : Int)) = false := by simp; omega
      rw [this]; simp
theorem okB_alt (l : List Int) (n : Int) (s : List Int) (i : Nat) : okB l n s i = (decide (0 ≤ rd s i ∧ rd s i < n) && !((List.range i).any (fun j => rd s j == rd s i)) && !((List.range i).any (fun j => arAt l n s j == arAt l n s i)) && !(decide (0 < i) && decide (-1 ≤ rd s (i - 1 : Nat) - rd s i ∧ rd s (i - 1 : Nat) - rd s i ≤ 1))) := by
  rw [Bool.eq_iff_iff]
  unfold okB pairB
  simp only [Bool.and_eq_true, List.all_eq_true, List.mem_range, Bool.not_eq_true', decide_eq_true_eq, List.any_eq_false, Bool.and_eq_false_imp, decide_eq_false_iff_not, beq_iff_eq, beq_eq_false_iff_ne]
  constructor
  · rintro ⟨h, h'⟩
    refine ⟨⟨⟨h, fun j hj => (h' j hj).1.1⟩, fun j hj => (h' j hj).1.2⟩, fun hi => ?_⟩
    exact (h' (i - 1) (by omega)).2 (by omega)
  · rintro ⟨⟨⟨h, h1⟩, h2⟩, h3⟩
    refine ⟨h, fun j hj => ⟨⟨h1 j hj, h2 j hj⟩, fun e => ?_⟩⟩
    have : j = i - 1 := by omega
    subst this
    exact h3 (by omega)
theorem mx_lt {a b : Int} (ha : wrap64 (a - b) = a - b) (hb : wrap64 (b - a) = b - a) : mx (wrap64 (a - b)) (wrap64 (b - a)) < 2 ↔ (-1 ≤ b - a ∧ b - a ≤ 1) := by
  rw [ha, hb]; unfold mx; split <;> omega
theorem wp1 {i : Nat} (h : 0 < i) (h2 : i < 1000) : wrap64 ((i : Int) - 1) = ((i - 1 : Nat) : Int) := by rw [w64 (by omega) (by omega)]; omega
theorem wsub {a b n : Int} (ha : 0 ≤ a ∧ a < n) (hb : 0 ≤ b ∧ b < n) (hn : n ≤ 6) : wrap64 (a - b) = a - b := w64 (by omega) (by omega)
theorem pos_int {i : Nat} (h : 0 < i) : (i : Int) > 0 := by omega
theorem npos_int {i : Nat} (h : ¬ 0 < i) : ¬ (i : Int) > 0 := by omega
theorem impl_fit_l (l : List Int) (n : Int) (s : List Int) (ha : areasV l n = true) (hs : (s.length : Int) ≤ n) : ∀ (d i : Nat), s.length = i + d → (∀ j, j < i → 0 ≤ rd s j ∧ rd s j < n) →
    Ev (fun k => impl_StarsFit.l0 k l n s (colsAt s i) (usedAt l n s i) i) ((List.range' i d).all (okB l n s)) := by
  obtain ⟨h1, h2, hl, hv⟩ := areasV_ok ha
  intro d
  induction d with
  | zero =>
    intro i hi h
    exact Ev.step (fun k => by rw [impl_StarsFit.l0]) (Ev.ifn (by omega) (Ev.eq (Ev.now _) (by simp)))
  | succ d ih =>
    intro i hi h
    rw [List.range'_succ, List.all_cons]
    have fls : okB l n s i = false → false = (okB l n s i && (List.range' (i + 1) d).all (okB l n s)) := fun e => by rw [e]; rfl
    refine Ev.step (fun k => by rw [impl_StarsFit.l0]) (Ev.ifp (by omega) (Ev.ifp (by omega) ?_))
    by_cases c1 : rd s i < 0
    · exact Ev.ifp c1 (Ev.eq (Ev.now _) (fls (by rw [okB_alt]; simp; omega)))
    by_cases c2 : rd s i ≥ n
    · exact Ev.ifn c1 (Ev.ifp c2 (Ev.eq (Ev.now _) (fls (by rw [okB_alt]; simp; omega))))
    have hi1000 : i < 1000 := by omega
    have vi : 0 ≤ rd s i ∧ rd s i < n := ⟨Int.not_lt.mp c1, Int.not_le.mp c2⟩
    have h' : ∀ j, j < i + 1 → 0 ≤ rd s j ∧ rd s j < n := by
      intro j hj
      by_cases hji : j = i
      · rw [hji]; exact ⟨Int.not_lt.mp c1, Int.not_le.mp c2⟩
      · exact h j (Nat.lt_of_le_of_ne (Nat.lt_succ_iff.mp hj) hji)
    have ai := at_lt (n := n) (v := rd s i) (i := i) ⟨h1, h2⟩ (by omega) (by omega) (by omega)
    have va := hv _ ai.2.2.1 (by omega)
    have hw : wrap64 ((i : Int) + 1) = ((i + 1 : Nat) : Int) := by rw [w64 (by omega) (by omega)]; omega
    refine Ev.ifn c1 (Ev.ifn c2 (Ev.ifp (by omega) ?_))
    rw [ai.1, ai.2.1]
    have eR : decide (0 ≤ rd s i ∧ rd s i < n) = true := by simp; omega
    have gc : rdOf false (colsAt s i) (rd s i) = (List.range i).any (fun j => rd s j == rd s i) := by
      unfold colsAt
      rw [tab_get (by omega) (by omega), Int.toNat_of_nonneg (by omega)]
    have gu : rdOf false (usedAt l n s i) (rd l ((i : Int) * n + rd s i)) = (List.range i).any (fun j => arAt l n s j == arAt l n s i) := by
      unfold usedAt
      rw [tab_get va.1 (by omega), Int.toNat_of_nonneg va.1]; rfl
    by_cases c3 : rdOf false (colsAt s i) (rd s i) = true
    · exact Ev.ifp c3 (Ev.eq (Ev.now _) (fls (by rw [okB_alt, ← gc, c3]; simp)))
    refine Ev.ifn c3 (Ev.ifp ai.2.2.1 (Ev.ifp (by omega) (Ev.ifp va.1 (Ev.ifp (by omega) ?_))))
    by_cases c4 : rdOf false (usedAt l n s i) (rd l ((i : Int) * n + rd s i)) = true
    · exact Ev.ifp c4 (Ev.eq (Ev.now _) (fls (by rw [okB_alt, ← gu, c4]; simp)))
    refine Ev.ifn c4 ?_
    have e1 : (colsAt s i).set (rd s i).toNat true = colsAt s (i + 1) := tab_set (fun j => rd s j) i (by omega) (by omega)
    have e2 : (usedAt l n s i).set (rd l ((i : Int) * n + rd s i)).toNat true = usedAt l n s (i + 1) := tab_set (fun j => arAt l n s j) i va.1 (by show arAt l n s i < 6; unfold arAt; omega)
    have H := ih (i + 1) (by omega) h'
    rw [e1, e2, hw]
    by_cases c5 : 0 < i
    · have hw1 : wrap64 ((i : Int) - 1) = ((i - 1 : Nat) : Int) := wp1 c5 hi1000
      have vp := h (i - 1) (Nat.sub_lt c5 Nat.one_pos)
      rw [hw1]
      have hm := mx_lt (a := rd s i) (b := rd s ((i - 1 : Nat) : Int)) (wsub vi vp h2) (wsub vp vi h2)
      refine Ev.ifp (pos_int c5) ?_
      by_cases c6 : -1 ≤ rd s ((i - 1 : Nat) : Int) - rd s i ∧ rd s ((i - 1 : Nat) : Int) - rd s i ≤ 1
      · exact Ev.ifp (hm.2 c6) (Ev.eq (Ev.now _) (fls (by rw [okB_alt, decide_eq_true c6, decide_eq_true c5]; simp)))
      · refine Ev.ifn (fun e => c6 (hm.1 e)) (Ev.eq H ?_)
        rw [okB_alt, eR, ← gc, ← gu, Bool.eq_false_iff.mpr c3, Bool.eq_false_iff.mpr c4, decide_eq_false c6]; simp
    · refine Ev.ifn (npos_int c5) (Ev.eq H ?_)
      rw [okB_alt, eR, ← gc, ← gu, Bool.eq_false_iff.mpr c3, Bool.eq_false_iff.mpr c4, decide_eq_false c5]; simp
theorem impl_fit (l : List Int) (n : Int) (s : List Int) (hl : l.length ≤ 140737488351232) : Ev (fun k => impl_StarsFit.f k l n s) (starsV l n s) := by
  unfold impl_StarsFit.f
  refine Ev.bind (impl_areas l n hl) ?_
  by_cases c : areasV l n = true
  · refine Ev.ifp c ?_
    by_cases c2 : (s.length : Int) > n
    · refine Ev.ifp c2 (Ev.eq (Ev.now _) ?_)
      unfold starsV
      have : decide ((s.length : Int) ≤ n) = false := by simp; omega
      rw [this]; simp
    · have H : Ev (fun k => impl_StarsFit.l0 k l n s (colsAt s 0) (usedAt l n s 0) 0) ((List.range' 0 s.length).all (okB l n s)) := impl_fit_l l n s c (by omega) s.length 0 (by omega) (fun j hj => by omega)
      refine Ev.ifn c2 (Ev.eq H ?_)
      unfold starsV
      have : decide ((s.length : Int) ≤ n) = true := by simp; omega
      rw [this, c, List.range_eq_range']; simp
  · refine Ev.ifn c (Ev.eq (Ev.now _) ?_)
    unfold starsV
    rw [Bool.eq_false_iff.mpr c]; rfl
def sols (l : List Int) (n : Int) : Nat → List Int → List (List Int)
  | 0, s => [s]
  | d + 1, s => (List.range n.toNat).flatMap (fun c : Nat => if starsV l n (s ++ [(c : Int)]) = true then sols l n d (s ++ [(c : Int)]) else [])
theorem flat_len {α β : Type} (f : α → List β) (B : Nat) : ∀ xs : List α, (∀ x ∈ xs, (f x).length ≤ B) → (xs.flatMap f).length ≤ xs.length * B
  | [], _ => by simp
  | x :: xs, h => by
    rw [List.flatMap_cons, List.length_append, List.length_cons, Nat.succ_mul]
    have h1 := h x List.mem_cons_self
    have h2 := flat_len f B xs (fun y hy => h y (List.mem_cons_of_mem _ hy))
    omega
theorem sols_len (l : List Int) (n : Int) : ∀ (d : Nat) (s : List Int), (sols l n d s).length ≤ n.toNat ^ d
  | 0, s => by simp [sols]
  | d + 1, s => by
    unfold sols
    have h := flat_len (fun c : Nat => if starsV l n (s ++ [(c : Int)]) = true then sols l n d (s ++ [(c : Int)]) else []) (n.toNat ^ d) (List.range n.toNat) (fun c _ => by
      split
      · exact sols_len l n d _
      · simp)
    rw [List.length_range] at h
    rw [Nat.pow_succ, Nat.mul_comm]
    exact h
theorem sols_top (l : List Int) (n : Int) (h : 1 ≤ n ∧ n ≤ 6) : (sols l n n.toNat []).length ≤ 46656 := by
  refine Nat.le_trans (sols_len l n n.toNat []) ?_
  rcases six h with rfl | rfl | rfl | rfl | rfl | rfl <;> decide
theorem flat_le {α β : Type} (f : α → List β) : ∀ (xs ys : List α), ((xs ++ ys).flatMap f).length = (xs.flatMap f).length + (ys.flatMap f).length := fun xs ys => by rw [List.flatMap_append, List.length_append]
theorem spec_search (l : List Int) (n : Int) (hl : l.length ≤ 140737488351232) (hn : 0 ≤ n ∧ n ≤ 6) : ∀ (d : Nat) (s : List Int) (out : List (List Int)), (s.length : Int) + d = n → out.length + (sols l n d s).length ≤ 4398046511104 →
    Ev (fun k => spec_l15Search.f k l n s out) (out ++ sols l n d s) := by
  intro d
  induction d with
  | zero =>
    intro s out hs hb
    have h1 : (s.length : Int) = n := by omega
    have h2 : out.length < 4398046511104 := hb
    refine Ev.step (fun k => by rw [spec_l15Search.f]) ?_
    exact Ev.ifp h1 (Ev.ifp h2 (Ev.now _))
  | succ d ih =>
    intro s out hs
    have h1 : ¬ (s.length : Int) = n := by omega
    have h2 : s.length < 4398046511104 := by omega
    have loop : ∀ (e c : Nat) (out : List (List Int)), n.toNat = c + e → out.length + ((List.range' c e).flatMap (fun c : Nat => if starsV l n (s ++ [(c : Int)]) = true then sols l n d (s ++ [(c : Int)]) else [])).length ≤ 4398046511104 →
        Ev (fun k => spec_l15Search.l0 k l n s out c) (out ++ (List.range' c e).flatMap (fun c : Nat => if starsV l n (s ++ [(c : Int)]) = true then sols l n d (s ++ [(c : Int)]) else [])) := by
      intro e
      induction e with
      | zero =>
        intro c out hc _
        have q : ¬ (c : Int) < n := by omega
        exact Ev.step (fun k => by rw [spec_l15Search.l0]) (Ev.ifn q (Ev.eq (Ev.now _) (by simp)))
      | succ e ihe =>
        intro c out hc
        have hw : wrap64 ((c : Int) + 1) = ((c + 1 : Nat) : Int) := by rw [w64 (by omega) (by omega)]; omega
        have q : (c : Int) < n := by omega
        have q2 : n.toNat = c + 1 + e := by omega
        have q3 : ((s ++ [(c : Int)]).length : Int) + d = n := by rw [List.length_append, List.length_singleton]; omega
        rw [List.range'_succ, List.flatMap_cons, List.length_append]
        intro hb
        refine Ev.step (fun k => by rw [spec_l15Search.l0, hw]) (Ev.ifp q (Ev.ifp h2 (Ev.bind (spec_fit l n _ hl) ?_)))
        by_cases c1 : starsV l n (s ++ [(c : Int)]) = true
        · rw [if_pos c1] at hb ⊢
          refine Ev.ifp c1 (Ev.bind (ih _ out q3 (Nat.le_trans (Nat.add_le_add_left (Nat.le_add_right _ _) _) hb)) ?_)
          rw [← List.append_assoc]
          exact ihe (c + 1) _ q2 (by rw [List.length_append, Nat.add_assoc]; exact hb)
        · rw [if_neg c1] at hb ⊢
          refine Ev.ifn c1 ?_
          rw [List.nil_append]
          rw [List.length_nil, Nat.zero_add] at hb
          exact ihe (c + 1) _ q2 hb
    intro hb
    have h0 := loop n.toNat 0 out (by omega) (by rw [← List.range_eq_range']; exact hb)
    rw [← List.range_eq_range'] at h0
    have h3 : Ev (fun k => spec_l15Search.l0 k l n s out 0) (out ++ sols l n (d + 1) s) := h0
    refine Ev.step (fun k => by rw [spec_l15Search.f]) ?_
    exact Ev.ifn h1 h3
theorem impl_search (l : List Int) (n : Int) (hl : l.length ≤ 140737488351232) (hn : 0 ≤ n ∧ n ≤ 6) : ∀ (d : Nat) (s : List Int) (out : List (List Int)), (s.length : Int) + d = n → out.length + (if starsV l n s = true then sols l n d s else []).length ≤ 4398046511104 →
    Ev (fun k => impl_starWays_1.f k l n s out) (out ++ if starsV l n s = true then sols l n d s else []) := by
  intro d
  induction d with
  | zero =>
    intro s out hs hb
    have h1 : (s.length : Int) = n := by omega
    refine Ev.step (fun k => by rw [impl_starWays_1.f]) (Ev.bind (impl_fit l n s hl) ?_)
    by_cases c : starsV l n s = true
    · rw [if_pos c] at hb ⊢
      have h2 : out.length < 4398046511104 := hb
      exact Ev.ifp c (Ev.ifp h1 (Ev.ifp h2 (Ev.now _)))
    · exact Ev.ifn c (Ev.eq (Ev.now _) (by rw [if_neg c]; simp))
  | succ d ih =>
    intro s out hs
    have h1 : ¬ (s.length : Int) = n := by omega
    have h2 : s.length < 4398046511104 := by omega
    intro hb
    refine Ev.step (fun k => by rw [impl_starWays_1.f]) (Ev.bind (impl_fit l n s hl) ?_)
    by_cases c : starsV l n s = true
    · refine Ev.ifp c (Ev.ifn h1 ?_)
      rw [if_pos c] at hb ⊢
      have loop : ∀ (e c : Nat) (out : List (List Int)), n.toNat = c + e → out.length + ((List.range' c e).flatMap (fun c : Nat => if starsV l n (s ++ [(c : Int)]) = true then sols l n d (s ++ [(c : Int)]) else [])).length ≤ 4398046511104 →
          Ev (fun k => impl_starWays_1.l0 k l n s out c) (out ++ (List.range' c e).flatMap (fun c : Nat => if starsV l n (s ++ [(c : Int)]) = true then sols l n d (s ++ [(c : Int)]) else [])) := by
        clear hb c
        intro e
        induction e with
        | zero =>
          intro c out hc _
          have q : ¬ (c : Int) < n := by omega
          exact Ev.step (fun k => by rw [impl_starWays_1.l0]) (Ev.ifn q (Ev.eq (Ev.now _) (by simp)))
        | succ e ihe =>
          intro c out hc
          have hw : wrap64 ((c : Int) + 1) = ((c + 1 : Nat) : Int) := by rw [w64 (by omega) (by omega)]; omega
          have q : (c : Int) < n := by omega
          have q2 : n.toNat = c + 1 + e := by omega
          have q3 : ((s ++ [(c : Int)]).length : Int) + d = n := by rw [List.length_append, List.length_singleton]; omega
          rw [List.range'_succ, List.flatMap_cons, List.length_append]
          intro hb
          refine Ev.step (fun k => by rw [impl_starWays_1.l0, hw]) (Ev.ifp q (Ev.ifp h2 (Ev.bind (ih _ out q3 (Nat.le_trans (Nat.add_le_add_left (Nat.le_add_right _ _) _) hb)) ?_)))
          rw [← List.append_assoc]
          exact ihe (c + 1) _ q2 (by rw [List.length_append, Nat.add_assoc]; exact hb)
      have h0 := loop n.toNat 0 out (Nat.zero_add _).symm (by rw [← List.range_eq_range']; exact hb)
      rw [← List.range_eq_range'] at h0
      exact h0
    · exact Ev.ifn c (Ev.eq (Ev.now _) (by rw [if_neg c]; simp))
theorem starsV_nil {l : List Int} {n : Int} (h : areasV l n = true) : starsV l n [] = true := by
  have := areasV_ok h
  unfold starsV
  rw [h]; simp; omega
theorem impl_ways (l : List Int) (n : Int) (hl : l.length ≤ 140737488351232) (h : areasV l n = true) : Ev (fun k => impl_starWays.f k l n) (sols l n n.toNat []) := by
  have ha := areasV_ok h
  have hb := sols_top l n (by omega)
  unfold impl_starWays.f
  have h1 := impl_search l n hl (by omega) n.toNat [] [] (by simp; omega) (by rw [if_pos (starsV_nil h)]; simp; omega)
  rw [if_pos (starsV_nil h), List.nil_append] at h1
  exact h1
theorem spec_all (l : List Int) (n : Int) (hl : l.length ≤ 140737488351232) : Ev (fun k => spec_l15All.f k l n) (if areasV l n = true then sols l n n.toNat [] else []) := by
  unfold spec_l15All.f
  refine Ev.bind (spec_areas l n hl) ?_
  by_cases c : areasV l n = true
  · have ha := areasV_ok c
    have hb := sols_top l n (by omega)
    have h1 := spec_search l n hl (by omega) n.toNat [] [] (by simp; omega) (by simp; omega)
    rw [if_pos c]
    exact Ev.ifp c (Ev.eq h1 (by simp))
  · rw [if_neg c]
    exact Ev.ifn c (Ev.now _)
def cntV (l : List Int) (n : Int) : Int := if areasV l n = true then ((sols l n n.toNat []).length : Int) else -1
theorem impl_count (l : List Int) (n : Int) (hl : l.length ≤ 140737488351232) : Ev (fun k => impl_StarsCount.f k l n) (cntV l n) := by
  unfold impl_StarsCount.f cntV
  refine Ev.bind (impl_areas l n hl) ?_
  by_cases c : areasV l n = true
  · rw [if_pos c]; exact Ev.ifp c (Ev.bind (impl_ways l n hl c) (Ev.now _))
  · rw [if_neg c]; exact Ev.ifn c (Ev.now _)
theorem spec_count (l : List Int) (n : Int) (hl : l.length ≤ 140737488351232) : Ev (fun k => spec_StarsCount.f k l n) (cntV l n) := by
  unfold spec_StarsCount.f cntV
  refine Ev.bind (spec_areas l n hl) ?_
  by_cases c : areasV l n = true
  · rw [if_pos c]; exact Ev.ifp c (Ev.bind (spec_all l n hl) (Ev.eq (Ev.now _) (by rw [if_pos c])))
  · rw [if_neg c]; exact Ev.ifn c (Ev.now _)
theorem FnExactStarsCount : laws_FnExactStarsCount.Pure := by
  intro l n _ _ _ _
  apply Ev.rounds
  unfold laws_FnExactStarsCount.f
  by_cases c0 : (l.length : Int) > 1048576
  · exact Ev.ifp c0 (Ev.now _)
  have hT := toIntS_ev l (by omega)
  exact Ev.ifn c0 (Ev.bind hT (Ev.bind (spec_count l n (by omega)) (Ev.bind hT (Ev.bind (impl_count l n (by omega)) (Ev.ifp rfl (Ev.bind hT (Ev.bind (eqIntS_self l (by omega)) (Ev.ifp rfl (Ev.now _)))))))))

end Go.Proofs.Ytcghheaelgjnfaa.Pure
