/- For every picture puzzle PictureFirst of the program answers what PictureFirst of the reference answers, in memory of its own, and leaves its argument as it was. No conditions beyond the types. -/
import Derived.Test.YtapnohcfnclleaaPFnExactPictureFirstx10
namespace Go.Proofs.Ytapnohcfnclleaa.Pure
open Go.RowKit Go.Proofs.Ytapnohcfnclleaa.PFnExactPictureFirst Go.Proofs.YtapnohcfnclleaaW.PrintWords Go.Proofs.YtapnohcfnclleaaW.PrintLast Go.Proofs.YtapnohcfnclleaaW.PrintMore
set_option linter.unusedVariables false
set_option linter.unusedSimpArgs false
/-! Ev: small steps. -/
theorem _root_.Go.Proofs.YtapnohcfnclleaaW.PrintWords.Ev.ifp {α : Type} {c : Prop} [Decidable c] {g f : Nat → Option α} {r : α} (hc : c) (h : Ev g r) : Ev (fun k => if c then g k else f k) r :=
 Ev.congr (fun _ => if_pos hc) h
theorem _root_.Go.Proofs.YtapnohcfnclleaaW.PrintWords.Ev.ifn {α : Type} {c : Prop} [Decidable c] {g f : Nat → Option α} {r : α} (hc : ¬ c) (h : Ev f r) : Ev (fun k => if c then g k else f k) r :=
 Ev.congr (fun _ => if_neg hc) h
theorem _root_.Go.Proofs.YtapnohcfnclleaaW.PrintWords.Ev.bindc {α β : Type} {o : Option α} {f : Nat → α → Option β} {a : α} {r : β} (h : o = some a) (k : Ev (fun n => f n a) r) : Ev (fun n => o.bind (f n)) r := by
 subst h; exact k
theorem _root_.Go.Proofs.YtapnohcfnclleaaW.PrintWords.Ev.eq {α : Type} {g : Nat → Option α} {r r' : α} (h : Ev g r) (e : r = r') : Ev g r' := e ▸ h
theorem w64 {x : Int} (h0 : -9223372036854775808 ≤ x) (h1 : x ≤ 9223372036854775807) : wrap64 x = x := by unfold wrap64; omega
theorem rd_nat (xs : List Int) (i : Nat) (h : i < xs.length) : rd xs (i : Int) = xs[i] := by
 simp [rd, List.getD_eq_getElem?_getD, h]
theorem l1In_f (a b c : Int) : spec_l1In.f a b c = some (decide (b ≤ a ∧ a ≤ c)) := by
 unfold spec_l1In.f
 by_cases h : a ≥ b
 ·rw [if_pos h]; simp; omega
 ·rw [if_neg h]; simp; omega
/-- The cells that a clue takes, with one behind each number. -/
def csum : List Int → Int
 | [] => 0
 | n :: l => n + 1 + csum l
/-- What ClueValid answers. -/
def clueV (c : List Int) (n : Int) : Bool := decide (1 ≤ n ∧ n ≤ 8) && (c.all (fun x => decide (1 ≤ x)) && decide (csum c ≤ n + 1))
theorem csum_nn : ∀ c : List Int, c.all (fun x => decide (1 ≤ x)) = true → 2 * (c.length : Int) ≤ csum c := by
 intro c
 induction c with
 | nil => intro _; simp [csum]
 | cons x c ih =>
  intro h
  simp only [List.all_cons, Bool.and_eq_true, decide_eq_true_eq] at h
  have := ih h.2
  simp only [csum, List.length_cons]
  omega
theorem csum_le : ∀ c : List Int, c.all (fun x => decide (1 ≤ x)) = true → ∀ x ∈ c, x < csum c := by
 intro c
 induction c with
 | nil => intro _ x hx; simp at hx
 | cons y c ih =>
  intro h x hx
  simp only [List.all_cons, Bool.and_eq_true, decide_eq_true_eq] at h
  have hn := csum_nn c h.2
  simp only [csum]
  rcases List.mem_cons.1 hx with hx | hx
  ·omega
  ·have := ih h.2 x hx
   omega
theorem impl_clue_l (l : List Int) (hl : l.length ≤ 140737488351232) : ∀ (d i : Nat) (t : Int), l.length = i + d → 0 ≤ t → t ≤ 100 →
  Ev (fun k => impl_ClueValid.l0 k t l l.length i) ((l.drop i).all (fun x => decide (1 ≤ x)) && decide (csum (l.drop i) ≤ t)) := by
 intro d
 induction d with
 | zero =>
  intro i t hi h0 h1
  refine Ev.step (fun k => by rw [impl_ClueValid.l0]) (Ev.ifn (by omega) (Ev.eq (Ev.now _) ?_))
  rw [List.drop_eq_nil_of_le (by omega)]; simp [csum, h0]
 | succ d ih =>
  intro i t hi h0 h1
  have hlt : i < l.length := by omega
  have hw : wrap64 ((i : Int) + 1) = ((i + 1 : Nat) : Int) := by rw [w64 (by omega) (by omega)]; omega
  refine Ev.step (fun k => by rw [impl_ClueValid.l0]) ?_
  rw [rd_nat l i hlt, hw, List.drop_eq_getElem_cons hlt, List.all_cons]
  rw [show csum (l[i] :: l.drop (i + 1)) = l[i] + 1 + csum (l.drop (i + 1)) from rfl]
  refine Ev.ifp (by omega) (Ev.ifp (by omega) (Ev.ifp (by omega) ?_))
  by_cases c1 : l[i] < 1
  ·have h : ¬ 1 ≤ l[i] := by omega
   exact Ev.ifp c1 (Ev.eq (Ev.now _) (by simp [h]))
  refine Ev.ifn c1 ?_
  have g : 1 ≤ l[i] := by omega
  by_cases c2 : l[i] ≥ t
  ·refine Ev.ifp c2 (Ev.eq (Ev.now _) ?_)
   symm
   rw [Bool.and_eq_false_iff]
   cases ha : (l.drop (i + 1)).all (fun x => decide (1 ≤ x))
   ·left; simp
   ·right
    have := csum_nn _ ha
    simp; omega
  ·refine Ev.ifn c2 ?_
   rw [w64 (x := l[i] + 1) (by omega) (by omega), w64 (by omega) (by omega)]
   refine Ev.eq (ih (i + 1) (t - (l[i] + 1)) (by omega) (by omega) (by omega)) ?_
   simp only [g, decide_true, Bool.true_and]
   congr 1
   rw [decide_eq_decide]; omega
theorem impl_clue (l : List Int) (n : Int) (hl : l.length ≤ 140737488351232) : Ev (fun k => impl_ClueValid.f k l n) (clueV l n) := by
 have no : ∀ b : Bool, b = true → ¬ (1 ≤ n ∧ n ≤ 8) → Ev (fun k => impl_ClueValid.j0 k l n b) (clueV l n) := by
  intro b hb h
  refine Ev.step (fun k => by rw [impl_ClueValid.j0]) (Ev.ifp hb (Ev.eq (Ev.now _) ?_))
  unfold clueV
  rw [decide_eq_false h]; simp
 unfold impl_ClueValid.f
 by_cases c1 : n < 1
 ·exact Ev.ifp c1 (no _ rfl (by omega))
 refine Ev.ifn c1 ?_
 by_cases c2 : n > 8
 ·exact no _ (by simpa using c2) (by omega)
 refine Ev.step (fun k => by rw [impl_ClueValid.j0]) (Ev.ifn (by simpa using c2) ?_)
 rw [w64 (by omega) (by omega)]
 refine Ev.eq (impl_clue_l l hl l.length 0 (n + 1) (by omega) (by omega) (by omega)) ?_
 unfold clueV
 rw [decide_eq_true (show 1 ≤ n ∧ n ≤ 8 by omega)]; simp
def isum : List Int → Int
 | [] => 0
 | n :: l => n + isum l
theorem csum_isum : ∀ c : List Int, csum c = isum c + c.length := by
 intro c
 induction c with
 | nil => rfl
 | cons x c ih => simp only [csum, isum, List.length_cons]; omega
theorem spec_clue_l (l : List Int) (n : Int) (hl : l.length ≤ 1000000000) : ∀ (d i : Nat) (t : Int), l.length = i + d → -1 ≤ t → t ≤ 1000000000 + 8 * i →
  Ev (fun k => spec_ClueValid.l0 k l n t i) ((l.drop i).all (fun x => decide (1 ≤ x ∧ x ≤ 8)) && (decide (1 ≤ n ∧ n ≤ 8) && decide (t + isum (l.drop i) ≤ n))) := by
 intro d
 induction d with
 | zero =>
  intro i t hi h0 h1
  refine Ev.step (fun k => by rw [spec_ClueValid.l0]) (Ev.ifn (by omega) (Ev.bindc (l1In_f _ _ _) ?_))
  rw [List.drop_eq_nil_of_le (by omega)]
  rw [show isum [] = 0 from rfl, Int.add_zero]
  simp only [List.all_nil, Bool.true_and]
  by_cases c : 1 ≤ n ∧ n ≤ 8
  ·exact Ev.ifp (by simpa using c) (Ev.eq (Ev.now _) (by simp [c]))
  ·refine Ev.ifn (by simpa using c) (Ev.eq (Ev.now _) ?_)
   rw [decide_eq_false c]; simp
 | succ d ih =>
  intro i t hi h0 h1
  have hlt : i < l.length := by omega
  have hw : wrap64 ((i : Int) + 1) = ((i + 1 : Nat) : Int) := by rw [w64 (by omega) (by omega)]; omega
  refine Ev.step (fun k => by rw [spec_ClueValid.l0]) ?_
  rw [rd_nat l i hlt, hw, List.drop_eq_getElem_cons hlt, List.all_cons]
  rw [show isum (l[i] :: l.drop (i + 1)) = l[i] + isum (l.drop (i + 1)) from rfl]
  refine Ev.ifp (by omega) (Ev.ifp (by omega) (Ev.bindc (l1In_f _ _ _) ?_))
  by_cases c1 : 1 ≤ l[i] ∧ l[i] ≤ 8
  ·refine Ev.ifp (by simpa using c1) ?_
   rw [w64 (by omega) (by omega)]
   refine Ev.eq (ih (i + 1) (t + l[i]) (by omega) (by omega) (by omega)) ?_
   simp only [c1, and_self, decide_true, Bool.true_and]
   congr 2
   rw [decide_eq_decide]; omega
  ·refine Ev.ifn (by simpa using c1) (Ev.eq (Ev.now _) ?_)
   rw [decide_eq_false c1]; simp
theorem spec_clue (l : List Int) (n : Int) (hl : l.length ≤ 1000000000) : Ev (fun k => spec_ClueValid.f k l n) (clueV l n) := by
 unfold spec_ClueValid.f
 rw [w64 (by omega) (by omega)]
 refine Ev.eq (spec_clue_l l n hl l.length 0 ((l.length : Int) - 1) (by omega) (by omega) (by omega)) ?_
 unfold clueV
 rw [List.drop_zero]
 by_cases c : 1 ≤ n ∧ n ≤ 8
 ·simp only [c, and_self, decide_true, Bool.true_and]
  have e := csum_isum l
  rw [Bool.eq_iff_iff]
  simp only [Bool.and_eq_true, decide_eq_true_eq]
  constructor
  ·rintro ⟨h1, h2⟩
   refine ⟨?_, by omega⟩
   rw [List.all_eq_true] at h1 ⊢
   intro x hx
   have := h1 x hx
   simp only [decide_eq_true_eq] at this ⊢
   exact this.1
  ·rintro ⟨h1, h2⟩
   refine ⟨?_, by omega⟩
   have h3 := csum_le l h1
   rw [List.all_eq_true] at h1 ⊢
   intro x hx
   have a := h1 x hx
   have b := h3 x hx
   simp only [decide_eq_true_eq] at a ⊢
   omega
 ·rw [decide_eq_false c]; simp
theorem toIntS_l (xs : List Int) (hn : xs.length ≤ 35184372088832) : ∀ (d : Nat) (ys : List Int) (i : Nat), ys.length = xs.length → xs.length = i + d →
  Ev (fun k => laws_toIntS.l0 k xs ys i) (ys.take i ++ xs.drop i) := by
 intro d
 induction d with
 | zero =>
  intro ys i hy hi
  refine Ev.step (f := fun _ => some ys) (fun k => ?_) ((Ev.now _).eq ?_)
  ·rw [laws_toIntS.l0]; rw [if_neg (by omega)]
  ·rw [List.drop_eq_nil_of_le (by omega), List.take_of_length_le (by omega)]; simp
 | succ d ih =>
  intro ys i hy hi
  have hw : wrap64 ((i : Int) + 1) = ((i + 1 : Nat) : Int) := by rw [w64 (by omega) (by omega)]; omega
  have hlt : i < xs.length := by omega
  refine Ev.step (f := fun k => laws_toIntS.l0 k xs (ys.set i xs[i]) ((i + 1 : Nat) : Int)) (fun k => ?_) ((ih (ys.set i xs[i]) (i + 1) (by simp [hy]) (by omega)).eq ?_)
  ·rw [laws_toIntS.l0]; rw [if_pos (by omega), if_pos (by omega), if_pos (by omega), rd_nat xs i hlt, hw]; simp
  ·rw [List.take_add_one, List.take_set_of_le (Nat.le_refl i), List.drop_eq_getElem_cons hlt]
   simp [show i < ys.length by omega]
theorem toIntS_ev (xs : List Int) (hn : xs.length ≤ 35184372088832) : Ev (fun k => laws_toIntS.f k xs) xs := by
 unfold laws_toIntS.f
 refine Ev.ifp (by omega) (Ev.ifp (by omega) ?_)
 have h := toIntS_l xs hn xs.length (List.replicate xs.length 0) 0 (by simp) (by omega)
 simpa using h
theorem eqIntS_l (a b : List Int) (h : a.length = b.length) (hl : a.length ≤ 140737488351232) : ∀ (d i : Nat), a.length = i + d → Ev (fun k => laws_eqIntS.l0 k a b i) (decide (a.drop i = b.drop i)) := by
 intro d
 induction d with
 | zero =>
  intro i hi
  refine Ev.step (f := fun _ => some (decide (a.drop i = b.drop i))) (fun k => ?_) (Ev.now _)
  rw [laws_eqIntS.l0]; rw [if_neg (by omega), List.drop_eq_nil_of_le (by omega), List.drop_eq_nil_of_le (by omega)]; simp
 | succ d ih =>
  intro i hi
  have ha : i < a.length := by omega
  have hb : i < b.length := by omega
  have hw : wrap64 ((i : Int) + 1) = ((i + 1 : Nat) : Int) := by rw [w64 (by omega) (by omega)]; omega
  by_cases c : a[i] = b[i]
  ·refine Ev.step (f := fun k => laws_eqIntS.l0 k a b ((i + 1 : Nat) : Int)) (fun k => ?_) ((ih (i + 1) (by omega)).eq ?_)
   ·rw [laws_eqIntS.l0]; rw [if_pos (by omega), if_pos (by omega), if_pos (by omega), rd_nat a i ha, rd_nat b i hb, if_pos c, hw]
   ·rw [List.drop_eq_getElem_cons ha, List.drop_eq_getElem_cons hb, c]; simp only [List.cons.injEq, true_and]
  ·refine Ev.step (f := fun k => some false) (fun k => ?_) ((Ev.now _).eq ?_)
   ·rw [laws_eqIntS.l0]; rw [if_pos (by omega), if_pos (by omega), if_pos (by omega), rd_nat a i ha, rd_nat b i hb, if_neg c]
   ·rw [List.drop_eq_getElem_cons ha, List.drop_eq_getElem_cons hb]; simp only [List.cons.injEq, c, false_and, decide_false]
theorem eqIntS_ev (a b : List Int) (hl : a.length ≤ 140737488351232) : Ev (fun k => laws_eqIntS.f k a b) (decide (a = b)) := by
 unfold laws_eqIntS.f
 by_cases h : a.length = b.length
 ·exact Ev.ifp (by omega) ((eqIntS_l a b h hl a.length 0 (by omega)).eq (by simp))
 ·refine Ev.ifn (by omega) ((Ev.now false).eq ?_)
  symm; simp; intro e; exact h (by rw [e])
theorem eqIntS_self (a : List Int) (hl : a.length ≤ 140737488351232) : Ev (fun k => laws_eqIntS.f k a a) true := (eqIntS_ev a a hl).eq (by simp)
theorem rdL_nat (xs : List (List Int)) (i : Nat) (h : i < xs.length) : rd_L1 xs (i : Int) = xs[i] := by
 simp [rd_L1, List.getD_eq_getElem?_getD, h]
/-- All numbers of the rows. -/
def tot : List (List Int) → Nat
 | [] => 0
 | x :: l => x.length + tot l
theorem tot_mem : ∀ (l : List (List Int)), ∀ x ∈ l, x.length ≤ tot l := by
 intro l
 induction l with
 | nil => intro x hx; simp at hx
 | cons y l ih =>
  intro x hx
  simp only [tot]
  rcases List.mem_cons.1 hx with hx | hx
  ·subst hx; omega
  ·have := ih x hx; omega
theorem szIntS_f (l : List Int) (a : Int) (hl : l.length ≤ 9223372036854775807) (h0 : 0 ≤ a) (h1 : a ≤ 1048576) : laws_szIntS.f l a = some (if (l.length : Int) ≤ a then a - l.length else -1) := by
 unfold laws_szIntS.f
 rw [w64 (by omega) (by omega)]
 by_cases c : (l.length : Int) ≤ a
 ·rw [if_neg (by omega), if_pos c]
 ·rw [if_pos (by omega), if_neg c]
theorem szIntSS_l (l : List (List Int)) (hr : ∀ x ∈ l, x.length ≤ 9223372036854775807) (hl : l.length ≤ 1048576) : ∀ (d i : Nat) (a : Int), l.length = i + d → 0 ≤ a → a ≤ 1048576 →
  Ev (fun k => laws_szIntSS.l0 k l a i) (if (tot (l.drop i) : Int) ≤ a then a - tot (l.drop i) else -1) := by
 intro d
 induction d with
 | zero =>
  intro i a hi h0 h1
  refine Ev.step (fun k => by rw [laws_szIntSS.l0]) (Ev.ifn (by omega) (Ev.eq (Ev.now _) ?_))
  rw [List.drop_eq_nil_of_le (by omega)]; simp [tot, h0]
 | succ d ih =>
  intro i a hi h0 h1
  have hlt : i < l.length := by omega
  have hw : wrap64 ((i : Int) + 1) = ((i + 1 : Nat) : Int) := by rw [w64 (by omega) (by omega)]; omega
  refine Ev.step (fun k => by rw [laws_szIntSS.l0]) ?_
  rw [rdL_nat l i hlt, hw, List.drop_eq_getElem_cons hlt]
  refine Ev.ifp (by omega) (Ev.ifp (by omega) (Ev.bindc (szIntS_f _ a (hr _ (List.getElem_mem hlt)) h0 h1) ?_))
  rw [show tot (l[i] :: l.drop (i + 1)) = l[i].length + tot (l.drop (i + 1)) from rfl]
  by_cases c : (l[i].length : Int) ≤ a
  ·rw [if_pos c]
   refine Ev.ifn (by omega) (Ev.eq (ih (i + 1) _ (by omega) (by omega) (by omega)) ?_)
   by_cases c2 : (tot (l.drop (i + 1)) : Int) ≤ a - l[i].length
   ·rw [if_pos c2, if_pos (by omega)]; omega
   ·rw [if_neg c2, if_neg (by omega)]
  ·rw [if_neg c]
   refine Ev.ifp (by omega) (Ev.eq (Ev.now _) ?_)
   rw [if_neg (by omega)]
theorem szIntSS_ev (l : List (List Int)) (hr : ∀ x ∈ l, x.length ≤ 9223372036854775807) (hl : l.length ≤ 9223372036854775807) (a : Int) (h0 : 0 ≤ a) (h1 : a ≤ 1048576) :
  Ev (fun k => laws_szIntSS.f k l a) (if (l.length : Int) + tot l ≤ a then a - l.length - tot l else -1) := by
 unfold laws_szIntSS.f
 rw [w64 (by omega) (by omega)]
 by_cases c : a - (l.length : Int) < 0
 ·exact Ev.ifp c (Ev.eq (Ev.now _) (by rw [if_neg (by omega)]))
 refine Ev.ifn c (Ev.eq (szIntSS_l l hr (by omega) l.length 0 _ (by omega) (by omega) (by omega)) ?_)
 rw [List.drop_zero]
 by_cases c2 : (tot l : Int) ≤ a - l.length
 ·rw [if_pos c2, if_pos (by omega)]
 ·rw [if_neg c2, if_neg (by omega)]
theorem toIntSS_l (xs : List (List Int)) (hr : ∀ x ∈ xs, x.length ≤ 35184372088832) (hn : xs.length ≤ 11728124029610) : ∀ (d : Nat) (ys : List (List Int)) (i : Nat), ys.length = xs.length → xs.length = i + d →
  Ev (fun k => laws_toIntSS.l0 k xs ys i) (ys.take i ++ xs.drop i) := by
 intro d
 induction d with
 | zero =>
  intro ys i hy hi
  refine Ev.step (f := fun _ => some ys) (fun k => ?_) ((Ev.now _).eq ?_)
  ·rw [laws_toIntSS.l0]; rw [if_neg (by omega)]
  ·rw [List.drop_eq_nil_of_le (by omega), List.take_of_length_le (by omega)]; simp
 | succ d ih =>
  intro ys i hy hi
  have hw : wrap64 ((i : Int) + 1) = ((i + 1 : Nat) : Int) := by rw [w64 (by omega) (by omega)]; omega
  have hlt : i < xs.length := by omega
  refine Ev.step (fun k => by rw [laws_toIntSS.l0]) ?_
  rw [rdL_nat xs i hlt, hw]
  refine Ev.ifp (by omega) (Ev.ifp (by omega) (Ev.bind (toIntS_ev _ (hr _ (List.getElem_mem hlt))) (Ev.ifp (by omega) (Ev.eq (ih (ys.set i xs[i]) (i + 1) (by simp [hy]) (by omega)) ?_))))
  rw [List.take_add_one, List.take_set_of_le (Nat.le_refl i), List.drop_eq_getElem_cons hlt]
  simp [show i < ys.length by omega]
theorem toIntSS_ev (xs : List (List Int)) (hr : ∀ x ∈ xs, x.length ≤ 35184372088832) (hn : xs.length ≤ 11728124029610) : Ev (fun k => laws_toIntSS.f k xs) xs := by
 unfold laws_toIntSS.f
 refine Ev.ifp (by omega) (Ev.ifp (by omega) ?_)
 have h := toIntSS_l xs hr hn xs.length (List.replicate xs.length []) 0 (by simp) (by omega)
 simpa using h
theorem eqIntSS_self_l (a : List (List Int)) (hr : ∀ x ∈ a, x.length ≤ 140737488351232) (hl : a.length ≤ 140737488351232) : ∀ (d i : Nat), a.length = i + d → Ev (fun k => laws_eqIntSS.l0 k a a i) true := by
 intro d
 induction d with
 | zero => intro i hi; exact Ev.step (fun k => by rw [laws_eqIntSS.l0]) (Ev.ifn (by omega) (Ev.now _))
 | succ d ih =>
  intro i hi
  have hw : wrap64 ((i : Int) + 1) = ((i + 1 : Nat) : Int) := by rw [w64 (by omega) (by omega)]; omega
  have hlt : i < a.length := by omega
  refine Ev.step (fun k => by rw [laws_eqIntSS.l0]) ?_
  rw [rdL_nat a i hlt, hw]
  exact Ev.ifp (by omega) (Ev.ifp (by omega) (Ev.ifp (by omega) (Ev.bind (eqIntS_self _ (hr _ (List.getElem_mem hlt))) (Ev.ifp rfl (ih (i + 1) (by omega))))))
theorem eqIntSS_self (a : List (List Int)) (hr : ∀ x ∈ a, x.length ≤ 140737488351232) (hl : a.length ≤ 140737488351232) : Ev (fun k => laws_eqIntSS.f k a a) true := by
 unfold laws_eqIntSS.f
 exact Ev.ifp rfl (eqIntSS_self_l a hr hl a.length 0 (by omega))
/-- What PictureValid answers. -/
def picV (a b : List (List Int)) : Bool := (decide (1 ≤ a.length ∧ a.length ≤ 5) && decide (1 ≤ b.length ∧ b.length ≤ 5)) && (a.all (fun c => clueV c b.length) && b.all (fun c => clueV c a.length))
theorem impl_pic_l1 (a b : List (List Int)) (hb : ∀ x ∈ b, x.length ≤ 1048576) (hl : b.length ≤ 1048576) : ∀ (d i : Nat), b.length = i + d →
  Ev (fun k => impl_PictureValid.l1 k b b.length i a b) ((b.drop i).all (fun c => clueV c a.length)) := by
 intro d
 induction d with
 | zero =>
  intro i hi
  refine Ev.step (fun k => by rw [impl_PictureValid.l1]) (Ev.ifn (by omega) (Ev.eq (Ev.now _) ?_))
  rw [List.drop_eq_nil_of_le (by omega)]; simp
 | succ d ih =>
  intro i hi
  have hw : wrap64 ((i : Int) + 1) = ((i + 1 : Nat) : Int) := by rw [w64 (by omega) (by omega)]; omega
  have hlt : i < b.length := by omega
  refine Ev.step (fun k => by rw [impl_PictureValid.l1]) ?_
  rw [rdL_nat b i hlt, hw, List.drop_eq_getElem_cons hlt, List.all_cons]
  refine Ev.ifp (by omega) (Ev.ifp (by omega) (Ev.ifp (by omega) (Ev.bind (impl_clue _ _ (by have := hb _ (List.getElem_mem hlt); omega)) ?_)))
  cases hc : clueV b[i] a.length
  ·exact Ev.ifn (by simp) (Ev.eq (Ev.now _) (by simp))
  ·exact Ev.ifp rfl (Ev.eq (ih (i + 1) (by omega)) (by simp))
theorem impl_pic_l0 (a b : List (List Int)) (ha : ∀ x ∈ a, x.length ≤ 1048576) (hal : a.length ≤ 1048576) (hb : ∀ x ∈ b, x.length ≤ 1048576) (hl : b.length ≤ 1048576) : ∀ (d i : Nat), a.length = i + d →
  Ev (fun k => impl_PictureValid.l0 k a a.length i a b) ((a.drop i).all (fun c => clueV c b.length) && b.all (fun c => clueV c a.length)) := by
 intro d
 induction d with
 | zero =>
  intro i hi
  have h1 : Ev (fun k => impl_PictureValid.l1 k b b.length 0 a b) _ := impl_pic_l1 a b hb hl b.length 0 (by omega)
  refine Ev.step (fun k => by rw [impl_PictureValid.l0]) (Ev.ifn (by omega) (Ev.eq h1 ?_))
  rw [List.drop_eq_nil_of_le (show a.length ≤ i by omega)]; simp
 | succ d ih =>
  intro i hi
  have hw : wrap64 ((i : Int) + 1) = ((i + 1 : Nat) : Int) := by rw [w64 (by omega) (by omega)]; omega
  have hlt : i < a.length := by omega
  refine Ev.step (fun k => by rw [impl_PictureValid.l0]) ?_
  rw [rdL_nat a i hlt, hw, List.drop_eq_getElem_cons hlt, List.all_cons]
  refine Ev.ifp (by omega) (Ev.ifp (by omega) (Ev.ifp (by omega) (Ev.bind (impl_clue _ _ (by have := ha _ (List.getElem_mem hlt); omega)) ?_)))
  cases hc : clueV a[i] b.length
  ·exact Ev.ifn (by simp) (Ev.eq (Ev.now _) (by simp))
  ·exact Ev.ifp rfl (Ev.eq (ih (i + 1) (by omega)) (by simp))
theorem impl_pic_j (a b : List (List Int)) (ha : ∀ x ∈ a, x.length ≤ 1048576) (hal : a.length ≤ 1048576) (hb : ∀ x ∈ b, x.length ≤ 1048576) (hl : b.length ≤ 1048576) (x : Bool) :
  Ev (fun k => impl_PictureValid.j0 k x a b) (!x && (a.all (fun c => clueV c b.length) && b.all (fun c => clueV c a.length))) := by
 refine Ev.step (fun k => by rw [impl_PictureValid.j0]) ?_
 cases x
 ·exact Ev.ifn (by simp) (Ev.eq (impl_pic_l0 a b ha hal hb hl a.length 0 (by omega)) (by simp))
 ·exact Ev.ifp rfl (Ev.eq (Ev.now _) (by simp))
theorem impl_pic (a b : List (List Int)) (ha : ∀ x ∈ a, x.length ≤ 1048576) (hal : a.length ≤ 1048576) (hb : ∀ x ∈ b, x.length ≤ 1048576) (hl : b.length ≤ 1048576) : Ev (fun k => impl_PictureValid.f k a b) (picV a b) := by
 unfold impl_PictureValid.f picV
 have hj := impl_pic_j a b ha hal hb hl
 by_cases c1 : (a.length : Int) < 1
 ·refine Ev.ifp c1 (Ev.eq (hj true) ?_)
  have h : ¬ (1 ≤ a.length ∧ a.length ≤ 5) := by omega
  simp [h]
 refine Ev.ifn c1 ?_
 by_cases c2 : (a.length : Int) > 5
 ·refine Ev.ifp c2 (Ev.eq (hj true) ?_)
  have h : ¬ (1 ≤ a.length ∧ a.length ≤ 5) := by omega
  simp [h]
 refine Ev.ifn c2 ?_
 have h : (1 ≤ a.length ∧ a.length ≤ 5) := by omega
 by_cases c3 : (b.length : Int) < 1
 ·refine Ev.ifp c3 (Ev.eq (hj true) ?_)
  have h : ¬ (1 ≤ b.length ∧ b.length ≤ 5) := by omega
  simp [h]
 refine Ev.ifn c3 (Ev.eq (hj _) ?_)
 by_cases c4 : (b.length : Int) > 5
 ·have h5 : ¬ (1 ≤ b.length ∧ b.length ≤ 5) := by omega
  simp [h5, c4]
 ·have h5 : (1 ≤ b.length ∧ b.length ≤ 5) := by omega
  simp [h5, h, c4]
theorem spec_pic_l1 (a b : List (List Int)) (hb : ∀ x ∈ b, x.length ≤ 1048576) (hl : b.length ≤ 1048576) : ∀ (d i : Nat), b.length = i + d →
  Ev (fun k => spec_PictureValid.l1 k i a b) ((b.drop i).all (fun c => clueV c a.length) && (decide (1 ≤ a.length ∧ a.length ≤ 5) && decide (1 ≤ b.length ∧ b.length ≤ 5))) := by
 intro d
 induction d with
 | zero =>
  intro i hi
  refine Ev.step (fun k => by rw [spec_PictureValid.l1]) (Ev.ifn (by omega) (Ev.bindc (l1In_f _ _ _) ?_))
  rw [List.drop_eq_nil_of_le (by omega)]
  by_cases c : 1 ≤ (a.length : Int) ∧ (a.length : Int) ≤ 5
  ·refine Ev.ifp (by simpa using c) (Ev.bindc (l1In_f _ _ _) (Ev.eq (Ev.now _) ?_))
   have h : 1 ≤ a.length ∧ a.length ≤ 5 := by omega
   rw [show decide (1 ≤ (b.length : Int) ∧ (b.length : Int) ≤ 5) = decide (1 ≤ b.length ∧ b.length ≤ 5) from by rw [decide_eq_decide]; omega]
   simp [h]
  ·refine Ev.ifn (by simpa using c) (Ev.eq (Ev.now _) ?_)
   have h : ¬ (1 ≤ a.length ∧ a.length ≤ 5) := by omega
   simp [h]
 | succ d ih =>
  intro i hi
  have hw : wrap64 ((i : Int) + 1) = ((i + 1 : Nat) : Int) := by rw [w64 (by omega) (by omega)]; omega
  have hlt : i < b.length := by omega
  refine Ev.step (fun k => by rw [spec_PictureValid.l1]) ?_
  rw [rdL_nat b i hlt, hw, List.drop_eq_getElem_cons hlt, List.all_cons]
  refine Ev.ifp (by omega) (Ev.ifp (by omega) (Ev.bind (spec_clue _ _ (by have := hb _ (List.getElem_mem hlt); omega)) ?_))
  cases hc : clueV b[i] a.length
  ·exact Ev.ifn (by simp) (Ev.eq (Ev.now _) (by simp))
  ·exact Ev.ifp rfl (Ev.eq (ih (i + 1) (by omega)) (by simp))
theorem spec_pic_l0 (a b : List (List Int)) (ha : ∀ x ∈ a, x.length ≤ 1048576) (hal : a.length ≤ 1048576) (hb : ∀ x ∈ b, x.length ≤ 1048576) (hl : b.length ≤ 1048576) : ∀ (d i : Nat), a.length = i + d →
  Ev (fun k => spec_PictureValid.l0 k i a b) ((a.drop i).all (fun c => clueV c b.length) && (b.all (fun c => clueV c a.length) && (decide (1 ≤ a.length ∧ a.length ≤ 5) && decide (1 ≤ b.length ∧ b.length ≤ 5)))) := by
 intro d
 induction d with
 | zero =>
  intro i hi
  have h1 : Ev (fun k => spec_PictureValid.l1 k 0 a b) _ := spec_pic_l1 a b hb hl b.length 0 (by omega)
  refine Ev.step (fun k => by rw [spec_PictureValid.l0]) (Ev.ifn (by omega) (Ev.eq h1 ?_))
  rw [List.drop_eq_nil_of_le (show a.length ≤ i by omega)]; simp
 | succ d ih =>
  intro i hi
  have hw : wrap64 ((i : Int) + 1) = ((i + 1 : Nat) : Int) := by rw [w64 (by omega) (by omega)]; omega
  have hlt : i < a.length := by omega
  refine Ev.step (fun k => by rw [spec_PictureValid.l0]) ?_
  rw [rdL_nat a i hlt, hw, List.drop_eq_getElem_cons hlt, List.all_cons]
  refine Ev.ifp (by omega) (Ev.ifp (by omega) (Ev.bind (spec_clue _ _ (by have := ha _ (List.getElem_mem hlt); omega)) ?_))
  cases hc : clueV a[i] b.length
  ·exact Ev.ifn (by simp) (Ev.eq (Ev.now _) (by simp))
  ·exact Ev.ifp rfl (Ev.eq (ih (i + 1) (by omega)) (by simp))
theorem spec_pic (a b : List (List Int)) (ha : ∀ x ∈ a, x.length ≤ 1048576) (hal : a.length ≤ 1048576) (hb : ∀ x ∈ b, x.length ≤ 1048576) (hl : b.length ≤ 1048576) : Ev (fun k => spec_PictureValid.f k a b) (picV a b) := by
 unfold spec_PictureValid.f
 refine Ev.eq (spec_pic_l0 a b ha hal hb hl a.length 0 (by omega)) ?_
 rw [List.drop_zero]; unfold picV
 ac_rfl
/-- The clue of a line, r cells being filled ahead of it. -/
def clueR : Int → List Bool → List Int
 | r, [] => if 0 < r then [r] else []
 | r, true :: l => clueR (r + 1) l
 | r, false :: l => if 0 < r then r :: clueR 0 l else clueR 0 l
/-- What ClueOf answers. -/
def clueL (l : List Bool) : List Int := if l.length ≤ 8 then clueR 0 l else []
theorem rdOf_nat (xs : List Bool) (i : Nat) (h : i < xs.length) : rdOf false xs (i : Int) = xs[i] := by
 simp [rdOf, List.getD_eq_getElem?_getD, h]
theorem clueR_f : ∀ (l : List Bool) (r : Int), clueR r (l ++ [false]) = clueR r l := by
 intro l
 induction l with
 | nil => intro r; simp [clueR]
 | cons b l ih =>
  intro r
  cases b
  ·simp only [List.cons_append, clueR, ih]
  ·simp only [List.cons_append, clueR, ih]
theorem clueR_ft : ∀ (l : List Bool) (r : Int), clueR r (l ++ [false] ++ [true]) = clueR r l ++ [1] := by
 intro l
 induction l with
 | nil =>
  intro r
  by_cases h : 0 < r <;> simp [clueR, h]
 | cons b l ih =>
  intro r
  cases b
  ·simp only [List.cons_append, clueR]
   rw [ih]
   by_cases h : 0 < r <;> simp [h]
  ·simp only [List.cons_append, clueR]
   exact ih _
theorem clueR_tt : ∀ (l : List Bool) (r : Int), 0 ≤ r → ∃ ys z, clueR r (l ++ [true]) = ys ++ [z] ∧ clueR r (l ++ [true] ++ [true]) = ys ++ [z + 1] := by
 intro l
 induction l with
 | nil =>
  intro r hr
  refine ⟨[], r + 1, ?_, ?_⟩
  ·simp [clueR]; omega
  ·simp [clueR]; omega
 | cons b l ih =>
  intro r hr
  cases b
  ·obtain ⟨ys, z, h1, h2⟩ := ih 0 (by omega)
   by_cases h : 0 < r
   ·refine ⟨r :: ys, z, ?_, ?_⟩
    ·simp only [List.cons_append, clueR, h, if_true, h1]
    ·simp only [List.cons_append, clueR, h, if_true]
     rw [h2]
   ·refine ⟨ys, z, ?_, ?_⟩
    ·simp only [List.cons_append, clueR, h, if_false, h1]
    ·simp only [List.cons_append, clueR, h, if_false]
     rw [h2]
  ·obtain ⟨ys, z, h1, h2⟩ := ih (r + 1) (by omega)
   exact ⟨ys, z, by simpa only [List.cons_append, clueR] using h1, by simpa only [List.cons_append, clueR] using h2⟩
theorem clueR_le : ∀ (l : List Bool) (r : Int), 0 ≤ r → ∀ x ∈ clueR r l, 1 ≤ x ∧ x ≤ r + l.length := by
 intro l
 induction l with
 | nil =>
  intro r hr x hx
  simp only [clueR] at hx
  split at hx
  ·simp at hx; simp; omega
  ·simp at hx
 | cons b l ih =>
  intro r hr x hx
  cases b
  ·simp only [clueR] at hx
   split at hx
   ·rcases List.mem_cons.1 hx with hx | hx
    ·simp; omega
    ·have := ih 0 (by omega) x hx; simp; omega
   ·have := ih 0 (by omega) x hx; simp; omega
  ·simp only [clueR] at hx
   have := ih (r + 1) (by omega) x hx; simp; omega
theorem clueR_len : ∀ (l : List Bool) (r : Int), (clueR r l).length ≤ l.length + 1 := by
 intro l
 induction l with
 | nil => intro r; simp only [clueR]; split <;> simp
 | cons b l ih =>
  intro r
  cases b
  ·simp only [clueR]
   have := ih 0
   split <;> (simp; omega)
  ·simp only [clueR]
   have := ih (r + 1)
   simp; omega
theorem clueL_len (l : List Bool) : (clueL l).length ≤ 9 := by
 unfold clueL
 split
 ·have := clueR_len l 0; omega
 ·simp
def onesL (l : List Bool) : Int := (l.countP id : Nat)
/-! Binary digits. -/
def bit (m : Int) (d : Nat) : Int := m / 2 ^ d % 2
theorem shr_bit {m : Int} (h0 : 0 ≤ m) (d : Nat) (hd : d ≤ 64) : Int.tmod (shr .i64 m (d : Int)) 2 = bit m d := by
 have e : shr .i64 m (d : Int) = m / 2 ^ d := by
  unfold shr
  rw [show min (d : Int).toNat IntKind.i64.bits = d from by simp [IntKind.bits]; omega]
 rw [e, Int.tmod_eq_emod_of_nonneg (Int.ediv_nonneg h0 (Int.pow_nonneg (by decide)))]
 rfl
theorem shr_nat (m : Int) (d : Nat) (hd : d ≤ 64) : shr .i64 m (d : Int) = m / 2 ^ d := by
 unfold shr
 rw [show min (d : Int).toNat IntKind.i64.bits = d from by simp [IntKind.bits]; omega]
theorem and1_bit {x : Int} (h0 : 0 ≤ x) (h1 : x < 4611686018427387904) : Go.bits .and .i64 x 1 = x % 2 := by
 have := bits_mask .i64 62 (by decide) (fun n h h' => by rw [IntKind.wrap_i64]; omega) 1 (by decide) x h0 h1
 simpa using this
theorem bit_nat (a d : Nat) : bit (a : Int) d = if a.testBit d then 1 else 0 := by
 unfold bit
 rw [Nat.testBit_eq_decide_div_mod_eq]
 have e : ((a : Int) / 2 ^ d % 2) = ((a / 2 ^ d % 2 : Nat) : Int) := by push_cast; rfl
 rw [e]
 by_cases h : a / 2 ^ d % 2 = 1
 ·simp [h]
 ·have : a / 2 ^ d % 2 = 0 := by omega
  simp [this]
/-! The lines of a number of cells, by their numbers. -/
def lineN (m n : Nat) : List Bool := (List.range n).map (fun i => m.testBit i)
theorem lineN_length (m n : Nat) : (lineN m n).length = n := by simp [lineN]
theorem lineN_get (m n i : Nat) (h : i < (lineN m n).length) : (lineN m n)[i] = m.testBit i := by simp [lineN]
def bitI (m i : Nat) : Int := if m.testBit i then 1 else 0
/-- Does the line agree with what is known from cell i on? -/
def fitD (m : Nat) : Nat → List Int → Bool
 | _, [] => true
 | i, k :: ks => (decide (k < 0) || k == bitI m i) && fitD m (i + 1) ks
def isLine (clue kn : List Int) (m : Nat) : Bool := fitD m 0 kn && decide (clueL (lineN m kn.length) = clue)
def LFr (clue kn : List Int) (a d : Nat) : List Nat := (List.range' a d).filter (isLine clue kn)
def LF (clue kn : List Int) : List Nat := LFr clue kn 0 (2 ^ kn.length)
theorem LFr_cons (clue kn : List Int) (a d : Nat) : LFr clue kn a (d + 1) = if isLine clue kn a then a :: LFr clue kn (a + 1) d else LFr clue kn (a + 1) d := by
 unfold LFr
 rw [List.range'_succ, List.filter_cons]
theorem LFr_len (clue kn : List Int) (a d : Nat) : (LFr clue kn a d).length ≤ d := by
 have := List.length_filter_le (isLine clue kn) (List.range' a d)
 simpa [LFr] using this
theorem pow_le (n : Nat) (h : n ≤ 8) : 1 ≤ 2 ^ n ∧ 2 ^ n ≤ 256 := by
 have : n = 0 ∨ n = 1 ∨ n = 2 ∨ n = 3 ∨ n = 4 ∨ n = 5 ∨ n = 6 ∨ n = 7 ∨ n = 8 := by omega
 rcases this with rfl | rfl | rfl | rfl | rfl | rfl | rfl | rfl | rfl <;> decide
theorem shl_n (n : Nat) (h : n ≤ 8) : shl .i64 1 (n : Int) = ((2 ^ n : Nat) : Int) := by
 have : n = 0 ∨ n = 1 ∨ n = 2 ∨ n = 3 ∨ n = 4 ∨ n = 5 ∨ n = 6 ∨ n = 7 ∨ n = 8 := by omega
 rcases this with rfl | rfl | rfl | rfl | rfl | rfl | rfl | rfl | rfl <;> decide +kernel
theorem bit_eqI (m i : Nat) (hm : m < 4611686018427387904) (hi : i ≤ 64) : Go.bits .and .i64 (shr .i64 (m : Int) (i : Int)) 1 = bitI m i := by
 rw [shr_nat _ _ hi, and1_bit (Int.ediv_nonneg (by omega) (Int.pow_nonneg (by decide))) (by
  have : (m : Int) / 2 ^ i ≤ m := Int.ediv_le_self _ (by omega)
  omega)]
 exact bit_nat m i
theorem bitI_beq (m i : Nat) : (bitI m i == 1) = m.testBit i := by
 unfold bitI; cases m.testBit i <;> rfl
theorem impl_clueof_l (l : List Bool) (h8 : l.length ≤ 8) : ∀ (d i : Nat), l.length = i + d →
  Ev (fun k => impl_ClueOf.l0 k l (clueR 0 (l.take i)) l l.length i) (clueR 0 l) := by
 intro d
 induction d with
 | zero =>
  intro i hi
  refine Ev.step (fun k => by rw [impl_ClueOf.l0]) (Ev.ifn (by omega) (Ev.eq (Ev.now _) ?_))
  rw [List.take_of_length_le (by omega)]
 | succ d ih =>
  intro i hi
  have hlt : i < l.length := by omega
  have hw : wrap64 ((i : Int) + 1) = ((i + 1 : Nat) : Int) := by rw [w64 (by omega) (by omega)]; omega
  have hlen := clueR_len (l.take i) 0
  rw [List.length_take] at hlen
  have h1 := ih (i + 1) (by omega)
  have ht : l.take (i + 1) = l.take i ++ [l[i]] := by rw [List.take_succ_eq_append_getElem hlt]
  refine Ev.step (fun k => by rw [impl_ClueOf.l0]) (Ev.ifp (by omega) (Ev.ifp (by omega) (Ev.ifp (by omega) ?_)))
  rw [hw, rdOf_nat l i hlt]
  cases hb : l[i]
  ·refine Ev.ifn (by decide) ?_
   rw [ht, hb, clueR_f] at h1
   exact h1
  ·refine Ev.ifp rfl ?_
   by_cases c : (i : Int) > 0
   ·have hlt1 : i - 1 < l.length := by omega
    have hw1 : wrap64 ((i : Int) - 1) = ((i - 1 : Nat) : Int) := by rw [w64 (by omega) (by omega)]; omega
    have ht1 : l.take i = l.take (i - 1) ++ [l[i - 1]] := by
     have := List.take_succ_eq_append_getElem hlt1
     rw [show i - 1 + 1 = i by omega] at this
     exact this
    rw [hw1, rdOf_nat l (i - 1) hlt1]
    refine Ev.ifp c (Ev.ifp (by omega) (Ev.ifp (by omega) ?_))
    cases hb1 : l[i - 1]
    ·refine Ev.ifn (by decide) (Ev.ifp (by omega) ?_)
     rw [ht, hb, ht1, hb1, clueR_ft] at h1
     rw [ht1, hb1, clueR_f]
     exact h1
    ·obtain ⟨ys, z, g1, g2⟩ := clueR_tt (l.take (i - 1)) 0 (by omega)
     have e1 : clueR 0 (l.take i) = ys ++ [z] := by rw [ht1, hb1]; exact g1
     have e2 : clueR 0 (l.take (i + 1)) = ys ++ [z + 1] := by rw [ht, hb, ht1, hb1]; exact g2
     have hz := clueR_le (l.take i) 0 (by omega) z (by rw [e1]; simp)
     rw [List.length_take] at hz
     rw [e1] at hlen ⊢
     rw [e2] at h1
     have hyl : (ys ++ [z]).length = ys.length + 1 := by simp
     have hw2 : wrap64 (((ys ++ [z]).length : Int) - 1) = ((ys.length : Nat) : Int) := by rw [w64 (by omega) (by omega)]; omega
     have hr : rd (ys ++ [z]) ((ys.length : Nat) : Int) = z := by rw [rd_nat _ _ (by omega)]; simp
     rw [hw2, hr, w64 (x := z + 1) (by omega) (by omega)]
     refine Ev.ifp rfl (Ev.ifp (by omega) (Ev.ifp (by omega) ?_))
     have hs : (ys ++ [z]).set ((ys.length : Nat) : Int).toNat (z + 1) = ys ++ [z + 1] := by
      rw [Int.toNat_natCast, List.set_append_right _ _ (Nat.le_refl _)]; simp
     rw [hs]; exact h1
   ·have hi0 : i = 0 := by omega
    subst hi0
    refine Ev.ifn c (Ev.ifp (by omega) ?_)
    rw [ht, hb] at h1
    simpa [clueR] using h1
theorem impl_clueof (l : List Bool) (hl : l.length ≤ 140737488351232) : Ev (fun k => impl_ClueOf.f k l) (clueL l) := by
 unfold impl_ClueOf.f clueL
 by_cases h8 : l.length ≤ 8
 ·refine Ev.ifn (by omega) (Ev.eq (?_ : Ev _ (clueR 0 l)) (by rw [if_pos h8]))
  have := impl_clueof_l l h8 l.length 0 (by omega)
  simpa [clueR] using this
 ·exact Ev.ifp (by omega) (Ev.eq (Ev.now _) (by rw [if_neg h8]))
theorem impl_lineOf_l (m n : Nat) (hm : m < 4611686018427387904) (hn : n ≤ 60) : ∀ (d i : Nat) (ys : List Bool), ys.length = n → n = i + d →
  Ev (fun k => impl_lineOf.l0 k m ys n i) (ys.take i ++ (lineN m n).drop i) := by
 intro d
 induction d with
 | zero =>
  intro i ys hy hi
  refine Ev.step (fun k => by rw [impl_lineOf.l0]) (Ev.ifn (by omega) (Ev.eq (Ev.now _) ?_))
  rw [List.take_of_length_le (by omega), List.drop_eq_nil_of_le (by rw [lineN_length]; omega)]; simp
 | succ d ih =>
  intro i ys hy hi
  have hw : wrap64 ((i : Int) + 1) = ((i + 1 : Nat) : Int) := by rw [w64 (by omega) (by omega)]; omega
  refine Ev.step (fun k => by rw [impl_lineOf.l0]) (Ev.ifp (by omega) (Ev.ifp (by omega) (Ev.ifp (by omega) ?_)))
  rw [hw, bit_eqI m i hm (by omega), bitI_beq, Int.toNat_natCast]
  refine Ev.eq (ih (i + 1) (ys.set i (m.testBit i)) (by simp [hy]) (by omega)) ?_
  rw [List.take_add_one, List.take_set_of_le (Nat.le_refl i), List.drop_eq_getElem_cons (l := lineN m n) (i := i) (by rw [lineN_length]; omega), lineN_get]
  simp [show i < ys.length by omega]
theorem impl_lineOf_ev (m n : Nat) (hm : m < 4611686018427387904) (hn : n ≤ 60) : Ev (fun k => impl_lineOf.f k m n) (lineN m n) := by
 unfold impl_lineOf.f
 refine Ev.ifp (by omega) (Ev.ifp (by omega) (Ev.bindc rfl ?_))
 have := impl_lineOf_l m n hm hn n 0 (List.replicate n false) (by simp) (by omega)
 simpa using this
theorem equal_l (a b : List Int) (h : a.length = b.length) (hl : a.length ≤ 140737488351232) : ∀ (d i : Nat), a.length = i + d → Ev (fun k => slices_Equal_int_int.l0 k a b a.length i) (decide (a.drop i = b.drop i)) := by
 intro d
 induction d with
 | zero =>
  intro i hi
  refine Ev.step (fun k => by rw [slices_Equal_int_int.l0]) (Ev.ifn (by omega) (Ev.eq (Ev.now _) ?_))
  rw [List.drop_eq_nil_of_le (by omega), List.drop_eq_nil_of_le (by omega)]; simp
 | succ d ih =>
  intro i hi
  have ha : i < a.length := by omega
  have hb : i < b.length := by omega
  have hw : wrap64 ((i : Int) + 1) = ((i + 1 : Nat) : Int) := by rw [w64 (by omega) (by omega)]; omega
  refine Ev.step (fun k => by rw [slices_Equal_int_int.l0]) (Ev.ifp (by omega) (Ev.ifp (by omega) (Ev.ifp (by omega) (Ev.ifp (by omega) ?_))))
  rw [rd_nat a i ha, rd_nat b i hb, hw, List.drop_eq_getElem_cons ha, List.drop_eq_getElem_cons hb]
  by_cases c : a[i] = b[i]
  ·exact Ev.ifp c (Ev.eq (ih (i + 1) (by omega)) (by rw [c]; simp only [List.cons.injEq, true_and]))
  ·exact Ev.ifn c (Ev.eq (Ev.now _) (by simp only [List.cons.injEq, c, false_and, decide_false]))
theorem equal_ev (a b : List Int) (hl : a.length ≤ 140737488351232) : Ev (fun k => slices_Equal_int_int.f k a b) (decide (a = b)) := by
 unfold slices_Equal_int_int.f
 by_cases h : a.length = b.length
 ·exact Ev.ifp (by omega) (Ev.eq (equal_l a b h hl a.length 0 (by omega)) (by simp))
 ·refine Ev.ifn (by omega) (Ev.eq (Ev.now false) ?_)
  symm; simp; intro e; exact h (by rw [e])
theorem impl_fits (clue kn acc : List Int) (m N : Nat) (hm : m < 4611686018427387904) (hk : kn.length ≤ 60) (r : List Int) : ∀ (d i : Nat) (fl : Bool), kn.length = i + d →
  Ev (fun k => impl_linesFor.l1 k clue kn acc m (fl && fitD m i (kn.drop i)) N m kn kn.length kn.length) r →
  Ev (fun k => impl_linesFor.l1 k clue kn acc m fl N m kn kn.length i) r := by
 intro d
 induction d with
 | zero =>
  intro i fl hi H
  rw [List.drop_eq_nil_of_le (by omega)] at H
  have : kn.length = i := by omega
  rw [this] at H ⊢
  simpa [fitD] using H
 | succ d ih =>
  intro i fl hi H
  have hlt : i < kn.length := by omega
  have hw : wrap64 ((i : Int) + 1) = ((i + 1 : Nat) : Int) := by rw [w64 (by omega) (by omega)]; omega
  rw [List.drop_eq_getElem_cons hlt] at H
  refine Ev.step (fun k => by rw [impl_linesFor.l1]) (Ev.ifp (by omega) (Ev.ifp (by omega) (Ev.ifp (by omega) ?_)))
  rw [rd_nat kn i hlt, hw, bit_eqI m i hm (by omega)]
  cases fl
  ·refine Ev.ifn (by decide) (ih (i + 1) false (by omega) ?_)
   simpa using H
  ·refine Ev.ifp rfl ?_
   by_cases c : kn[i] < 0
   ·refine Ev.ifp c (ih (i + 1) true (by omega) ?_)
    simpa [fitD, c] using H
   ·refine Ev.ifn c (ih (i + 1) _ (by omega) ?_)
    simpa [fitD, c] using H
theorem impl_linesFor_l (clue kn : List Int) (hk : kn.length ≤ 8) : ∀ (d m : Nat) (acc : List Int), m + d = 2 ^ kn.length → acc.length + d ≤ 600 →
  Ev (fun k => impl_linesFor.l0 k clue kn acc ((2 ^ kn.length : Nat) : Int) m) (acc ++ (LFr clue kn m d).map (fun x : Nat => (x : Int))) := by
 have hp := pow_le _ hk
 intro d
 induction d with
 | zero =>
  intro m acc hm ha
  exact Ev.step (fun k => by rw [impl_linesFor.l0]) (Ev.ifn (by omega) (Ev.eq (Ev.now _) (by simp [LFr])))
 | succ d ih =>
  intro m acc hm ha
  have hw : wrap64 ((m : Int) + 1) = ((m + 1 : Nat) : Int) := by rw [w64 (by omega) (by omega)]; omega
  refine Ev.step (fun k => by rw [impl_linesFor.l0]) (Ev.ifp (by omega) ?_)
  refine impl_fits clue kn acc m (2 ^ kn.length) (by omega) (by omega) _ kn.length 0 true (by omega) ?_
  refine Ev.step (fun k => by rw [impl_linesFor.l1]) (Ev.ifn (by omega) ?_)
  rw [hw, LFr_cons, List.drop_zero, Bool.true_and]
  unfold isLine
  by_cases c : fitD m 0 kn = true
  ·rw [c, Bool.true_and]
   refine Ev.ifp rfl (Ev.bind (impl_lineOf_ev m kn.length (by omega) (by omega)) (Ev.bind (impl_clueof _ (by rw [lineN_length]; omega)) (Ev.bind (equal_ev _ _ (by have := clueL_len (lineN m kn.length); omega)) ?_)))
   by_cases c2 : clueL (lineN m kn.length) = clue
   ·refine Ev.ifp (by simpa using c2) (Ev.ifp (by omega) (Ev.eq (ih (m + 1) (acc ++ [(m : Int)]) (by omega) (by simp; omega)) ?_))
    simp [c2]
   ·refine Ev.ifn (by simpa using c2) (Ev.eq (ih (m + 1) acc (by omega) (by omega)) ?_)
    simp [c2]
  ·refine Ev.ifn c (Ev.eq (ih (m + 1) acc (by omega) (by omega)) ?_)
   simp [c]
theorem impl_linesFor_ev (clue kn : List Int) (hk : kn.length ≤ 8) : Ev (fun k => impl_linesFor.f k clue kn) ((LF clue kn).map (fun x : Nat => (x : Int))) := by
 have hp := pow_le _ hk
 unfold impl_linesFor.f
 rw [shl_n _ hk]
 have := impl_linesFor_l clue kn hk (2 ^ kn.length) 0 [] (by omega) (by simp; omega)
 simpa [LF] using this
/-- What KnownValid answers. -/
def knownV (l : List Int) : Bool := l.all (fun x => decide (-1 ≤ x ∧ x ≤ 1)) && decide (1 ≤ (l.length : Int) ∧ (l.length : Int) ≤ 8)
theorem impl_known_l (l : List Int) (hl : l.length ≤ 140737488351232) : ∀ (d i : Nat), l.length = i + d →
  Ev (fun k => impl_KnownValid.l0 k l l l.length i) ((l.drop i).all (fun x => decide (-1 ≤ x ∧ x ≤ 1)) && decide (1 ≤ (l.length : Int) ∧ (l.length : Int) ≤ 8)) := by
 intro d
 induction d with
 | zero =>
  intro i hi
  refine Ev.step (fun k => by rw [impl_KnownValid.l0]) (Ev.ifn (by omega) ?_)
  rw [List.drop_eq_nil_of_le (by omega)]
  by_cases c : (l.length : Int) ≥ 1
  ·exact Ev.ifp c (Ev.eq (Ev.now _) (by simp; omega))
  ·exact Ev.ifn c (Ev.eq (Ev.now _) (by simp; omega))
 | succ d ih =>
  intro i hi
  have hlt : i < l.length := by omega
  have hw : wrap64 ((i : Int) + 1) = ((i + 1 : Nat) : Int) := by rw [w64 (by omega) (by omega)]; omega
  refine Ev.step (fun k => by rw [impl_KnownValid.l0]) ?_
  rw [rd_nat l i hlt, hw, List.drop_eq_getElem_cons hlt, List.all_cons]
  refine Ev.ifp (by omega) (Ev.ifp (by omega) (Ev.ifp (by omega) ?_))
  by_cases c1 : l[i] < -1
  ·exact Ev.ifp c1 (Ev.eq (Ev.now _) (by simp; omega))
  refine Ev.ifn c1 ?_
  by_cases c2 : l[i] > 1
  ·exact Ev.ifp c2 (Ev.eq (Ev.now _) (by simp; omega))
  ·have h : -1 ≤ l[i] ∧ l[i] ≤ 1 := by omega
   exact Ev.ifn c2 (Ev.eq (ih (i + 1) (by omega)) (by simp [h]))
theorem impl_known (l : List Int) (hl : l.length ≤ 140737488351232) : Ev (fun k => impl_KnownValid.f k l) (knownV l) := by
 unfold impl_KnownValid.f
 exact impl_known_l l hl l.length 0 (by omega)
/-- What LineWays answers. -/
def waysV (clue kn : List Int) : Int := if knownV kn = true ∧ clueV clue kn.length = true then ((LF clue kn).length : Int) else -1
theorem knownV_ok {kn : List Int} (h : knownV kn = true) : 1 ≤ kn.length ∧ kn.length ≤ 8 ∧ ∀ x ∈ kn, -1 ≤ x ∧ x ≤ 1 := by
 unfold knownV at h
 simp only [Bool.and_eq_true, decide_eq_true_eq, List.all_eq_true] at h
 exact ⟨by omega, by omega, h.1⟩
theorem impl_ways (clue kn : List Int) (h1 : clue.length ≤ 1000000000) (h2 : kn.length ≤ 1000000000) : Ev (fun k => impl_LineWays.f k clue kn) (waysV clue kn) := by
 unfold impl_LineWays.f waysV
 refine Ev.bind (impl_known kn (by omega)) ?_
 by_cases c1 : knownV kn = true
 ·refine Ev.ifp c1 (Ev.bind (impl_clue clue _ (by omega)) ?_)
  by_cases c2 : clueV clue kn.length = true
  ·exact Ev.ifp c2 (Ev.bind (impl_linesFor_ev clue kn (knownV_ok c1).2.1) (Ev.eq (Ev.now _) (by rw [if_pos ⟨c1, c2⟩]; simp)))
  ·exact Ev.ifn c2 (Ev.eq (Ev.now _) (by rw [if_neg (fun h => c2 h.2)]))
 ·exact Ev.ifn c1 (Ev.eq (Ev.now _) (by rw [if_neg (fun h => c1 h.1)]))
theorem fitD_iff (m : Nat) : ∀ (ks : List Int) (a : Nat), fitD m a ks = true ↔ ∀ j (h : j < ks.length), ks[j] < 0 ∨ ks[j] = bitI m (a + j) := by
 intro ks
 induction ks with
 | nil => intro a; simp [fitD]
 | cons k ks ih =>
  intro a
  simp only [fitD, Bool.and_eq_true, Bool.or_eq_true, decide_eq_true_eq, beq_iff_eq]
  rw [ih]
  constructor
  ·rintro ⟨h0, h1⟩ j hj
   cases j with
   | zero => simpa using h0
   | succ j =>
    have := h1 j (by simpa using hj)
    simpa [Nat.add_assoc, Nat.add_comm 1 j] using this
  ·intro h
   refine ⟨by have h0 := h 0 (by simp); rw [Nat.add_zero] at h0; exact h0, fun j hj => ?_⟩
   have := h (j + 1) (by simpa using hj)
   simpa [Nat.add_assoc, Nat.add_comm 1 j] using this
theorem bitI_01 (m j : Nat) : bitI m j = 0 ∨ bitI m j = 1 := by unfold bitI; split <;> simp
theorem LF_mem {clue kn : List Int} {m : Nat} : m ∈ LF clue kn ↔ m < 2 ^ kn.length ∧ isLine clue kn m = true := by
 unfold LF LFr
 rw [List.mem_filter, List.mem_range'_1]
 constructor
 ·rintro ⟨⟨_, h⟩, h2⟩; exact ⟨by omega, h2⟩
 ·rintro ⟨h, h2⟩; exact ⟨⟨by omega, by omega⟩, h2⟩
/-- A line with a clue. -/
def mkLine : List Int → Nat → List Bool
 | [], n => List.replicate n false
 | c :: cs, n => List.replicate c.toNat true ++ (if c.toNat < n then false :: mkLine cs (n - c.toNat - 1) else [])
/-- The number of a line. -/
def toN : List Bool → Nat
 | [] => 0
 | b :: l => 2 * toN l + (if b then 1 else 0)
theorem toN_bit : ∀ (l : List Bool) (i : Nat) (h : i < l.length), (toN l).testBit i = l[i] := by
 intro l
 induction l with
 | nil => intro i h; simp at h
 | cons b l ih =>
  intro i h
  cases i with
  | zero =>
   rw [Nat.testBit_zero]
   cases b <;> simp [toN] <;> omega
  | succ i =>
   rw [Nat.testBit_succ]
   have e : toN (b :: l) / 2 = toN l := by cases b <;> simp [toN] <;> omega
   rw [e]
   simpa using ih i (by simpa using h)
theorem toN_lt : ∀ (l : List Bool), toN l < 2 ^ l.length := by
 intro l
 induction l with
 | nil => simp [toN]
 | cons b l ih =>
  simp only [toN, List.length_cons, Nat.pow_succ]
  cases b <;> simp <;> omega
theorem lineN_toN (l : List Bool) : lineN (toN l) l.length = l := by
 apply List.ext_getElem
 ·exact lineN_length _ _
 ·intro i h1 h2
  rw [lineN_get, toN_bit l i h2]
theorem fit_free (m n : Nat) : fitD m 0 (List.replicate n (-1)) = true := by
 rw [fitD_iff]
 intro j hj
 left
 simp
/-! Picture puzzles: rows by their numbers. -/
def colN (ns : List Nat) (c : Nat) : List Bool := ns.map (fun m => m.testBit c)
/-- What is known of column c, when the first rows are ns. -/
def knC (R : Nat) (ns : List Nat) (c : Nat) : List Int := ns.map (fun m => bitI m c) ++ List.replicate (R - ns.length) (-1)
def badP (B : List (List Int)) (R : Nat) (ns : List Nat) : Bool := (List.range B.length).any (fun c => decide (LF (B.getD c []) (knC R ns c) = []))
def okG (B : List (List Int)) (ns : List Nat) : Bool := (List.range B.length).all (fun c => decide (clueL (colN ns c) = B.getD c []))
def rowsP (A : List (List Int)) (C r : Nat) : List Nat := LF (A.getD r []) (List.replicate C (-1))
def solsP (A B : List (List Int)) : Nat → List Nat → List (List Nat)
 | 0, ns => if badP B A.length ns = true then [] else [ns]
 | d + 1, ns => if badP B A.length ns = true then [] else (rowsP A B.length ns.length).flatMap (fun m => solsP A B d (ns ++ [m]))
def allP (A : List (List Int)) (C : Nat) : Nat → List Nat → List (List Nat)
 | 0, ns => [ns]
 | d + 1, ns => (rowsP A C ns.length).flatMap (fun m => allP A C d (ns ++ [m]))
theorem knC_length (R : Nat) (ns : List Nat) (c : Nat) (h : ns.length ≤ R) : (knC R ns c).length = R := by simp [knC]; omega
theorem allP_ext (A : List (List Int)) (C : Nat) : ∀ (d : Nat) (ns g : List Nat), g ∈ allP A C d ns → ∃ t, g = ns ++ t ∧ t.length = d := by
 intro d
 induction d with
 | zero => intro ns g h; simp [allP] at h; exact ⟨[], by simp [h], rfl⟩
 | succ d ih =>
  intro ns g h
  simp only [allP, List.mem_flatMap] at h
  obtain ⟨m, _, hg⟩ := h
  obtain ⟨t, ht, hl⟩ := ih _ _ hg
  exact ⟨m :: t, by rw [ht]; simp, by simp [hl]⟩
theorem colN_length (ns : List Nat) (c : Nat) : (colN ns c).length = ns.length := by simp [colN]
/-- The column of a grid with its clue is among the lines for what is known of it. -/
theorem col_mem (R : Nat) (ns t : List Nat) (c : Nat) (hR : ns.length + t.length = R) (clue : List Int) (h : clueL (colN (ns ++ t) c) = clue) : toN (colN (ns ++ t) c) ∈ LF clue (knC R ns c) := by
 have hl : (colN (ns ++ t) c).length = R := by rw [colN_length, List.length_append]; exact hR
 rw [LF_mem, knC_length R ns c (by omega)]
 refine ⟨by have := toN_lt (colN (ns ++ t) c); rw [hl] at this; exact this, ?_⟩
 unfold isLine
 rw [Bool.and_eq_true, decide_eq_true_eq, knC_length R ns c (by omega)]
 constructor
 ·rw [fitD_iff]
  intro j hj
  rw [knC_length R ns c (by omega)] at hj
  rw [Nat.zero_add]
  by_cases c1 : j < ns.length
  ·right
   have hj2 : j < (colN (ns ++ t) c).length := by omega
   unfold bitI
   rw [toN_bit _ j hj2]
   simp [knC, colN, List.getElem_append, c1, bitI]
  ·left
   simp [knC, List.getElem_append, c1]
 ·have h2 := lineN_toN (colN (ns ++ t) c)
  rw [hl] at h2
  rw [h2]
  exact h
theorem bad_no (B : List (List Int)) (R : Nat) (ns t : List Nat) (hR : ns.length + t.length = R) (h : badP B R ns = true) : okG B (ns ++ t) = false := by
 rw [Bool.eq_false_iff]
 intro ho
 simp only [badP, List.any_eq_true, List.mem_range, decide_eq_true_eq] at h
 simp only [okG, List.all_eq_true, List.mem_range, decide_eq_true_eq] at ho
 obtain ⟨c, hc, hb⟩ := h
 have := col_mem R ns t c hR _ (ho c hc)
 rw [hb] at this
 simp at this
theorem bad_full (B : List (List Int)) (ns : List Nat) : badP B ns.length ns = !okG B ns := by
 cases hb : badP B ns.length ns with
 | true =>
  have := bad_no B ns.length ns [] (by simp) hb
  rw [List.append_nil] at this
  rw [this]; rfl
 | false =>
  have : okG B ns = true := by
   simp only [okG, List.all_eq_true, List.mem_range, decide_eq_true_eq]
   intro c hc
   have h1 : LF (B.getD c []) (knC ns.length ns c) ≠ [] := by
    intro e
    rw [Bool.eq_false_iff] at hb
    exact hb (List.any_eq_true.2 ⟨c, by simpa using hc, by simpa using e⟩)
   obtain ⟨m, hm⟩ := List.exists_mem_of_ne_nil _ h1
   rw [LF_mem, knC_length _ _ _ (Nat.le_refl _)] at hm
   obtain ⟨hm0, hm1⟩ := hm
   unfold isLine at hm1
   rw [Bool.and_eq_true, decide_eq_true_eq, knC_length _ _ _ (Nat.le_refl _), fitD_iff] at hm1
   have e : lineN m ns.length = colN ns c := by
    apply List.ext_getElem
    ·rw [lineN_length, colN_length]
    ·intro j h1 h2
     rw [lineN_get]
     have hj : j < ns.length := by rw [colN_length] at h2; exact h2
     have := hm1.1 j (by rw [knC_length _ _ _ (Nat.le_refl _)]; exact hj)
     rw [Nat.zero_add] at this
     have e2 : (knC ns.length ns c)[j]'(by rw [knC_length _ _ _ (Nat.le_refl _)]; exact hj) = bitI ns[j] c := by simp [knC, List.getElem_append, hj]
     rw [e2] at this
     have e3 : (colN ns c)[j] = ns[j].testBit c := by simp [colN]
     rw [e3]
     rcases this with h | h
     ·unfold bitI at h; split at h <;> omega
     ·unfold bitI at h
      cases ha : ns[j].testBit c <;> cases hb : m.testBit j <;> simp [ha, hb] at h ⊢
   rw [← e]; exact hm1.2
  rw [this]; rfl
theorem sols_filter (A B : List (List Int)) : ∀ (d : Nat) (ns : List Nat), ns.length + d = A.length → solsP A B d ns = (allP A B.length d ns).filter (okG B) := by
 intro d
 induction d with
 | zero =>
  intro ns h
  have h' : A.length = ns.length := by omega
  simp only [solsP, allP, h', bad_full]
  cases hh : okG B ns <;> simp [hh]
 | succ d ih =>
  intro ns h
  simp only [solsP]
  by_cases c : badP B A.length ns = true
  ·rw [if_pos c]
   symm
   rw [List.filter_eq_nil_iff]
   intro g hg
   obtain ⟨t, e, ht⟩ := allP_ext A B.length (d + 1) ns g hg
   rw [e, bad_no B A.length ns t (by omega) c]
   simp
  ·rw [if_neg c]
   simp only [allP]
   rw [List.filter_flatMap]
   congr 1
   funext m
   exact ih (ns ++ [m]) (by simp; omega)
def I1 (ns : List Nat) : List Int := ns.map (fun x : Nat => (x : Int))
def I2 (z : List (List Nat)) : List (List Int) := z.map I1
theorem I1_length (ns : List Nat) : (I1 ns).length = ns.length := by simp [I1]
theorem I2_length (z : List (List Nat)) : (I2 z).length = z.length := by simp [I2]
theorem I1_get (ns : List Nat) (i : Nat) (h : i < (I1 ns).length) : (I1 ns)[i] = ((ns[i]'(by simpa [I1] using h) : Nat) : Int) := by simp [I1]
theorem rd_I1 (ns : List Nat) (i : Nat) (h : i < ns.length) : rd (I1 ns) (i : Int) = ((ns[i] : Nat) : Int) := by
 rw [rd_nat _ _ (by rw [I1_length]; exact h), I1_get]
theorem I1_snoc (ns : List Nat) (m : Nat) : I1 ns ++ [((m : Nat) : Int)] = I1 (ns ++ [m]) := by simp [I1]
theorem I2_snoc (z : List (List Nat)) (ns : List Nat) : I2 z ++ [I1 ns] = I2 (z ++ [ns]) := by simp [I2]
theorem take_app {α : Type} (m : Nat) (x y : List α) : (x.take m ++ y).take m = (x ++ y).take m := by
 rw [List.take_append, List.take_append, List.take_take, Nat.min_self, List.length_take]
 congr 1
 by_cases c : x.length ≤ m
 ·rw [Nat.min_eq_right c]
 ·rw [Nat.min_eq_left (by omega)]
  have e1 : m - m = 0 := by omega
  have e2 : m - x.length = 0 := by omega
  rw [e1, e2]
theorem take_full {α : Type} (m : Nat) (x y : List α) (h : x.length = m) : (x ++ y).take m = x := by
 subst h; simp
theorem first_line (A : List (List Int)) (hA : A.length ≤ 1000) (ns : List Nat) (hns : ∀ m ∈ ns, m < 4611686018427387904) (hn : ns.length ≤ A.length) (c : Nat) (hc : c ≤ 60) : ∀ (d i : Nat) (ln : List Int), A.length = i + d → ln = (knC A.length ns c).take i →
  Ev (fun k => impl_firstPictures_1.l1 k A (I1 ns) c ln i) (knC A.length ns c) := by
 intro d
 induction d with
 | zero =>
  intro i ln hi hl
  have e : ln = knC A.length ns c := by rw [hl]; exact List.take_of_length_le (by rw [knC_length _ _ _ hn]; omega)
  exact Ev.step (fun k => by rw [impl_firstPictures_1.l1]) (Ev.ifn (by omega) (Ev.eq (Ev.now _) e))
 | succ d ih =>
  intro i ln hi hl
  have hw : wrap64 ((i : Int) + 1) = ((i + 1 : Nat) : Int) := by rw [w64 (by omega) (by omega)]; omega
  have hk : (knC A.length ns c).length = A.length := knC_length _ _ _ hn
  have hll : ln.length < 17592186044416 := by rw [hl, List.length_take]; omega
  have ht : (knC A.length ns c).take (i + 1) = ln ++ [(knC A.length ns c)[i]'(by omega)] := by rw [hl, ← List.take_append_getElem (by omega)]
  refine Ev.step (fun k => by rw [impl_firstPictures_1.l1, hw]) (Ev.ifp (by omega) ?_)
  by_cases c1 : i < ns.length
  ·have e1 : (knC A.length ns c)[i]'(by omega) = bitI ns[i] c := by simp [knC, List.getElem_append, c1]
   refine Ev.ifp (by rw [I1_length]; omega) (Ev.ifp (by omega) (Ev.ifp hll ?_))
   rw [rd_I1 ns i c1, bit_eqI _ _ (hns _ (List.getElem_mem _)) (by omega), ← e1, ← ht]
   exact ih (i + 1) _ (by omega) rfl
  ·have e1 : (knC A.length ns c)[i]'(by omega) = -1 := by simp [knC, List.getElem_append, c1]
   refine Ev.ifn (by rw [I1_length]; omega) (Ev.ifp hll ?_)
   rw [← e1, ← ht]
   exact ih (i + 1) _ (by omega) rfl
theorem knC_known (R : Nat) (ns : List Nat) (c : Nat) (h : ns.length ≤ R) (h1 : 1 ≤ R) (h8 : R ≤ 8) : knownV (knC R ns c) = true := by
 unfold knownV
 rw [knC_length _ _ _ h]
 simp only [Bool.and_eq_true, decide_eq_true_eq, List.all_eq_true]
 refine ⟨fun x hx => ?_, by omega⟩
 simp only [knC, List.mem_append, List.mem_map] at hx
 rcases hx with ⟨m, _, rfl⟩ | hx
 ·rcases bitI_01 m c with h | h <;> rw [h] <;> omega
 ·have := List.eq_of_mem_replicate hx; rw [this]; omega
structure PicOK (A B : List (List Int)) : Prop where
 a1 : 1 ≤ A.length
 a5 : A.length ≤ 5
 b1 : 1 ≤ B.length
 b5 : B.length ≤ 5
 av : ∀ x ∈ A, clueV x B.length = true
 bv : ∀ x ∈ B, clueV x A.length = true
 al : ∀ x ∈ A, x.length ≤ 1048576
 bl : ∀ x ∈ B, x.length ≤ 1048576
theorem PicOK.of {A B : List (List Int)} (h : picV A B = true) (al : ∀ x ∈ A, x.length ≤ 1048576) (bl : ∀ x ∈ B, x.length ≤ 1048576) : PicOK A B := by
 unfold picV at h
 simp only [Bool.and_eq_true, decide_eq_true_eq, List.all_eq_true] at h
 exact ⟨h.1.1.1, h.1.1.2, h.1.2.1, h.1.2.2, h.2.1, h.2.2, al, bl⟩
theorem getD_mem {α : Type} (l : List α) (i : Nat) (d : α) (h : i < l.length) : l.getD i d ∈ l := by
 rw [List.getD_eq_getElem?_getD, List.getElem?_eq_getElem h]; exact List.getElem_mem h
theorem first_prune {A B : List (List Int)} (hP : PicOK A B) (ns : List Nat) (hns : ∀ m ∈ ns, m < 4611686018427387904) (hn : ns.length ≤ A.length) : ∀ (d i : Nat), B.length = i + d →
  Ev (fun k => impl_firstPictures_1.l0 k A B (I1 ns) i) ((List.range' i d).any (fun c => decide (LF (B.getD c []) (knC A.length ns c) = []))) := by
 have a5 := hP.a5
 have b5 := hP.b5
 intro d
 induction d with
 | zero =>
  intro i hi
  exact Ev.step (fun k => by rw [impl_firstPictures_1.l0]) (Ev.ifn (by omega) (Ev.eq (Ev.now _) (by simp)))
 | succ d ih =>
  intro i hi
  have hw : wrap64 ((i : Int) + 1) = ((i + 1 : Nat) : Int) := by rw [w64 (by omega) (by omega)]; omega
  have hb : i < B.length := by omega
  have e0 : rd_L1 B (i : Int) = B.getD i [] := by rw [rdL_nat B i hb, List.getD_eq_getElem?_getD, List.getElem?_eq_getElem hb]; rfl
  have hm := getD_mem B i [] hb
  have hl := hP.bl _ hm
  have hk := knC_length A.length ns i hn
  refine Ev.step (fun k => by rw [impl_firstPictures_1.l0, hw, e0]) ?_
  have hfl := first_line A (by omega) ns hns hn i (by omega) A.length 0 [] (by omega) rfl
  refine Ev.ifp (by omega) (Ev.ifp (by omega) (Ev.bind hfl (Ev.bind (impl_ways (B.getD i []) (knC A.length ns i) (by omega) (by omega)) ?_)))
  have ew : waysV (B.getD i []) (knC A.length ns i) = ((LF (B.getD i []) (knC A.length ns i)).length : Int) := by
   unfold waysV
   rw [if_pos ⟨knC_known _ _ _ hn hP.a1 (by omega), by rw [hk]; exact hP.bv _ hm⟩]
  rw [List.range'_succ, List.any_cons, ew]
  by_cases c : LF (B.getD i []) (knC A.length ns i) = []
  ·exact Ev.ifp (by rw [c]; rfl) (Ev.eq (Ev.now _) (by simp only [c, decide_true, Bool.true_or]))
  ·refine Ev.ifn (fun h => c (List.eq_nil_of_length_eq_zero (by omega))) (Ev.eq (ih (i + 1) (by omega)) ?_)
   rw [decide_eq_false c, Bool.false_or]
theorem rowsP_lt (A : List (List Int)) (C r m : Nat) (hC : C ≤ 8) (h : m ∈ rowsP A C r) : m < 4611686018427387904 := by
 unfold rowsP at h
 rw [LF_mem, List.length_replicate] at h
 have := pow_le C hC
 omega
theorem nat_nn (i : Nat) : (0 : Int) ≤ (i : Int) := Int.natCast_nonneg i
theorem first_search {A B : List (List Int)} (hP : PicOK A B) (most : Nat) (hm : most ≤ 1000) : ∀ (d : Nat) (ns : List Nat) (out : List (List Nat)), ns.length + d = A.length → (∀ m ∈ ns, m < 4611686018427387904) → out.length < most →
  Ev (fun k => impl_firstPictures_1.f k A B (List.replicate B.length (-1)) most (I1 ns) (I2 out)) (I2 ((out ++ solsP A B d ns).take most)) := by
 have a5 := hP.a5
 have b5 := hP.b5
 intro d
 induction d with
 | zero =>
  intro ns out hd hns ho
  have h1 : ns.length = A.length := by omega
  have hp := first_prune hP ns hns (by omega) B.length 0 (by omega)
  rw [← List.range_eq_range'] at hp
  replace hp : Ev (fun k => impl_firstPictures_1.l0 k A B (I1 ns) 0) (badP B A.length ns) := hp
  refine Ev.step (fun k => by rw [impl_firstPictures_1.f]) ?_
  refine Ev.bind hp ?_
  simp only [solsP]
  by_cases c : badP B A.length ns = true
  ·rw [if_pos c]
   exact Ev.ifp c (Ev.eq (Ev.now _) (by rw [List.append_nil, List.take_of_length_le (by omega)]))
  ·rw [if_neg c]
   refine Ev.ifn c (Ev.ifp (by rw [I1_length]; omega) (Ev.ifp (by rw [I2_length]; omega) (Ev.eq (Ev.now _) ?_)))
   rw [I2_snoc, List.take_of_length_le (by simp; omega)]
 | succ d ih =>
  intro ns out hd hns ho
  have hp := first_prune hP ns hns (by omega) B.length 0 (by omega)
  rw [← List.range_eq_range'] at hp
  replace hp : Ev (fun k => impl_firstPictures_1.l0 k A B (I1 ns) 0) (badP B A.length ns) := hp
  have hlt : ns.length < A.length := by omega
  have e0 : rd_L1 A (((I1 ns).length : Nat) : Int) = A.getD ns.length [] := by rw [I1_length, rdL_nat A _ hlt, List.getD_eq_getElem?_getD, List.getElem?_eq_getElem hlt]; rfl
  refine Ev.step (fun k => by rw [impl_firstPictures_1.f, e0]) ?_
  refine Ev.bind hp ?_
  simp only [solsP]
  by_cases c : badP B A.length ns = true
  ·rw [if_pos c]
   exact Ev.ifp c (Ev.eq (Ev.now _) (by rw [List.append_nil, List.take_of_length_le (by omega)]))
  ·rw [if_neg c]
   refine Ev.ifn c (Ev.ifn (by rw [I1_length]; omega) (Ev.ifp (by rw [I1_length]; omega) (Ev.bind (impl_linesFor_ev _ _ (by simp; omega)) ?_)))
   have hL : ∀ m ∈ rowsP A B.length ns.length, m < 4611686018427387904 := fun m h => rowsP_lt _ _ _ _ (by omega) h
   have hLl : (rowsP A B.length ns.length).length ≤ 1000 := by
    have h1 := LFr_len (A.getD ns.length []) (List.replicate B.length (-1)) 0 (2 ^ (List.replicate B.length (-1 : Int)).length)
    have h2 := pow_le B.length (by omega)
    rw [List.length_replicate] at h1
    unfold rowsP LF
    rw [List.length_replicate]
    omega
   have loop : ∀ (e i : Nat) (z : List (List Nat)), (rowsP A B.length ns.length).length = i + e → z.length ≤ most →
     Ev (fun k => impl_firstPictures_1.l2 k A B (List.replicate B.length (-1)) most (I1 ns) (I1 (rowsP A B.length ns.length)) (I2 z) i) (I2 ((z ++ ((rowsP A B.length ns.length).drop i).flatMap (fun m => solsP A B d (ns ++ [m]))).take most)) := by
    intro e
    induction e with
    | zero =>
     intro i z hi hz
     refine Ev.step (fun k => by rw [impl_firstPictures_1.l2]) (Ev.ifn (by rw [I1_length]; omega) (Ev.eq (Ev.now _) ?_))
     rw [List.drop_of_length_le (by omega), List.flatMap_nil, List.append_nil, List.take_of_length_le hz]
    | succ e ihe =>
     intro i z hi hz
     have hw : wrap64 ((i : Int) + 1) = ((i + 1 : Nat) : Int) := by rw [w64 (by omega) (by omega)]; omega
     have hil : i < (rowsP A B.length ns.length).length := by omega
     have q1 : (i : Int) < ((I1 (rowsP A B.length ns.length)).length : Int) := by rw [I1_length]; exact Int.ofNat_lt.2 hil
     refine Ev.step (fun k => by rw [impl_firstPictures_1.l2, hw]) (Ev.ifp q1 (Ev.ifp (nat_nn i) ?_))
     rw [List.drop_eq_getElem_cons hil, List.flatMap_cons]
     by_cases c2 : z.length < most
     ·refine Ev.ifp (by rw [I2_length]; omega) (Ev.ifp (by rw [I1_length]; omega) ?_)
      rw [rd_I1 _ i hil, I1_snoc]
      refine Ev.bind (ih (ns ++ [(rowsP A B.length ns.length)[i]]) z (by simp; omega) ?_ c2) ?_
      ·intro m hm2
       rcases List.mem_append.1 hm2 with h | h
       ·exact hns m h
       ·rw [List.mem_singleton.1 h]; exact hL _ (List.getElem_mem hil)
      ·refine Ev.eq (ihe (i + 1) _ (by omega) (by rw [List.length_take]; omega)) ?_
       rw [take_app, List.append_assoc]
     ·refine Ev.ifn (by rw [I2_length]; omega) (Ev.eq (ihe (i + 1) z (by omega) hz) ?_)
      rw [take_full most z _ (by omega), take_full most z _ (by omega)]
   exact loop (rowsP A B.length ns.length).length 0 out (by omega) (by omega)
theorem first_free (n : Nat) (hn : n ≤ 1000) : ∀ (d i : Nat), n = i + d → Ev (fun k => impl_firstPictures.l0 k n (List.replicate i (-1)) i) (List.replicate n (-1)) := by
 intro d
 induction d with
 | zero =>
  intro i hi
  have e : i = n := by omega
  exact Ev.step (fun k => by rw [impl_firstPictures.l0]) (Ev.ifn (by omega) (Ev.eq (Ev.now _) (by rw [e])))
 | succ d ih =>
  intro i hi
  have hw : wrap64 ((i : Int) + 1) = ((i + 1 : Nat) : Int) := by rw [w64 (by omega) (by omega)]; omega
  refine Ev.step (fun k => by rw [impl_firstPictures.l0, hw]) (Ev.ifp (by omega) (Ev.ifp (by simp; omega) ?_))
  rw [← List.replicate_succ']
  exact ih (i + 1) (by omega)
/-- All solutions in order. -/
def solG (A B : List (List Int)) : List (List Nat) := (allP A B.length A.length []).filter (okG B)
theorem first_ev {A B : List (List Int)} (hP : PicOK A B) (most : Nat) (h1 : 1 ≤ most) (hm : most ≤ 1000) : Ev (fun k => impl_firstPictures.f k A B most) (I2 ((solG A B).take most)) := by
 have b5 := hP.b5
 unfold impl_firstPictures.f
 refine Ev.bind (first_free B.length (by omega) B.length 0 (by omega)) ?_
 have h := first_search hP most hm A.length [] [] (by simp) (by simp) (by simp; omega)
 rw [List.nil_append, sols_filter A B A.length [] (by simp)] at h
 exact h
theorem spec_clueof_end (l : List Bool) (out : List Int) (run : Int) (h8 : l.length ≤ 8) : Ev (fun k => spec_ClueOf.l0 k l out run ((l.length + 1 : Nat) : Int)) out := by
 refine Ev.step (fun k => by rw [spec_ClueOf.l0]) (Ev.ifn (by omega) ?_)
 exact Ev.step (fun k => by rw [spec_ClueOf.j1]) (Ev.ifn (by decide) (Ev.now _))
theorem spec_clueof_l (l : List Bool) (h8 : l.length ≤ 8) : ∀ (d i : Nat) (run : Int) (out : List Int), l.length = i + d → 0 ≤ run → run ≤ i → out.length ≤ i →
  Ev (fun k => spec_ClueOf.l0 k l out run i) (out ++ clueR run (l.drop i)) := by
 intro d
 induction d with
 | zero =>
  intro i run out hi h0 h1 h2
  have hw : wrap64 ((i : Int) + 1) = ((l.length + 1 : Nat) : Int) := by rw [w64 (by omega) (by omega)]; omega
  refine Ev.step (fun k => by rw [spec_ClueOf.l0]) (Ev.ifp (by omega) ?_)
  refine Ev.step (fun k => by rw [spec_ClueOf.j1]) (Ev.ifp (by simp; omega) (Ev.ifn (by omega) ?_))
  refine Ev.step (fun k => by rw [spec_ClueOf.j2]) (Ev.ifn (by decide) ?_)
  rw [hw, List.drop_eq_nil_of_le (by omega)]
  by_cases c : run > 0
  ·refine Ev.ifp c (Ev.ifp (by omega) (Ev.eq (spec_clueof_end l _ _ h8) ?_))
   simp [clueR, show 0 < run from c]
  ·refine Ev.ifn c (Ev.eq (spec_clueof_end l _ _ h8) ?_)
   have : ¬ 0 < run := c
   simp [clueR, this]
 | succ d ih =>
  intro i run out hi h0 h1 h2
  have hlt : i < l.length := by omega
  have hw : wrap64 ((i : Int) + 1) = ((i + 1 : Nat) : Int) := by rw [w64 (by omega) (by omega)]; omega
  refine Ev.step (fun k => by rw [spec_ClueOf.l0]) (Ev.ifp (by omega) ?_)
  refine Ev.step (fun k => by rw [spec_ClueOf.j1]) (Ev.ifp (by simp; omega) (Ev.ifp (by omega) (Ev.ifp (by omega) ?_)))
  refine Ev.step (fun k => by rw [spec_ClueOf.j2]) ?_
  rw [hw, rdOf_nat l i hlt, List.drop_eq_getElem_cons hlt]
  cases hb : l[i]
  ·refine Ev.ifn (by decide) ?_
   by_cases c : run > 0
   ·refine Ev.ifp c (Ev.ifp (by omega) (Ev.eq (ih (i + 1) 0 (out ++ [run]) (by omega) (by omega) (by omega) (by simp; omega)) ?_))
    simp [clueR, show 0 < run from c]
   ·have hr : run = 0 := by omega
    refine Ev.ifn c (Ev.eq (ih (i + 1) run out (by omega) (by omega) (by omega) (by omega)) ?_)
    simp [clueR, hr]
  ·refine Ev.ifp rfl ?_
   rw [w64 (x := run + 1) (by omega) (by omega)]
   refine Ev.eq (ih (i + 1) (run + 1) out (by omega) (by omega) (by omega) (by omega)) ?_
   simp [clueR]
theorem spec_clueof (l : List Bool) (hl : l.length ≤ 140737488351232) : Ev (fun k => spec_ClueOf.f k l) (clueL l) := by
 unfold spec_ClueOf.f clueL
 by_cases h8 : l.length ≤ 8
 ·exact Ev.eq (spec_clueof_l l h8 l.length 0 0 [] (by omega) (by omega) (by omega) (by simp)) (by rw [if_pos h8]; simp)
 ·refine Ev.step (fun k => by rw [spec_ClueOf.l0]) (Ev.ifp (by omega) ?_)
  exact Ev.step (fun k => by rw [spec_ClueOf.j1]) (Ev.ifn (by simp; omega) (Ev.eq (Ev.now _) (by rw [if_neg h8])))
theorem rdB_nat (xs : List (List Bool)) (i : Nat) (h : i < xs.length) : rd_L3 xs (i : Int) = xs[i] := by
 simp [rd_L3, List.getD_eq_getElem?_getD, h]
def colB (l : List (List Bool)) (c : Nat) : List Bool := l.map (fun r => r.getD c false)
def colsV (l : List (List Bool)) (W : Nat) : List (List Int) := (List.range W).map (fun c => clueL (colB l c))
def picOfV (l : List (List Bool)) : List (List Int) × List (List Int) × Bool :=
 if 1 ≤ l.length ∧ l.length ≤ 5 ∧ 1 ≤ (l.getD 0 []).length ∧ (l.getD 0 []).length ≤ 5 ∧ ∀ x ∈ l, x.length = (l.getD 0 []).length then (l.map clueL, colsV l (l.getD 0 []).length, true) else ([], [], false)
/-! PictureOf, exactly. -/
theorem colB_length (l : List (List Bool)) (c : Nat) : (colB l c).length = l.length := by simp [colB]
theorem colB_take (l : List (List Bool)) (c i : Nat) (h : i < l.length) : colB (l.take (i + 1)) c = colB (l.take i) c ++ [(l[i]).getD c false] := by
 unfold colB; rw [List.take_succ_eq_append_getElem h, List.map_append]; rfl
theorem getB (r : List Bool) (c : Nat) (h : c < r.length) : rdOf false r (c : Int) = r.getD c false := by
 rw [rdOf_nat r c h, List.getD_eq_getElem?_getD, List.getElem?_eq_getElem h]; rfl
theorem ownrows_l' (l : List (List Bool)) (hl : l.length ≤ 100) (hx : ∀ x ∈ l, x.length ≤ 100) : ∀ (d i : Nat), l.length = i + d → Ev (fun k => spec_l1OwnRowsBool.l0 k l (l.take i) i) l := by
 intro d
 induction d with
 | zero =>
  intro i hi
  rw [List.take_of_length_le (by omega)]
  exact Ev.step (fun k => by rw [spec_l1OwnRowsBool.l0]) (Ev.ifn (by omega) (Ev.now _))
 | succ d ih =>
  intro i hi
  have hw : wrap64 ((i : Int) + 1) = ((i + 1 : Nat) : Int) := by rw [w64 (by omega) (by omega)]; omega
  have hlt : i < l.length := by omega
  have h1 := hx _ (List.getElem_mem hlt)
  have h := ih (i + 1) (by omega)
  rw [List.take_succ_eq_append_getElem hlt] at h
  refine Ev.step (fun k => by rw [spec_l1OwnRowsBool.l0]) ?_
  rw [rdB_nat l i hlt, hw]
  refine Ev.ifp (by omega) ?_
  refine Ev.bindc rfl ?_
  refine Ev.ifp (by omega) (Ev.ifp (by simp only [List.length_nil]; omega) (Ev.ifp (by rw [List.length_take]; omega) ?_))
  rw [List.nil_append]
  exact h
theorem ownrows_ev (l : List (List Bool)) (hl : l.length ≤ 100) (hx : ∀ x ∈ l, x.length ≤ 100) : Ev (fun k => spec_l1OwnRowsBool.f k l) l := by
 unfold spec_l1OwnRowsBool.f
 exact ownrows_l' l hl hx l.length 0 (by omega)
theorem columnB_l (l : List (List Bool)) (hl : l.length ≤ 100) (c : Nat) (hx : ∀ x ∈ l, c < x.length) : ∀ (d i : Nat), l.length = i + d → Ev (fun k => spec_l13Column.l0 k l c (colB (l.take i) c) i) (colB l c) := by
 intro d
 induction d with
 | zero =>
  intro i hi
  refine Ev.step (fun k => by rw [spec_l13Column.l0]) (Ev.ifn (by omega) (Ev.eq (Ev.now _) ?_))
  rw [List.take_of_length_le (by omega)]
 | succ d ih =>
  intro i hi
  have hw : wrap64 ((i : Int) + 1) = ((i + 1 : Nat) : Int) := by rw [w64 (by omega) (by omega)]; omega
  have hlt : i < l.length := by omega
  have h1 := hx _ (List.getElem_mem hlt)
  have hr := ih (i + 1) (by omega)
  rw [colB_take l c i hlt] at hr
  refine Ev.step (fun k => by rw [spec_l13Column.l0]) ?_
  rw [rdB_nat l i hlt, hw, getB _ _ h1]
  exact Ev.ifp (by omega) (Ev.ifp (by omega) (Ev.ifp (by omega) (Ev.ifp (by omega) (Ev.ifp (by rw [colB_length, List.length_take]; omega) hr))))
theorem columnB_ev (l : List (List Bool)) (hl : l.length ≤ 100) (c : Nat) (hx : ∀ x ∈ l, c < x.length) : Ev (fun k => spec_l13Column.f k l c) (colB l c) := by
 unfold spec_l13Column.f
 exact columnB_l l hl c hx l.length 0 (by omega)
theorem spec_line_l (m n : Nat) (hm : m < 4611686018427387904) (hn : n ≤ 60) : ∀ (d i : Nat) (out : List Bool), n = i + d → out.length ≤ i →
  Ev (fun k => spec_l12Line.l0 k m n out i) (out ++ (lineN m n).drop i) := by
 intro d
 induction d with
 | zero =>
  intro i out hi ho
  refine Ev.step (fun k => by rw [spec_l12Line.l0]) (Ev.ifn (by omega) (Ev.eq (Ev.now _) ?_))
  rw [List.drop_eq_nil_of_le (by rw [lineN_length]; omega)]; simp
 | succ d ih =>
  intro i out hi ho
  have hw : wrap64 ((i : Int) + 1) = ((i + 1 : Nat) : Int) := by rw [w64 (by omega) (by omega)]; omega
  refine Ev.step (fun k => by rw [spec_l12Line.l0]) (Ev.ifp (by omega) (Ev.ifp (by omega) (Ev.ifp (by omega) ?_)))
  have e : (Int.tmod (shr .i64 (m : Int) (i : Int)) 2 == 1) = m.testBit i := by
   rw [shr_bit (by omega) i (by omega), bit_nat]; cases m.testBit i <;> rfl
  rw [hw, e]
  refine Ev.eq (ih (i + 1) (out ++ [m.testBit i]) (by omega) (by simp; omega)) ?_
  rw [List.drop_eq_getElem_cons (l := lineN m n) (i := i) (by rw [lineN_length]; omega), lineN_get]; simp
theorem spec_line_ev (m n : Nat) (hm : m < 4611686018427387904) (hn : n ≤ 60) : Ev (fun k => spec_l12Line.f k m n) (lineN m n) := by
 unfold spec_l12Line.f
 have := spec_line_l m n hm hn n 0 [] (by omega) (by simp)
 simpa using this
theorem l8Same_l (a b : List Int) (h : a.length = b.length) (hl : a.length ≤ 140737488351232) : ∀ (d i : Nat), a.length = i + d → Ev (fun k => spec_l8Same.l0 k a b i) (decide (a.drop i = b.drop i)) := by
 intro d
 induction d with
 | zero =>
  intro i hi
  refine Ev.step (fun k => by rw [spec_l8Same.l0]) (Ev.ifn (by omega) (Ev.eq (Ev.now _) ?_))
  rw [List.drop_eq_nil_of_le (by omega), List.drop_eq_nil_of_le (by omega)]; simp
 | succ d ih =>
  intro i hi
  have ha : i < a.length := by omega
  have hb : i < b.length := by omega
  have hw : wrap64 ((i : Int) + 1) = ((i + 1 : Nat) : Int) := by rw [w64 (by omega) (by omega)]; omega
  refine Ev.step (fun k => by rw [spec_l8Same.l0]) (Ev.ifp (by omega) (Ev.ifp (by omega) (Ev.ifp (by omega) ?_)))
  rw [rd_nat a i ha, rd_nat b i hb, hw, List.drop_eq_getElem_cons ha, List.drop_eq_getElem_cons hb]
  by_cases c : a[i] = b[i]
  ·exact Ev.ifp c (Ev.eq (ih (i + 1) (by omega)) (by rw [c]; simp only [List.cons.injEq, true_and]))
  ·exact Ev.ifn c (Ev.eq (Ev.now _) (by simp only [List.cons.injEq, c, false_and, decide_false]))
theorem l8Same_ev (a b : List Int) (hl : a.length ≤ 140737488351232) : Ev (fun k => spec_l8Same.f k a b) (decide (a = b)) := by
 unfold spec_l8Same.f
 by_cases h : a.length = b.length
 ·exact Ev.ifp (by omega) (Ev.eq (l8Same_l a b h hl a.length 0 (by omega)) (by simp))
 ·refine Ev.ifn (by omega) (Ev.eq (Ev.now false) ?_)
  symm; simp; intro e; exact h (by rw [e])
theorem l12Same_ev (l : List Bool) (clue : List Int) (hl : l.length ≤ 140737488351232) : Ev (fun k => spec_l12Same.f k l clue) (decide (clueL l = clue)) := by
 unfold spec_l12Same.f
 exact Ev.bind (spec_clueof l hl) (Ev.bind (l8Same_ev _ _ (by have := clueL_len l; omega)) (Ev.now _))
/-! The reference's search of pictures. -/
def LB (C : Nat) (ns : List Nat) : List (List Bool) := ns.map (fun m => lineN m C)
def LBs (C : Nat) (z : List (List Nat)) : List (List (List Bool)) := z.map (LB C)
theorem LB_length (C : Nat) (ns : List Nat) : (LB C ns).length = ns.length := by simp [LB]
theorem LBs_length (C : Nat) (z : List (List Nat)) : (LBs C z).length = z.length := by simp [LBs]
theorem LB_row (C : Nat) (ns : List Nat) : ∀ x ∈ LB C ns, x.length = C := by
 intro x hx
 obtain ⟨m, _, rfl⟩ := List.mem_map.1 hx
 exact lineN_length m C
theorem LB_col (C : Nat) (ns : List Nat) (c : Nat) (hc : c < C) : colB (LB C ns) c = colN ns c := by
 unfold colB LB colN
 rw [List.map_map]
 apply List.map_congr_left
 intro m _
 simp only [Function.comp]
 rw [List.getD_eq_getElem?_getD, List.getElem?_eq_getElem (by rw [lineN_length]; exact hc), lineN_get]
 rfl
def badF (p q : List Int) (j : Nat) : Bool := decide (p.getD j 0 > q.getD j 0) || (decide (j + 1 < p.length) && decide (p.getD j 0 < q.getD j 0))
def badPQ (p q : List Int) : Bool := decide (p.length > q.length) || (List.range p.length).any (badF p q)
def prunedS (B : List (List Int)) (ns : List Nat) : Bool := (List.range B.length).any (fun c => badPQ (clueL (colN ns c)) (B.getD c []))
def PrefOK (p q : List Int) : Prop := p.length ≤ q.length ∧ ∀ j, j < p.length → p.getD j 0 ≤ q.getD j 0 ∧ (j + 1 < p.length → p.getD j 0 = q.getD j 0)
theorem PrefOK.cons {p q : List Int} (x : Int) (h : PrefOK p q) : PrefOK (x :: p) (x :: q) := by
 refine ⟨by simpa using h.1, fun j hj => ?_⟩
 cases j with
 | zero => simp
 | succ j =>
  have := h.2 j (by simpa using hj)
  refine ⟨by simpa using this.1, fun h2 => ?_⟩
  have := this.2 (by simpa using h2)
  simpa using this
theorem clueR_head : ∀ (l : List Bool) (r : Int), 0 < r → ∃ x xs, clueR r l = x :: xs ∧ r ≤ x := by
 intro l
 induction l with
 | nil => intro r hr; exact ⟨r, [], by simp [clueR, hr], Int.le_refl _⟩
 | cons b l ih =>
  intro r hr
  cases b with
  | true =>
   obtain ⟨x, xs, e, h⟩ := ih (r + 1) (by omega)
   exact ⟨x, xs, by simp [clueR]; exact e, by omega⟩
  | false => exact ⟨r, clueR 0 l, by simp [clueR, hr], Int.le_refl _⟩
theorem clueR_pref : ∀ (l t : List Bool) (r : Int), 0 ≤ r → PrefOK (clueR r l) (clueR r (l ++ t)) := by
 intro l
 induction l with
 | nil =>
  intro t r hr
  by_cases c : 0 < r
  ·obtain ⟨x, xs, e, h⟩ := clueR_head t r c
   rw [List.nil_append, e]
   have e1 : clueR r [] = [r] := by simp [clueR, c]
   rw [e1]
   refine ⟨by simp, fun j hj => ?_⟩
   have : j = 0 := by simp at hj; omega
   subst this
   exact ⟨by simpa using h, fun h2 => by simp at h2⟩
  ·have e1 : clueR r [] = [] := by simp [clueR, c]
   rw [e1]
   exact ⟨by simp, fun j hj => by simp at hj⟩
 | cons b l ih =>
  intro t r hr
  cases b with
  | true =>
   have := ih t (r + 1) (by omega)
   simpa [clueR] using this
  | false =>
   have := ih t 0 (by omega)
   by_cases c : 0 < r
   ·have h2 := this.cons r
    simpa [clueR, c] using h2
   ·simpa [clueR, c] using this
theorem pref_ok {p q : List Int} (h : PrefOK p q) : badPQ p q = false := by
 rw [Bool.eq_false_iff]
 intro hb
 unfold badPQ at hb
 rw [Bool.or_eq_true, decide_eq_true_eq, List.any_eq_true] at hb
 rcases hb with hb | ⟨j, hj, hb⟩
 ·have := h.1; omega
 ·rw [List.mem_range] at hj
  have h2 := h.2 j hj
  unfold badF at hb
  rw [Bool.or_eq_true, Bool.and_eq_true, decide_eq_true_eq, decide_eq_true_eq, decide_eq_true_eq] at hb
  rcases hb with hb | ⟨hb1, hb2⟩
  ·omega
  ·have := h2.2 hb1; omega
theorem colN_app (ns t : List Nat) (c : Nat) : colN (ns ++ t) c = colN ns c ++ colN t c := by simp [colN]
theorem prunedS_no (B : List (List Int)) (ns t : List Nat) (h8 : (ns ++ t).length ≤ 8) (h : prunedS B ns = true) : okG B (ns ++ t) = false := by
 rw [Bool.eq_false_iff]
 intro ho
 simp only [prunedS, List.any_eq_true, List.mem_range] at h
 simp only [okG, List.all_eq_true, List.mem_range, decide_eq_true_eq] at ho
 obtain ⟨c, hc, hb⟩ := h
 have h1 := ho c hc
 have l1 : (colN (ns ++ t) c).length ≤ 8 := by rw [colN_length]; exact h8
 have l2 : (colN ns c).length ≤ 8 := by rw [colN_length]; rw [List.length_append] at h8; omega
 have hp := pref_ok (clueR_pref (colN ns c) (colN t c) 0 (by omega))
 rw [← colN_app] at hp
 unfold clueL at h1 hb
 rw [if_pos l1] at h1
 rw [if_pos l2, ← h1, hp] at hb
 cases hb
def solsS (A B : List (List Int)) : Nat → List Nat → List (List Nat)
 | 0, ns => if okG B ns = true then [ns] else []
 | d + 1, ns => if prunedS B ns = true then [] else (rowsP A B.length ns.length).flatMap (fun m => solsS A B d (ns ++ [m]))
theorem solsS_filter (A B : List (List Int)) (hA : A.length ≤ 8) : ∀ (d : Nat) (ns : List Nat), ns.length + d = A.length → solsS A B d ns = (allP A B.length d ns).filter (okG B) := by
 intro d
 induction d with
 | zero =>
  intro ns h
  simp only [solsS, allP]
  cases hh : okG B ns <;> simp [hh]
 | succ d ih =>
  intro ns h
  simp only [solsS]
  by_cases c : prunedS B ns = true
  ·rw [if_pos c]
   symm
   rw [List.filter_eq_nil_iff]
   intro g hg
   obtain ⟨t, e, ht⟩ := allP_ext A B.length (d + 1) ns g hg
   rw [e, prunedS_no B ns t (by rw [List.length_append]; omega) c]
   simp
  ·rw [if_neg c]
   simp only [allP]
   rw [List.filter_flatMap]
   congr 1
   funext m
   exact ih (ns ++ [m]) (by simp; omega)
theorem rd_getD (xs : List Int) (i : Nat) (h : i < xs.length) : rd xs (i : Int) = xs.getD i 0 := by
 rw [rd_nat xs i h, List.getD_eq_getElem?_getD, List.getElem?_eq_getElem h]; rfl
theorem rdL_getD (B : List (List Int)) (i : Nat) (h : i < B.length) : rd_L1 B (i : Int) = B.getD i [] := by
 rw [rdL_nat B i h, List.getD_eq_getElem?_getD, List.getElem?_eq_getElem h]; rfl
theorem spec_l2_ev (p q : List Int) (hl : p.length ≤ q.length) (hp : p.length ≤ 1000) : ∀ (d j : Nat), p.length = j + d → Ev (fun k => spec_l13Search.l2 k p q j) ((List.range' j d).any (badF p q)) := by
 intro d
 induction d with
 | zero => intro j hj; exact Ev.step (fun k => by rw [spec_l13Search.l2]) (Ev.ifn (by omega) (Ev.eq (Ev.now _) (by simp)))
 | succ d ih =>
  intro j hj
  have hw : wrap64 ((j : Int) + 1) = ((j + 1 : Nat) : Int) := by rw [w64 (by omega) (by omega)]; omega
  have hw2 : wrap64 ((p.length : Int) - 1) = (p.length : Int) - 1 := w64 (by omega) (by omega)
  refine Ev.step (fun k => by rw [spec_l13Search.l2, hw, hw2, rd_getD p j (by omega), rd_getD q j (by omega)]) ?_
  refine Ev.ifp (by omega) (Ev.ifp (by omega) (Ev.ifp (by omega) ?_))
  rw [List.range'_succ, List.any_cons]
  by_cases c1 : p.getD j 0 > q.getD j 0
  ·refine Ev.ifp c1 (Ev.eq (Ev.now _) ?_)
   have : badF p q j = true := by unfold badF; rw [decide_eq_true c1]; rfl
   rw [this]; rfl
  ·refine Ev.ifn c1 ?_
   by_cases c2 : j + 1 < p.length
   ·refine Ev.ifp (by omega) ?_
    by_cases c3 : p.getD j 0 < q.getD j 0
    ·refine Ev.ifp c3 (Ev.eq (Ev.now _) ?_)
     have : badF p q j = true := by unfold badF; rw [decide_eq_true c2, decide_eq_true c3]; simp
     rw [this]; rfl
    ·refine Ev.ifn c3 (Ev.eq (ih (j + 1) (by omega)) ?_)
     have : badF p q j = false := by unfold badF; rw [decide_eq_false c1, decide_eq_false c3]; simp
     rw [this, Bool.false_or]
   ·refine Ev.ifn (by omega) (Ev.eq (ih (j + 1) (by omega)) ?_)
    have : badF p q j = false := by unfold badF; rw [decide_eq_false c1, decide_eq_false c2]; simp
    rw [this, Bool.false_or]
theorem spec_l1_ev {A B : List (List Int)} (hP : PicOK A B) (ns : List Nat) (hn : ns.length ≤ A.length) : ∀ (d i : Nat), B.length = i + d →
  Ev (fun k => spec_l13Search.l1 k B (LB B.length ns) i) ((List.range' i d).any (fun c => badPQ (clueL (colN ns c)) (B.getD c []))) := by
 have a5 := hP.a5
 have b5 := hP.b5
 intro d
 induction d with
 | zero => intro i hi; exact Ev.step (fun k => by rw [spec_l13Search.l1]) (Ev.ifn (by omega) (Ev.eq (Ev.now _) (by simp)))
 | succ d ih =>
  intro i hi
  have hw : wrap64 ((i : Int) + 1) = ((i + 1 : Nat) : Int) := by rw [w64 (by omega) (by omega)]; omega
  have hb : i < B.length := by omega
  have hcol := columnB_ev (LB B.length ns) (by rw [LB_length]; omega) i (fun x hx => by rw [LB_row _ _ x hx]; exact hb)
  rw [LB_col _ _ _ hb] at hcol
  have hcl := spec_clueof (colN ns i) (by rw [colN_length]; omega)
  have hlen := clueL_len (colN ns i)
  refine Ev.step (fun k => by rw [spec_l13Search.l1, hw, rdL_getD B i hb]) ?_
  refine Ev.ifp (by omega) (Ev.ifp (by omega) (Ev.bind hcol (Ev.bind hcl ?_)))
  rw [List.range'_succ, List.any_cons]
  by_cases c1 : ((clueL (colN ns i)).length : Int) > ((B.getD i []).length : Int)
  ·refine Ev.ifp c1 (Ev.eq (Ev.now _) ?_)
   have : badPQ (clueL (colN ns i)) (B.getD i []) = true := by unfold badPQ; rw [decide_eq_true (by omega)]; rfl
   rw [this]; rfl
  ·refine Ev.ifn c1 ?_
   have h2 := spec_l2_ev (clueL (colN ns i)) (B.getD i []) (by omega) (by omega) (clueL (colN ns i)).length 0 (by omega)
   rw [← List.range_eq_range'] at h2
   replace h2 : Ev (fun k => spec_l13Search.l2 k (clueL (colN ns i)) (B.getD i []) 0) ((List.range (clueL (colN ns i)).length).any (badF (clueL (colN ns i)) (B.getD i []))) := h2
   refine Ev.bind h2 ?_
   have e : badPQ (clueL (colN ns i)) (B.getD i []) = (List.range (clueL (colN ns i)).length).any (badF (clueL (colN ns i)) (B.getD i [])) := by
    unfold badPQ; rw [decide_eq_false (by omega), Bool.false_or]
   rw [e]
   cases (List.range (clueL (colN ns i)).length).any (badF (clueL (colN ns i)) (B.getD i [])) with
   | true => exact Ev.ifp rfl (Ev.now _)
   | false => exact Ev.ifn (by simp) (Ev.eq (ih (i + 1) (by omega)) (by simp))
theorem spec_l0_ev {A B : List (List Int)} (hP : PicOK A B) (ns : List Nat) (hn : ns.length ≤ A.length) : ∀ (d i : Nat), B.length = i + d →
  Ev (fun k => spec_l13Search.l0 k B (LB B.length ns) i) (!(List.range' i d).all (fun c => decide (clueL (colN ns c) = B.getD c []))) := by
 have a5 := hP.a5
 have b5 := hP.b5
 intro d
 induction d with
 | zero => intro i hi; exact Ev.step (fun k => by rw [spec_l13Search.l0]) (Ev.ifn (by omega) (Ev.eq (Ev.now _) (by simp)))
 | succ d ih =>
  intro i hi
  have hw : wrap64 ((i : Int) + 1) = ((i + 1 : Nat) : Int) := by rw [w64 (by omega) (by omega)]; omega
  have hb : i < B.length := by omega
  have hcol := columnB_ev (LB B.length ns) (by rw [LB_length]; omega) i (fun x hx => by rw [LB_row _ _ x hx]; exact hb)
  rw [LB_col _ _ _ hb] at hcol
  refine Ev.step (fun k => by rw [spec_l13Search.l0, hw, rdL_getD B i hb]) ?_
  refine Ev.ifp (by omega) (Ev.ifp (by omega) (Ev.bind hcol (Ev.bind (l12Same_ev (colN ns i) (B.getD i []) (by rw [colN_length]; omega)) ?_)))
  rw [List.range'_succ, List.all_cons]
  cases hh : decide (clueL (colN ns i) = B.getD i []) with
  | true => exact Ev.ifp rfl (Ev.eq (ih (i + 1) (by omega)) (by simp))
  | false => exact Ev.ifn (by simp) (Ev.eq (Ev.now _) (by simp))
theorem LB_snoc (C : Nat) (ns : List Nat) (m : Nat) : LB C ns ++ [lineN m C] = LB C (ns ++ [m]) := by simp [LB]
theorem LBs_snoc (C : Nat) (z : List (List Nat)) (ns : List Nat) : LBs C z ++ [LB C ns] = LBs C (z ++ [ns]) := by simp [LBs]
theorem rowsP_eq (A : List (List Int)) (C r : Nat) : rowsP A C r = (List.range' 0 (2 ^ C)).filter (fun m => decide (clueL (lineN m C) = A.getD r [])) := by
 unfold rowsP LF LFr
 rw [List.length_replicate]
 congr 1
 funext m
 unfold isLine
 rw [fit_free, List.length_replicate, Bool.true_and]
theorem lt62 {i n : Nat} (h : i < n) (hn : n ≤ 256) : i < 4611686018427387904 := Nat.lt_of_lt_of_le h (Nat.le_trans hn (by decide))
theorem int_of_lt {a b : Nat} (h : a < b) : (a : Int) < (b : Int) := Int.ofNat_lt.2 h
theorem spec_search_p {A B : List (List Int)} (hP : PicOK A B) (most : Nat) (hm : most ≤ 1000) : ∀ (d : Nat) (ns : List Nat) (out : List (List Nat)), ns.length + d = A.length → out.length < most →
  Ev (fun k => spec_l13Search.f k A B most (LB B.length ns) (LBs B.length out)) (LBs B.length ((out ++ solsS A B d ns).take most)) := by
 have a5 := hP.a5
 have b5 := hP.b5
 intro d
 induction d with
 | zero =>
  intro ns out hd ho
  have h0 := spec_l0_ev hP ns (by omega) B.length 0 (by omega)
  rw [← List.range_eq_range'] at h0
  replace h0 : Ev (fun k => spec_l13Search.l0 k B (LB B.length ns) 0) (!okG B ns) := h0
  refine Ev.step (fun k => by rw [spec_l13Search.f]) ?_
  refine Ev.ifp (by rw [LB_length]; omega) (Ev.bind h0 ?_)
  simp only [solsS]
  cases hh : okG B ns with
  | true =>
   refine Ev.ifn (by simp) (Ev.bind (ownrows_ev (LB B.length ns) (by rw [LB_length]; omega) (fun x hx => by rw [LB_row _ _ x hx]; omega)) ?_)
   refine Ev.ifp (by rw [LBs_length]; omega) (Ev.eq (Ev.now _) ?_)
   rw [LBs_snoc, if_pos rfl, List.take_of_length_le (by simp; omega)]
  | false => exact Ev.ifp rfl (Ev.eq (Ev.now _) (by rw [if_neg (by simp), List.append_nil, List.take_of_length_le (by omega)]))
 | succ d ih =>
  intro ns out hd ho
  have h0 := spec_l1_ev hP ns (by omega) B.length 0 (by omega)
  rw [← List.range_eq_range'] at h0
  replace h0 : Ev (fun k => spec_l13Search.l1 k B (LB B.length ns) 0) (prunedS B ns) := h0
  have hlt : ns.length < A.length := by omega
  refine Ev.step (fun k => by rw [spec_l13Search.f]) ?_
  refine Ev.ifn (by rw [LB_length]; omega) (Ev.bind h0 ?_)
  simp only [solsS]
  cases hh : prunedS B ns with
  | true => exact Ev.ifp rfl (Ev.eq (Ev.now _) (by rw [if_pos rfl, List.append_nil, List.take_of_length_le (by omega)]))
  | false =>
   rw [if_neg (by simp)]
   refine Ev.ifn (by simp) ?_
   have hp := pow_le B.length (by omega)
   have hsh := shl_n B.length (by omega)
   have loop : ∀ (e i : Nat) (z : List (List Nat)), 2 ^ B.length = i + e → z.length ≤ most →
     Ev (fun k => spec_l13Search.l3 k A B most (LB B.length ns) (LBs B.length z) i) (LBs B.length ((z ++ ((List.range' i e).filter (fun m => decide (clueL (lineN m B.length) = A.getD ns.length []))).flatMap (fun m => solsS A B d (ns ++ [m]))).take most)) := by
    intro e
    induction e with
    | zero =>
     intro i z hi hz
     refine Ev.step (fun k => by rw [spec_l13Search.l3, hsh]) ?_
     refine Ev.ifn (by omega) (Ev.eq (Ev.now _) ?_)
     simp only [List.range'_zero, List.filter_nil, List.flatMap_nil]
     rw [List.append_nil, List.take_of_length_le hz]
    | succ e ihe =>
     intro i z hi hz
     have hw : wrap64 ((i : Int) + 1) = ((i + 1 : Nat) : Int) := by rw [w64 (by omega) (by omega)]; omega
     have hi2 : i < 2 ^ B.length := by omega
     have hi62 := lt62 hi2 hp.2
     have hB60 : B.length ≤ 60 := by omega
     have eA : rd_L1 A (((LB B.length ns).length : Nat) : Int) = A.getD ns.length [] := by rw [LB_length]; exact rdL_getD A _ hlt
     refine Ev.step (fun k => by rw [spec_l13Search.l3, hsh, hw, eA]) ?_
     refine Ev.ifp (by omega) ?_
     by_cases c2 : z.length < most
     ·refine Ev.ifp (by rw [LBs_length]; omega) (Ev.bind (spec_line_ev i B.length hi62 hB60) (Ev.ifp (by rw [LB_length]; omega) (Ev.bind (l12Same_ev (lineN i B.length) (A.getD ns.length []) (by rw [lineN_length]; omega)) ?_)))
      rw [List.range'_succ, List.filter_cons]
      cases hc : decide (clueL (lineN i B.length) = A.getD ns.length []) with
      | true =>
       refine Ev.ifp rfl (Ev.ifp (by rw [LB_length]; omega) ?_)
       rw [LB_snoc, if_pos rfl, List.flatMap_cons]
       refine Ev.bind (ih (ns ++ [i]) z (by rw [List.length_append, List.length_singleton]; omega) c2) ?_
       refine Ev.eq (ihe (i + 1) _ (by omega) (by rw [List.length_take]; omega)) ?_
       rw [take_app, List.append_assoc]
      | false =>
       rw [if_neg (by simp)]
       exact Ev.ifn (by simp) (ihe (i + 1) z (by omega) hz)
     ·refine Ev.ifn (by rw [LBs_length]; omega) (Ev.eq (Ev.now _) ?_)
      rw [take_full most z _ (by omega)]
   have h3 := loop (2 ^ B.length) 0 out (by omega) (by omega)
   rw [← rowsP_eq] at h3
   exact h3
theorem spec_all_p {A B : List (List Int)} (hP : PicOK A B) (most : Nat) (h1 : 1 ≤ most) (hm : most ≤ 1000) : Ev (fun k => spec_l13All.f k A B most) (LBs B.length ((solG A B).take most)) := by
 have a5 := hP.a5
 unfold spec_l13All.f
 have h := spec_search_p hP most hm A.length [] [] (by simp) (by simp; omega)
 rw [List.nil_append, solsS_filter A B (by omega) A.length [] (by simp)] at h
 exact h
theorem allP_rows (A : List (List Int)) (C : Nat) : ∀ (d : Nat) (ns g : List Nat), g ∈ allP A C d ns → ∃ t, g = ns ++ t ∧ t.length = d ∧ ∀ j (h : j < t.length), t[j] ∈ rowsP A C (ns.length + j) := by
 intro d
 induction d with
 | zero => intro ns g h; simp [allP] at h; exact ⟨[], by simp [h], rfl, fun j h => by simp at h⟩
 | succ d ih =>
  intro ns g h
  simp only [allP, List.mem_flatMap] at h
  obtain ⟨m, hm, hg⟩ := h
  obtain ⟨t, ht, hl, hr⟩ := ih _ _ hg
  refine ⟨m :: t, by rw [ht]; simp, by simp [hl], fun j hj => ?_⟩
  cases j with
  | zero => simpa using hm
  | succ j =>
   have := hr j (by simpa using hj)
   rw [List.length_append, List.length_singleton, Nat.add_assoc, Nat.add_comm 1 j] at this
   simpa using this
/-- Rows of bools in a list that are a picture's. -/
theorem impl_first_l (A B : List (List Int)) (g : List Nat) (hg : ∀ m ∈ g, m < 4611686018427387904) (hB : B.length ≤ 60) (hgl : g.length ≤ 1000) : ∀ (d i : Nat) (out : List (List Bool)), g.length = i + d → out = LB B.length (g.take i) →
  Ev (fun k => impl_PictureFirst.l0 k out (I1 g) g.length i A B) (LB B.length g, true) := by
 intro d
 induction d with
 | zero =>
  intro i out hi ho
  refine Ev.step (fun k => by rw [impl_PictureFirst.l0]) ?_
  refine Ev.ifn (by omega) (Ev.eq (Ev.now _) ?_)
  rw [ho, List.take_of_length_le (by omega)]
 | succ d ih =>
  intro i out hi ho
  have hw : wrap64 ((i : Int) + 1) = ((i + 1 : Nat) : Int) := by rw [w64 (by omega) (by omega)]; omega
  have hlt : i < g.length := by omega
  have hol : out.length ≤ 1000 := by rw [ho, LB_length, List.length_take]; omega
  have q1 : (i : Int) < ((I1 g).length : Int) := by rw [I1_length]; exact int_of_lt hlt
  refine Ev.step (fun k => by rw [impl_PictureFirst.l0, hw, rd_I1 g i hlt]) ?_
  refine Ev.ifp (int_of_lt hlt) (Ev.ifp (nat_nn i) (Ev.ifp q1 (Ev.bind (impl_lineOf_ev g[i] B.length (hg _ (List.getElem_mem hlt)) hB) (Ev.ifp (Nat.lt_of_le_of_lt hol (by decide)) ?_))))
  refine ih (i + 1) _ (by omega) ?_
  rw [ho, List.take_succ_eq_append_getElem hlt, LB_snoc]
theorem sol_lt {A B : List (List Int)} (hB : B.length ≤ 8) {g : List Nat} (h : g ∈ solG A B) : (∀ m ∈ g, m < 4611686018427387904) ∧ g.length = A.length := by
 unfold solG at h
 have hp := (List.mem_filter.1 h).1
 obtain ⟨t, e, hl, hr⟩ := allP_rows A B.length A.length [] g hp
 rw [List.nil_append] at e
 subst e
 refine ⟨fun m hm => ?_, hl⟩
 obtain ⟨j, hj, rfl⟩ := List.getElem_of_mem hm
 exact rowsP_lt A B.length _ _ hB (hr j hj)
def firstV (A B : List (List Int)) : List (List Bool) × Bool := if picV A B = true then (match solG A B with | [] => ([], false) | g :: _ => (LB B.length g, true)) else ([], false)
theorem impl_first_ev {A B : List (List Int)} (al : ∀ x ∈ A, x.length ≤ 1048576) (all : A.length ≤ 1048576) (bl : ∀ x ∈ B, x.length ≤ 1048576) (bll : B.length ≤ 1048576) : Ev (fun k => impl_PictureFirst.f k A B) (firstV A B) := by
 unfold impl_PictureFirst.f firstV
 refine Ev.bind (impl_pic A B al all bl bll) ?_
 by_cases c : picV A B = true
 ·rw [if_pos c]
  have hP := PicOK.of c al bl
  have a5 := hP.a5
  have b5 := hP.b5
  have h := first_ev hP 1 (by omega) (by omega)
  refine Ev.ifp c (Ev.bind h ?_)
  match hs : solG A B with
  | [] => exact Ev.ifp (by simp [I2]) (Ev.now _)
  | g :: gs =>
   have hg := sol_lt (A := A) (B := B) (by omega) (g := g) (by rw [hs]; simp)
   have e : I2 ((g :: gs).take 1) = [I1 g] := by simp [I2]
   rw [e]
   refine Ev.ifn (by simp) (Ev.ifp (by simp) ?_)
   have e2 : rd_L1 [I1 g] 0 = I1 g := rdL_nat [I1 g] 0 (by simp)
   rw [e2, I1_length]
   exact impl_first_l A B g hg.1 (by omega) (by omega) g.length 0 [] (by omega) (by simp [LB])
 ·rw [if_neg c]
  exact Ev.ifn c (Ev.now _)
theorem ownint_l (l : List (List Int)) (hl : l.length ≤ 1048576) (hx : ∀ x ∈ l, x.length ≤ 1048576) : ∀ (d i : Nat), l.length = i + d → Ev (fun k => spec_l1OwnRowsInt.l0 k l (l.take i) i) l := by
 intro d
 induction d with
 | zero =>
  intro i hi
  rw [List.take_of_length_le (by omega)]
  exact Ev.step (fun k => by rw [spec_l1OwnRowsInt.l0]) (Ev.ifn (by omega) (Ev.now _))
 | succ d ih =>
  intro i hi
  have hw : wrap64 ((i : Int) + 1) = ((i + 1 : Nat) : Int) := by rw [w64 (by omega) (by omega)]; omega
  have hlt : i < l.length := by omega
  have h1 := hx _ (List.getElem_mem hlt)
  have h := ih (i + 1) (by omega)
  rw [List.take_succ_eq_append_getElem hlt] at h
  refine Ev.step (fun k => by rw [spec_l1OwnRowsInt.l0]) ?_
  rw [rdL_nat l i hlt, hw]
  refine Ev.ifp (by omega) ?_
  refine Ev.bindc rfl ?_
  refine Ev.ifp (by omega) (Ev.ifp (by simp only [List.length_nil]; omega) (Ev.ifp (by rw [List.length_take]; omega) ?_))
  rw [List.nil_append]
  exact h
theorem ownint_ev (l : List (List Int)) (hl : l.length ≤ 1048576) (hx : ∀ x ∈ l, x.length ≤ 1048576) : Ev (fun k => spec_l1OwnRowsInt.f k l) l := by
 unfold spec_l1OwnRowsInt.f
 exact ownint_l l hl hx l.length 0 (by omega)
theorem spec_first_ev {A B : List (List Int)} (al : ∀ x ∈ A, x.length ≤ 1048576) (all : A.length ≤ 1048576) (bl : ∀ x ∈ B, x.length ≤ 1048576) (bll : B.length ≤ 1048576) : Ev (fun k => spec_PictureFirst.f k A B) (firstV A B) := by
 have ho : Ev (fun k => spec_l1OwnPicture.f k A B) (A, B) := by
  unfold spec_l1OwnPicture.f
  exact Ev.bind (ownint_ev A all al) (Ev.bind (ownint_ev B bll bl) (Ev.now _))
 unfold spec_PictureFirst.f firstV
 refine Ev.bind ho (Ev.bind (spec_pic A B al (by omega) bl (by omega)) ?_)
 by_cases c : picV A B = true
 ·rw [if_pos c]
  have hP := PicOK.of c al bl
  have h := spec_all_p hP 1 (by omega) (by omega)
  refine Ev.ifp c (Ev.bind h ?_)
  match hs : solG A B with
  | [] => exact Ev.ifp (by simp [LBs]) (Ev.now _)
  | g :: gs =>
   have e : LBs B.length ((g :: gs).take 1) = [LB B.length g] := by simp [LBs]
   rw [e]
   refine Ev.ifn (by simp) (Ev.ifp (by simp) (Ev.eq (Ev.now _) ?_))
   rfl
 ·rw [if_neg c]
  exact Ev.ifn c (Ev.now _)
/- A solution's rows are a picture of the puzzle. -/
/-- k, k + 1, .. -/
def upFrom (k : Int) : Nat → List Int
 | 0 => []
 | n + 1 => k :: upFrom (k + 1) n
theorem upFrom_length (n : Nat) : ∀ k, (upFrom k n).length = n := by
 induction n with
 | zero => intro k; rfl
 | succ n ih => intro k; simp [upFrom, ih]
theorem markIntS_l (n : Nat) : ∀ (d : Nat) (xs : List Int) (q : Int) (i : Nat), xs.length = n → n = i + d → 0 ≤ q → q + d ≤ 9223372036854775806 → n ≤ 140737488351232 →
  Ev (fun k => laws_markIntS.l0 k xs q i) (q + d, xs.take i ++ upFrom q d) := by
 intro d
 induction d with
 | zero =>
  intro xs q i hx hi h0 h1 hn
  refine Ev.step (f := fun _ => some (q, xs)) (fun k => ?_) ((Ev.now _).eq ?_)
  ·rw [laws_markIntS.l0]; rw [if_neg (by omega)]
  ·simp [upFrom]; exact (List.take_of_length_le (by omega)).symm
 | succ d ih =>
  intro xs q i hx hi h0 h1 hn
  have hw : wrap64 ((i : Int) + 1) = ((i + 1 : Nat) : Int) := by rw [w64 (by omega) (by omega)]; omega
  have hq : wrap64 (q + 1) = q + 1 := w64 (by omega) (by omega)
  refine Ev.step (f := fun k => laws_markIntS.l0 k (xs.set i q) (q + 1) ((i + 1 : Nat) : Int)) (fun k => ?_) ((ih (xs.set i q) (q + 1) (i + 1) (by simp [hx]) (by omega) (by omega) (by omega) hn).eq ?_)
  ·rw [laws_markIntS.l0]; rw [if_pos (by omega), if_pos (by omega), hw, hq]; simp
  ·refine Prod.ext (by simp; omega) ?_
   simp only [upFrom]
   rw [List.take_add_one, List.take_set_of_le (Nat.le_refl i)]
   simp [show i < xs.length by omega]
theorem markIntS_ev (xs : List Int) (q : Int) (h0 : 0 ≤ q) (h1 : q ≤ 1000000000) (hn : xs.length ≤ 140737488351232) :
  Ev (fun k => laws_markIntS.f k xs q) (q + xs.length, upFrom q xs.length) := by
 unfold laws_markIntS.f
 exact (markIntS_l xs.length xs.length xs q 0 rfl (by omega) h0 (by omega) hn).eq (by simp)
/-! Marked rows of rows. -/
def totM : List (List Int) → Nat
 | [] => 0
 | x :: l => x.length + totM l
def mkRows (q : Int) : List (List Int) → List (List Int)
 | [] => []
 | r :: rs => upFrom q r.length :: mkRows (q + r.length) rs
theorem totM_drop (l : List (List Int)) (i : Nat) (h : i < l.length) : totM (l.drop i) = l[i].length + totM (l.drop (i + 1)) := by
 rw [List.drop_eq_getElem_cons h]; rfl
theorem markIntSS_l (n : Nat) : ∀ (d : Nat) (l : List (List Int)) (q : Int) (i : Nat), l.length = n → n = i + d → n ≤ 1048576 → (∀ r ∈ l, r.length ≤ 1048576) → 0 ≤ q → q + totM (l.drop i) ≤ 900000000 →
  Ev (fun k => laws_markIntSS.l0 k l q i) (q + totM (l.drop i), l.take i ++ mkRows q (l.drop i)) := by
 intro d
 induction d with
 | zero =>
  intro l q i hl hi hn hr h0 h1
  refine Ev.step (f := fun _ => some (q, l)) (fun k => by rw [laws_markIntSS.l0]; rw [if_neg (by omega)]) ((Ev.now _).eq ?_)
  rw [List.drop_eq_nil_of_le (by omega)]; simp [totM, mkRows]; exact (List.take_of_length_le (by omega)).symm
 | succ d ih =>
  intro l q i hl hi hn hr h0 h1
  have hlt : i < l.length := by omega
  have hw : wrap64 ((i : Int) + 1) = ((i + 1 : Nat) : Int) := by rw [w64 (by omega) (by omega)]; omega
  have ht := totM_drop l i hlt
  have hri := hr _ (List.getElem_mem hlt)
  have hg : l.getD ((i : Int)).toNat [] = l[i] := by simp [List.getD_eq_getElem?_getD, hlt]
  have m := markIntS_ev l[i] q h0 (by omega) (by omega)
  have hd : (l.set i (upFrom q l[i].length)).drop (i + 1) = l.drop (i + 1) := List.drop_set_of_lt (by omega)
  have nx := ih (l.set i (upFrom q l[i].length)) (q + l[i].length) (i + 1) (by simp [hl]) (by omega) hn (by
   intro r hr2
   rcases List.mem_or_eq_of_mem_set hr2 with h | h
   ·exact hr r h
   ·rw [h, upFrom_length]; exact hri) (by omega) (by rw [hd]; omega)
  rw [hd] at nx
  refine Ev.step (fun k => by rw [laws_markIntSS.l0, if_pos (by omega), if_pos (by omega), hg, hw, Int.toNat_natCast]) (Ev.bind m (nx.eq ?_))
  refine Prod.ext (by simp only; omega) ?_
  simp only
  rw [List.drop_eq_getElem_cons hlt, List.take_add_one, List.take_set_of_le (Nat.le_refl i)]
  simp [hlt, mkRows]
theorem markIntSS_ev (l : List (List Int)) (q : Int) (hn : l.length ≤ 1048576) (hr : ∀ r ∈ l, r.length ≤ 1048576) (h0 : 0 ≤ q) (h1 : q + totM l ≤ 900000000) :
  Ev (fun k => laws_markIntSS.f k l q) (q + totM l, mkRows q l) := by
 unfold laws_markIntSS.f
 have := markIntSS_l l.length l.length l q 0 rfl (by omega) hn hr h0 (by simpa using h1)
 simpa using this
theorem eqBoolS_l (a : List Bool) (hl : a.length ≤ 140737488351232) : ∀ (d i : Nat), a.length = i + d → Ev (fun k => laws_eqBoolS.l0 k a a i) true := by
 intro d
 induction d with
 | zero =>
  intro i hi
  exact Ev.step (fun k => by rw [laws_eqBoolS.l0]) (Ev.ifn (by omega) (Ev.now _))
 | succ d ih =>
  intro i hi
  have hw : wrap64 ((i : Int) + 1) = ((i + 1 : Nat) : Int) := by rw [w64 (by omega) (by omega)]; omega
  refine Ev.step (fun k => by rw [laws_eqBoolS.l0]) (Ev.ifp (by omega) (Ev.ifp (by omega) (Ev.ifp (by omega) (Ev.ifn (by simp) ?_))))
  rw [hw]; exact ih (i + 1) (by omega)
theorem eqBoolS_self (a : List Bool) (hl : a.length ≤ 140737488351232) : Ev (fun k => laws_eqBoolS.f k a a) true := by
 unfold laws_eqBoolS.f
 exact Ev.ifp rfl (eqBoolS_l a hl a.length 0 (by omega))
/- k % 3 == 0, .. -/
def upB (k : Int) : Nat → List Bool
 | 0 => []
 | n + 1 => (Int.tmod k 3 == 0) :: upB (k + 1) n
theorem upB_length (n : Nat) : ∀ k, (upB k n).length = n := by
 induction n with
 | zero => intro k; rfl
 | succ n ih => intro k; simp [upB, ih]
theorem upB_get (n : Nat) : ∀ (k : Int) (i : Nat) (h : i < (upB k n).length), (upB k n)[i] = (Int.tmod (k + i) 3 == 0) := by
 induction n with
 | zero => intro k i h; simp [upB] at h
 | succ n ih =>
  intro k i h
  cases i with
  | zero => simp [upB]
  | succ i => simp only [upB, List.getElem_cons_succ]; rw [ih]; congr 2; omega
theorem markBools_l (n : Nat) : ∀ (d : Nat) (xs : List Bool) (q : Int) (i : Nat), xs.length = n → n = i + d → 0 ≤ q → q + d ≤ 9223372036854775806 → n ≤ 140737488351232 →
  Ev (fun k => laws_markBoolS.l0 k xs q i) (q + d, xs.take i ++ upB q d) := by
 intro d
 induction d with
 | zero =>
  intro xs q i hx hi h0 h1 hn
  refine Ev.step (f := fun _ => some (q, xs)) (fun k => ?_) ((Ev.now _).eq ?_)
  ·rw [laws_markBoolS.l0]; rw [if_neg (by omega)]
  ·simp [upB]; exact (List.take_of_length_le (by omega)).symm
 | succ d ih =>
  intro xs q i hx hi h0 h1 hn
  have hw : wrap64 ((i : Int) + 1) = ((i + 1 : Nat) : Int) := by rw [w64 (by omega) (by omega)]; omega
  have hq : wrap64 (q + 1) = q + 1 := w64 (by omega) (by omega)
  refine Ev.step (f := fun k => laws_markBoolS.l0 k (xs.set i (Int.tmod q 3 == 0)) (q + 1) ((i + 1 : Nat) : Int)) (fun k => ?_) ((ih (xs.set i (Int.tmod q 3 == 0)) (q + 1) (i + 1) (by simp [hx]) (by omega) (by omega) (by omega) hn).eq ?_)
  ·rw [laws_markBoolS.l0]; rw [if_pos (by omega), if_pos (by omega), hw, hq]; simp
  ·refine Prod.ext (by simp; omega) ?_
   simp only [upB]
   rw [List.take_add_one, List.take_set_of_le (Nat.le_refl i)]
   simp [show i < xs.length by omega]
theorem markBools_ev (xs : List Bool) (q : Int) (h0 : 0 ≤ q) (h1 : q ≤ 1000000000) (hn : xs.length ≤ 140737488351232) :
  Ev (fun k => laws_markBoolS.f k xs q) (q + xs.length, upB q xs.length) := by
 unfold laws_markBoolS.f
 exact (markBools_l xs.length xs.length xs q 0 rfl (by omega) h0 (by omega) hn).eq (by simp)
theorem heldBoolS_l (q0 : Int) (h0 : 0 ≤ q0) (h1 : q0 ≤ 1000000000) (n : Nat) (hn : n ≤ 140737488351232) : ∀ (d i : Nat), n = i + d →
  Ev (fun k => laws_heldBoolS.l0 k (upB q0 n) (q0 + i) i) (q0 + n) := by
 intro d
 induction d with
 | zero =>
  intro i hi
  refine Ev.step (f := fun _ => some (q0 + i)) (fun k => ?_) ((Ev.now _).eq (by omega))
  rw [laws_heldBoolS.l0]; rw [upB_length, if_neg (by omega)]
 | succ d ih =>
  intro i hi
  have hw : wrap64 ((i : Int) + 1) = ((i + 1 : Nat) : Int) := by rw [w64 (by omega) (by omega)]; omega
  have hq : wrap64 (q0 + i + 1) = q0 + ((i + 1 : Nat) : Int) := by rw [w64 (by omega) (by omega)]; omega
  refine Ev.step (f := fun k => laws_heldBoolS.l0 k (upB q0 n) (q0 + ((i + 1 : Nat) : Int)) ((i + 1 : Nat) : Int)) (fun k => ?_) (ih (i + 1) (by omega))
  have hlt : i < (upB q0 n).length := by rw [upB_length]; omega
  have hg : rdOf false (upB q0 n) (i : Int) = (Int.tmod (q0 + i) 3 == 0) := by
   unfold rdOf
   rw [Int.toNat_natCast, List.getD_eq_getElem?_getD, List.getElem?_eq_getElem hlt, Option.getD_some, upB_get]
  rw [laws_heldBoolS.l0]
  rw [upB_length, if_pos (by omega), if_pos (by omega), hg, if_neg (by simp), hw, hq]
theorem heldBoolS_ev (q : Int) (h0 : 0 ≤ q) (h1 : q ≤ 1000000000) (n : Nat) (hn : n ≤ 140737488351232) :
  Ev (fun k => laws_heldBoolS.f k (upB q n) q) (q + n) := by
 unfold laws_heldBoolS.f
 have h := heldBoolS_l q h0 h1 n hn n 0 (by omega)
 simpa using h
/-! Marked rows of bools. -/
def totB : List (List Bool) → Nat
 | [] => 0
 | x :: l => x.length + totB l
def mkRowB (q : Int) : List (List Bool) → List (List Bool)
 | [] => []
 | r :: rs => upB q r.length :: mkRowB (q + r.length) rs
theorem mkRowB_length (l : List (List Bool)) : ∀ q, (mkRowB q l).length = l.length := by
 induction l with
 | nil => intro q; rfl
 | cons r l ih => intro q; simp [mkRowB, ih]
theorem totB_drop (l : List (List Bool)) (i : Nat) (h : i < l.length) : totB (l.drop i) = l[i].length + totB (l.drop (i + 1)) := by
 rw [List.drop_eq_getElem_cons h]; rfl
theorem markBoolSS_l (n : Nat) : ∀ (d : Nat) (l : List (List Bool)) (q : Int) (i : Nat), l.length = n → n = i + d → n ≤ 1000 → (∀ r ∈ l, r.length ≤ 1000000) → 0 ≤ q → q + totB (l.drop i) ≤ 900000000 →
  Ev (fun k => laws_markBoolSS.l0 k l q i) (q + totB (l.drop i), l.take i ++ mkRowB q (l.drop i)) := by
 intro d
 induction d with
 | zero =>
  intro l q i hl hi hn hr h0 h1
  refine Ev.step (f := fun _ => some (q, l)) (fun k => by rw [laws_markBoolSS.l0]; rw [if_neg (by omega)]) ((Ev.now _).eq ?_)
  rw [List.drop_eq_nil_of_le (by omega)]; simp [totB, mkRowB]; exact (List.take_of_length_le (by omega)).symm
 | succ d ih =>
  intro l q i hl hi hn hr h0 h1
  have hlt : i < l.length := by omega
  have hw : wrap64 ((i : Int) + 1) = ((i + 1 : Nat) : Int) := by rw [w64 (by omega) (by omega)]; omega
  have ht := totB_drop l i hlt
  have hri := hr _ (List.getElem_mem hlt)
  have hg : l.getD ((i : Int)).toNat [] = l[i] := by simp [List.getD_eq_getElem?_getD, hlt]
  have m := markBools_ev l[i] q h0 (by omega) (by omega)
  have hd : (l.set i (upB q l[i].length)).drop (i + 1) = l.drop (i + 1) := List.drop_set_of_lt (by omega)
  have nx := ih (l.set i (upB q l[i].length)) (q + l[i].length) (i + 1) (by simp [hl]) (by omega) hn (by
   intro r hr2
   rcases List.mem_or_eq_of_mem_set hr2 with h | h
   ·exact hr r h
   ·rw [h, upB_length]; exact hri) (by omega) (by rw [hd]; omega)
  rw [hd] at nx
  refine Ev.step (fun k => by rw [laws_markBoolSS.l0, if_pos (by omega), if_pos (by omega), hg, hw, Int.toNat_natCast]) (Ev.bind m (nx.eq ?_))
  refine Prod.ext (by simp only; omega) ?_
  simp only
  rw [List.drop_eq_getElem_cons hlt, List.take_add_one, List.take_set_of_le (Nat.le_refl i)]
  simp [hlt, mkRowB]
theorem markBoolSS_ev (l : List (List Bool)) (q : Int) (hn : l.length ≤ 1000) (hr : ∀ r ∈ l, r.length ≤ 1000000) (h0 : 0 ≤ q) (h1 : q + totB l ≤ 900000000) :
  Ev (fun k => laws_markBoolSS.f k l q) (q + totB l, mkRowB q l) := by
 unfold laws_markBoolSS.f
 have := markBoolSS_l l.length l.length l q 0 rfl (by omega) hn hr h0 (by simpa using h1)
 simpa using this
theorem mkRowB_get (l : List (List Bool)) : ∀ (q : Int) (i : Nat), i < l.length → rd_L3 (mkRowB q l) (i : Int) = upB (q + totB (l.take i)) (l.getD i []).length := by
 induction l with
 | nil => intro q i h; simp at h
 | cons r l ih =>
  intro q i h
  cases i with
  | zero => simp [mkRowB, rd_L3, totB]
  | succ i =>
   have := ih (q + r.length) i (by simpa using h)
   simp only [mkRowB, rd_L3, Int.toNat_natCast, List.getD_cons_succ, List.take_succ_cons, totB] at this ⊢
   rw [this]; congr 1; omega
theorem totB_take (l : List (List Bool)) (i : Nat) (h : i < l.length) : totB (l.take (i + 1)) = totB (l.take i) + (l.getD i []).length := by
 induction l generalizing i with
 | nil => simp at h
 | cons r l ih =>
  cases i with
  | zero => simp [totB]
  | succ i =>
   have := ih i (by simpa using h)
   simp only [List.take_succ_cons, totB, List.getD_cons_succ] at this ⊢
   omega
theorem totB_take_le (l : List (List Bool)) (i : Nat) : totB (l.take i) ≤ totB l := by
 induction l generalizing i with
 | nil => simp
 | cons r l ih =>
  cases i with
  | zero => simp [totB]
  | succ i => have := ih i; simp only [List.take_succ_cons, totB]; omega
theorem heldBoolSS_l (l : List (List Bool)) (q : Int) (hn : l.length ≤ 1000) (hr : ∀ r ∈ l, r.length ≤ 1000000) (h0 : 0 ≤ q) (h1 : q + totB l ≤ 900000000) : ∀ (d i : Nat), l.length = i + d →
  Ev (fun k => laws_heldBoolSS.l0 k (mkRowB q l) (q + totB (l.take i)) i) (q + totB l) := by
 intro d
 induction d with
 | zero =>
  intro i hi
  refine Ev.step (f := fun _ => some (q + totB (l.take i))) (fun k => by rw [laws_heldBoolSS.l0]; rw [if_neg (by rw [mkRowB_length]; omega)]) ((Ev.now _).eq ?_)
  rw [List.take_of_length_le (by omega)]
 | succ d ih =>
  intro i hi
  have hlt : i < l.length := by omega
  have hw : wrap64 ((i : Int) + 1) = ((i + 1 : Nat) : Int) := by rw [w64 (by omega) (by omega)]; omega
  have hle := totB_take_le l i
  have hle2 := totB_take_le l (i + 1)
  have ht := totB_take l i hlt
  have hri : (l.getD i []).length ≤ 1000000 := by
   rw [List.getD_eq_getElem?_getD, List.getElem?_eq_getElem hlt]; exact hr _ (List.getElem_mem hlt)
  have hh := heldBoolS_ev (q + totB (l.take i)) (by omega) (by omega) (l.getD i []).length (by omega)
  have nx := ih (i + 1) (by omega)
  refine Ev.step (fun k => by rw [laws_heldBoolSS.l0, if_pos (by rw [mkRowB_length]; omega), if_pos (by omega), mkRowB_get l q i hlt, hw]) (Ev.bind hh (Ev.ifn (show ¬ (q + (totB (l.take i) : Int) + ((l.getD i []).length : Int) < 0) by omega) ?_))
  rw [ht] at nx
  have e : q + (totB (l.take i) : Int) + ((l.getD i []).length : Int) = q + ((totB (l.take i) + (l.getD i []).length : Nat) : Int) := by omega
  rw [e]; exact nx
theorem heldBoolSS_ev (l : List (List Bool)) (q : Int) (hn : l.length ≤ 1000) (hr : ∀ r ∈ l, r.length ≤ 1000000) (h0 : 0 ≤ q) (h1 : q + totB l ≤ 900000000) :
  Ev (fun k => laws_heldBoolSS.f k (mkRowB q l) q) (q + totB l) := by
 unfold laws_heldBoolSS.f
 have := heldBoolSS_l l q hn hr h0 h1 l.length 0 (by omega)
 simpa [totB] using this
theorem eqBoolSS_self_l (a : List (List Bool)) (hr : ∀ x ∈ a, x.length ≤ 140737488351232) (hl : a.length ≤ 140737488351232) : ∀ (d i : Nat), a.length = i + d → Ev (fun k => laws_eqBoolSS.l0 k a a i) true := by
 intro d
 induction d with
 | zero =>
  intro i hi
  exact Ev.step (fun k => by rw [laws_eqBoolSS.l0]) (Ev.ifn (by omega) (Ev.now _))
 | succ d ih =>
  intro i hi
  have hlt : i < a.length := by omega
  have hw : wrap64 ((i : Int) + 1) = ((i + 1 : Nat) : Int) := by rw [w64 (by omega) (by omega)]; omega
  refine Ev.step (fun k => by rw [laws_eqBoolSS.l0]) ?_
  rw [rdB_nat a i hlt, hw]
  exact Ev.ifp (by omega) (Ev.ifp (by omega) (Ev.ifp (by omega) (Ev.bind (eqBoolS_self a[i] (hr _ (List.getElem_mem hlt))) (Ev.ifp rfl (ih (i + 1) (by omega))))))
theorem eqBoolSS_self (a : List (List Bool)) (hr : ∀ x ∈ a, x.length ≤ 140737488351232) (hl : a.length ≤ 140737488351232) : Ev (fun k => laws_eqBoolSS.f k a a) true := by
 unfold laws_eqBoolSS.f
 exact Ev.ifp rfl (eqBoolSS_self_l a hr hl a.length 0 (by omega))
theorem tot_totM : ∀ (l : List (List Int)), tot l = totM l
 | [] => rfl
 | x :: l => by show x.length + tot l = x.length + totM l; rw [tot_totM l]
theorem firstV_small {A B : List (List Int)} (al : ∀ x ∈ A, x.length ≤ 1048576) (bl : ∀ x ∈ B, x.length ≤ 1048576) : (firstV A B).1.length ≤ 1000 ∧ (∀ r ∈ (firstV A B).1, r.length ≤ 1000) ∧ totB (firstV A B).1 ≤ 1000000 := by
 unfold firstV
 by_cases c : picV A B = true
 ·have hP := PicOK.of c al bl
  have a5 := hP.a5
  have b5 := hP.b5
  rw [if_pos c]
  match hs : solG A B with
  | [] => exact ⟨by simp, fun r hr => by simp at hr, by simp [totB]⟩
  | g :: gs =>
   have hg := sol_lt (A := A) (B := B) (by omega) (g := g) (by rw [hs]; simp)
   have hr : ∀ r ∈ LB B.length g, r.length ≤ 1000 := fun x hx => by rw [LB_row _ _ x hx]; omega
   have hl : (LB B.length g).length ≤ 1000 := by rw [LB_length]; omega
   refine ⟨hl, hr, ?_⟩
   have key : ∀ (l : List (List Bool)), (∀ r ∈ l, r.length ≤ 1000) → totB l ≤ l.length * 1000 := by
    intro l
    induction l with
    | nil => intro _; simp [totB]
    | cons x l ih =>
     intro h
     have h1 := h x (by simp)
     have h2 := ih (fun r hr => h r (by simp [hr]))
     simp only [totB, List.length_cons]
     omega
   have := key _ hr
   show totB (LB B.length g) ≤ 1000000
   omega
 ·rw [if_neg c]
  exact ⟨by simp, fun r hr => by simp at hr, by simp [totB]⟩
theorem FnExactPictureFirst (a b : List (List Int)) (ha : ∀ x ∈ a, x.length ≤ 9223372036854775807) (hal : a.length ≤ 9223372036854775807) (hb : ∀ x ∈ b, x.length ≤ 9223372036854775807) (hbl : b.length ≤ 9223372036854775807) : ∃ k, laws_FnExactPictureFirst.f k a b = some true := by
 apply Ev.rounds
 unfold laws_FnExactPictureFirst.f
 have hz : Ev (fun k => laws_szPicture.f k a b 1048576) (if (a.length : Int) + tot a + (b.length + tot b) ≤ 1048576 then 1048576 - a.length - tot a - b.length - tot b else -1) := by
  unfold laws_szPicture.f
  refine Ev.bind (szIntSS_ev a ha hal 1048576 (by omega) (by omega)) ?_
  by_cases c : (a.length : Int) + tot a ≤ 1048576
  ·rw [if_pos c]
   refine Ev.ifn (by omega) (Ev.bind (szIntSS_ev b hb hbl _ (by omega) (by omega)) ?_)
   by_cases c2 : (b.length : Int) + tot b ≤ 1048576 - a.length - tot a
   ·rw [if_pos c2]; exact Ev.ifn (by omega) (Ev.eq (Ev.now _) (by rw [if_pos (by omega)]))
   ·rw [if_neg c2]; exact Ev.ifp (by omega) (Ev.eq (Ev.now _) (by rw [if_neg (by omega)]))
  ·rw [if_neg c]; exact Ev.ifp (by omega) (Ev.eq (Ev.now _) (by rw [if_neg (by omega)]))
 refine Ev.bind hz ?_
 by_cases c : (a.length : Int) + tot a + (b.length + tot b) ≤ 1048576
 ·rw [if_pos c]
  refine Ev.ifn (by omega) ?_
  have ra : ∀ x ∈ a, x.length ≤ 1048576 := fun x hx => by have := tot_mem a x hx; omega
  have rb : ∀ x ∈ b, x.length ≤ 1048576 := fun x hx => by have := tot_mem b x hx; omega
  have ea := tot_totM a
  have eb := tot_totM b
  have hT : Ev (fun k => laws_toPicture.f k a b) (a, b) := by
   unfold laws_toPicture.f
   exact Ev.bind (toIntSS_ev a (fun x hx => by have := ra x hx; omega) (by omega)) (Ev.bind (toIntSS_ev b (fun x hx => by have := rb x hx; omega) (by omega)) (Ev.now _))
  have hE : Ev (fun k => laws_eqPicture.f k a b a b) true := by
   unfold laws_eqPicture.f
   exact Ev.bind (eqIntSS_self a (fun x hx => by have := ra x hx; omega) (by omega)) (Ev.ifp rfl (Ev.bind (eqIntSS_self b (fun x hx => by have := rb x hx; omega) (by omega)) (Ev.ifp rfl (Ev.now _))))
  obtain ⟨s1, s2, s3⟩ := firstV_small ra rb
  have hM : Ev (fun k => laws_markPicture.f k a b 1) (1 + (totM a : Int) + (totM b : Int)) := by
   unfold laws_markPicture.f
   exact Ev.bind (markIntSS_ev a 1 (by omega) ra (by omega) (by omega)) (Ev.bind (markIntSS_ev b _ (by omega) rb (by omega) (by simp only []; omega)) (Ev.now _))
  refine Ev.bind hT (Ev.bind (spec_first_ev (A := a) (B := b) ra (by omega) rb (by omega)) (Ev.bind (impl_first_ev (A := a) (B := b) ra (by omega) rb (by omega)) ?_))
  refine Ev.bind (eqBoolSS_self _ (fun x hx => by have := s2 x hx; omega) (by omega)) (Ev.ifp rfl (Ev.ifp rfl (Ev.bind hE (Ev.ifp rfl (Ev.bind hM (Ev.ifp (by omega) ?_))))))
  refine Ev.bind (markBoolSS_ev _ 1 (by omega) (fun r hr => by have := s2 r hr; omega) (by omega) (by omega)) (Ev.ifp (by simp only []; omega) ?_)
  exact Ev.bind (heldBoolSS_ev _ 1 (by omega) (fun r hr => by have := s2 r hr; omega) (by omega) (by omega)) (Ev.ifp rfl (Ev.now _))
 ·rw [if_neg c]; exact Ev.ifp (by omega) (Ev.now _)

end Go.Proofs.Ytapnohcfnclleaa.Pure
