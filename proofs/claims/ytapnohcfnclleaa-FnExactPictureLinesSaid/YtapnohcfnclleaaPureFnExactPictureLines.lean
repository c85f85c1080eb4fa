/- For every picture puzzle PictureLines of the program answers what PictureLines of the reference answers, in memory of its own, and leaves its argument as it was. No conditions beyond the types. -/
import Derived.Test.YtapnohcfnclleaaPFnExactPictureLinesx10
namespace Go.Proofs.Ytapnohcfnclleaa.Pure
open Go.RowKit Go.Proofs.Ytapnohcfnclleaa.PFnExactPictureLines Go.Proofs.YtapnohcfnclleaaW.PrintWords Go.Proofs.YtapnohcfnclleaaW.PrintLast Go.Proofs.YtapnohcfnclleaaW.PrintMore
set_option linter.unusedVariables false
set_option linter.unusedSimpArgs false
/-! Ev: small steps. -/
theorem _root_.Go.Proofs.YtapnohcfnclleaaW.PrintWords.Ev.ifp {α : Type} {c : Prop} [Decidable c] {g f : Nat → Option α} {r : α} (hc : c) (h : Ev g r) : Ev (fun k => if c then g k else f k) r :=
 Ev.congr (fun _ => if_pos hc) h
theorem _root_.Go.Proofs.YtapnohcfnclleaaW.PrintWords.Ev.ifn {α : Type} {c : Prop} [Decidable c] {g f : Nat → Option α} {r : α} (hc : ¬ c) (h : Ev f r) : Ev (fun k => if c then g k else f k) r :=
 Ev.congr (fun _ => if_neg hc) h
theorem _root_.Go.Proofs.YtapnohcfnclleaaW.PrintWords.Ev.bindc {α β : Type} {o : Option α} {f : Nat → α → Option β} {a : α} {r : β} (h : o = some a) (k : Ev (fun n => f n a) r) : Ev (fun n => o.bind (f n)) r := by
 subst h; exact k
theorem _root_.Go.Proofs.YtapnohcfnclleaaW.PrintWords.Ev.eq {α : Type} {g : Nat → Option α} {r r' : α} (h : Ev g r) (e : r = r') : Ev g r' := e ▸ h
theorem w64 {x : Int} (h0 : -9223372036854775808 ≤ x) (h1 : x ≤ 9223372036854775807) : wrap64 x = x := by unfold wrap64; omega
theorem rd_nat (xs : List Int) (i : Nat) (h : i < xs.length) : rd xs (i : Int) = xs[i] := by
 simp [rd, List.getD_eq_getElem?_getD, h]
theorem l1In_f (a b c : Int) : spec_l1In.f a b c = some (decide (b ≤ a ∧ a ≤ c)) := by
 unfold spec_l1In.f
 by_cases h : a ≥ b
 ·rw [if_pos h]; simp; omega
 ·rw [if_neg h]; simp; omega
/-- The cells that a clue takes, with one behind each number. -/
def csum : List Int → Int
 | [] => 0
 | n :: l => n + 1 + csum l
/-- What ClueValid answers. -/
def clueV (c : List Int) (n : Int) : Bool := decide (1 ≤ n ∧ n ≤ 8) && (c.all (fun x => decide (1 ≤ x)) && decide (csum c ≤ n + 1))
theorem csum_nn : ∀ c : List Int, c.all (fun x => decide (1 ≤ x)) = true → 2 * (c.length : Int) ≤ csum c := by
 intro c
 induction c with
 | nil => intro _; simp [csum]
 | cons x c ih =>
  intro h
  simp only [List.all_cons, Bool.and_eq_true, decide_eq_true_eq] at h
  have := ih h.2
  simp only [csum, List.length_cons]
  omega
theorem csum_le : ∀ c : List Int, c.all (fun x => decide (1 ≤ x)) = true → ∀ x ∈ c, x < csum c := by
 intro c
 induction c with
 | nil => intro _ x hx; simp at hx
 | cons y c ih =>
  intro h x hx
  simp only [List.all_cons, Bool.and_eq_true, decide_eq_true_eq] at h
  have hn := csum_nn c h.2
  simp only [csum]
  rcases List.mem_cons.1 hx with hx | hx
  ·omega
  ·have := ih h.2 x hx
   omega
theorem impl_clue_l (l : List Int) (hl : l.length ≤ 140737488351232) : ∀ (d i : Nat) (t : Int), l.length = i + d → 0 ≤ t → t ≤ 100 →
  Ev (fun k => impl_ClueValid.l0 k t l l.length i) ((l.drop i).all (fun x => decide (1 ≤ x)) && decide (csum (l.drop i) ≤ t)) := by
 intro d
 induction d with
 | zero =>
  intro i t hi h0 h1
  refine Ev.step (fun k => by rw [impl_ClueValid.l0]) (Ev.ifn (by omega) (Ev.eq (Ev.now _) ?_))
  rw [List.drop_eq_nil_of_le (by omega)]; simp [csum, h0]
 | succ d ih =>
  intro i t hi h0 h1
  have hlt : i < l.length := by omega
  have hw : wrap64 ((i : Int) + 1) = ((i + 1 : Nat) : Int) := by rw [w64 (by omega) (by omega)]; omega
  refine Ev.step (fun k => by rw [impl_ClueValid.l0]) ?_
  rw [rd_nat l i hlt, hw, List.drop_eq_getElem_cons hlt, List.all_cons]
  rw [show csum (l[i] :: l.drop (i + 1)) = l[i] + 1 + csum (l.drop (i + 1)) from rfl]
  refine Ev.ifp (by omega) (Ev.ifp (by omega) (Ev.ifp (by omega) ?_))
  by_cases c1 : l[i] < 1
  ·have h : ¬ 1 ≤ l[i] := by omega
   exact Ev.ifp c1 (Ev.eq (Ev.now _) (by simp [h]))
  refine Ev.ifn c1 ?_
  have g : 1 ≤ l[i] := by omega
  by_cases c2 : l[i] ≥ t
  ·refine Ev.ifp c2 (Ev.eq (Ev.now _) ?_)
   symm
   rw [Bool.and_eq_false_iff]
   cases ha : (l.drop (i + 1)).all (fun x => decide (1 ≤ x))
   ·left; simp
   ·right
    have := csum_nn _ ha
    simp; omega
  ·refine Ev.ifn c2 ?_
   rw [w64 (x := l[i] + 1) (by omega) (by omega), w64 (by omega) (by omega)]
   refine Ev.eq (ih (i + 1) (t - (l[i] + 1)) (by omega) (by omega) (by omega)) ?_
   simp only [g, decide_true, Bool.true_and]
   congr 1
   rw [decide_eq_decide]; omega
theorem impl_clue (l : List Int) (n : Int) (hl : l.length ≤ 140737488351232) : Ev (fun k => impl_ClueValid.f k l n) (clueV l n) := by
 have no : ∀ b : Bool, b = true → ¬ (1 ≤ n ∧ n ≤ 8) → Ev (fun k => impl_ClueValid.j0 k l n b) (clueV l n) := by
  intro b hb h
  refine Ev.step (fun k => by rw [impl_ClueValid.j0]) (Ev.ifp hb (Ev.eq (Ev.now _) ?_))
  unfold clueV
  rw [decide_eq_false h]; simp
 unfold impl_ClueValid.f
 by_cases c1 : n < 1
 ·exact Ev.ifp c1 (no _ rfl (by omega))
 refine Ev.ifn c1 ?_
 by_cases c2 : n > 8
 ·exact no _ (by simpa using c2) (by omega)
 refine Ev.step (fun k => by rw [impl_ClueValid.j0]) (Ev.ifn (by simpa using c2) ?_)
 rw [w64 (by omega) (by omega)]
 refine Ev.eq (impl_clue_l l hl l.length 0 (n + 1) (by omega) (by omega) (by omega)) ?_
 unfold clueV
 rw [decide_eq_true (show 1 ≤ n ∧ n ≤ 8 by omega)]; simp
def isum : List Int → Int
 | [] => 0
 | n :: l => n + isum l
theorem csum_isum : ∀ c : List Int, csum c = isum c + c.length := by
 intro c
 induction c with
 | nil => rfl
 | cons x c ih => simp only [csum, isum, List.length_cons]; omega
theorem spec_clue_l (l : List Int) (n : Int) (hl : l.length ≤ 1000000000) : ∀ (d i : Nat) (t : Int), l.length = i + d → -1 ≤ t → t ≤ 1000000000 + 8 * i →
  Ev (fun k => spec_ClueValid.l0 k l n t i) ((l.drop i).all (fun x => decide (1 ≤ x ∧ x ≤ 8)) && (decide (1 ≤ n ∧ n ≤ 8) && decide (t + isum (l.drop i) ≤ n))) := by
 intro d
 induction d with
 | zero =>
  intro i t hi h0 h1
  refine Ev.step (fun k => by rw [spec_ClueValid.l0]) (Ev.ifn (by omega) (Ev.bindc (l1In_f _ _ _) ?_))
  rw [List.drop_eq_nil_of_le (by omega)]
  rw [show isum [] = 0 from rfl, Int.add_zero]
  simp only [List.all_nil, Bool.true_and]
  by_cases c : 1 ≤ n ∧ n ≤ 8
  ·exact Ev.ifp (by simpa using c) (Ev.eq (Ev.now _) (by simp [c]))
  ·refine Ev.ifn (by simpa using c) (Ev.eq (Ev.now _) ?_)
   rw [decide_eq_false c]; simp
 | succ d ih =>
  intro i t hi h0 h1
  have hlt : i < l.length := by omega
  have hw : wrap64 ((i : Int) + 1) = ((i + 1 : Nat) : Int) := by rw [w64 (by omega) (by omega)]; omega
  refine Ev.step (fun k => by rw [spec_ClueValid.l0]) ?_
  rw [rd_nat l i hlt, hw, List.drop_eq_getElem_cons hlt, List.all_cons]
  rw [show isum (l[i] :: l.drop (i + 1)) = l[i] + isum (l.drop (i + 1)) from rfl]
  refine Ev.ifp (by omega) (Ev.ifp (by omega) (Ev.bindc (l1In_f _ _ _) ?_))
  by_cases c1 : 1 ≤ l[i] ∧ l[i] ≤ 8
  ·refine Ev.ifp (by simpa using c1) ?_
   rw [w64 (by omega) (by omega)]
   refine Ev.eq (ih (i + 1) (t + l[i]) (by omega) (by omega) (by omega)) ?_
   simp only [c1, and_self, decide_true, Bool.true_and]
   congr 2
   rw [decide_eq_decide]; omega
  ·refine Ev.ifn (by simpa using c1) (Ev.eq (Ev.now _) ?_)
   rw [decide_eq_false c1]; simp
theorem spec_clue (l : List Int) (n : Int) (hl : l.length ≤ 1000000000) : Ev (fun k => spec_ClueValid.f k l n) (clueV l n) := by
 unfold spec_ClueValid.f
 rw [w64 (by omega) (by omega)]
 refine Ev.eq (spec_clue_l l n hl l.length 0 ((l.length : Int) - 1) (by omega) (by omega) (by omega)) ?_
 unfold clueV
 rw [List.drop_zero]
 by_cases c : 1 ≤ n ∧ n ≤ 8
 ·simp only [c, and_self, decide_true, Bool.true_and]
  have e := csum_isum l
  rw [Bool.eq_iff_iff]
  simp only [Bool.and_eq_true, decide_eq_true_eq]
  constructor
  ·rintro ⟨h1, h2⟩
   refine ⟨?_, by omega⟩
   rw [List.all_eq_true] at h1 ⊢
   intro x hx
   have := h1 x hx
   simp only [decide_eq_true_eq] at this ⊢
   exact this.1
  ·rintro ⟨h1, h2⟩
   refine ⟨?_, by omega⟩
   have h3 := csum_le l h1
   rw [List.all_eq_true] at h1 ⊢
   intro x hx
   have a := h1 x hx
   have b := h3 x hx
   simp only [decide_eq_true_eq] at a ⊢
   omega
 ·rw [decide_eq_false c]; simp
theorem toIntS_l (xs : List Int) (hn : xs.length ≤ 35184372088832) : ∀ (d : Nat) (ys : List Int) (i : Nat), ys.length = xs.length → xs.length = i + d →
  Ev (fun k => laws_toIntS.l0 k xs ys i) (ys.take i ++ xs.drop i) := by
 intro d
 induction d with
 | zero =>
  intro ys i hy hi
  refine Ev.step (f := fun _ => some ys) (fun k => ?_) ((Ev.now _).eq ?_)
  ·rw [laws_toIntS.l0]; rw [if_neg (by omega)]
  ·rw [List.drop_eq_nil_of_le (by omega), List.take_of_length_le (by omega)]; simp
 | succ d ih =>
  intro ys i hy hi
  have hw : wrap64 ((i : Int) + 1) = ((i + 1 : Nat) : Int) := by rw [w64 (by omega) (by omega)]; omega
  have hlt : i < xs.length := by omega
  refine Ev.step (f := fun k => laws_toIntS.l0 k xs (ys.set i xs[i]) ((i + 1 : Nat) : Int)) (fun k => ?_) ((ih (ys.set i xs[i]) (i + 1) (by simp [hy]) (by omega)).eq ?_)
  ·rw [laws_toIntS.l0]; rw [if_pos (by omega), if_pos (by omega), if_pos (by omega), rd_nat xs i hlt, hw]; simp
  ·rw [List.take_add_one, List.take_set_of_le (Nat.le_refl i), List.drop_eq_getElem_cons hlt]
   simp [show i < ys.length by omega]
theorem toIntS_ev (xs : List Int) (hn : xs.length ≤ 35184372088832) : Ev (fun k => laws_toIntS.f k xs) xs := by
 unfold laws_toIntS.f
 refine Ev.ifp (by omega) (Ev.ifp (by omega) ?_)
 have h := toIntS_l xs hn xs.length (List.replicate xs.length 0) 0 (by simp) (by omega)
 simpa using h
theorem eqIntS_l (a b : List Int) (h : a.length = b.length) (hl : a.length ≤ 140737488351232) : ∀ (d i : Nat), a.length = i + d → Ev (fun k => laws_eqIntS.l0 k a b i) (decide (a.drop i = b.drop i)) := by
 intro d
 induction d with
 | zero =>
  intro i hi
  refine Ev.step (f := fun _ => some (decide (a.drop i = b.drop i))) (fun k => ?_) (Ev.now _)
  rw [laws_eqIntS.l0]; rw [if_neg (by omega), List.drop_eq_nil_of_le (by omega), List.drop_eq_nil_of_le (by omega)]; simp
 | succ d ih =>
  intro i hi
  have ha : i < a.length := by omega
  have hb : i < b.length := by omega
  have hw : wrap64 ((i : Int) + 1) = ((i + 1 : Nat) : Int) := by rw [w64 (by omega) (by omega)]; omega
  by_cases c : a[i] = b[i]
  ·refine Ev.step (f := fun k => laws_eqIntS.l0 k a b ((i + 1 : Nat) : Int)) (fun k => ?_) ((ih (i + 1) (by omega)).eq ?_)
   ·rw [laws_eqIntS.l0]; rw [if_pos (by omega), if_pos (by omega), if_pos (by omega), rd_nat a i ha, rd_nat b i hb, if_pos c, hw]
   ·rw [List.drop_eq_getElem_cons ha, List.drop_eq_getElem_cons hb, c]; simp only [List.cons.injEq, true_and]
  ·refine Ev.step (f := fun k => some false) (fun k => ?_) ((Ev.now _).eq ?_)
   ·rw [laws_eqIntS.l0]; rw [if_pos (by omega), if_pos (by omega), if_pos (by omega), rd_nat a i ha, rd_nat b i hb, if_neg c]
   ·rw [List.drop_eq_getElem_cons ha, List.drop_eq_getElem_cons hb]; simp only [List.cons.injEq, c, false_and, decide_false]
theorem eqIntS_ev (a b : List Int) (hl : a.length ≤ 140737488351232) : Ev (fun k => laws_eqIntS.f k a b) (decide (a = b)) := by
 unfold laws_eqIntS.f
 by_cases h : a.length = b.length
 ·exact Ev.ifp (by omega) ((eqIntS_l a b h hl a.length 0 (by omega)).eq (by simp))
 ·refine Ev.ifn (by omega) ((Ev.now false).eq ?_)
  symm; simp; intro e; exact h (by rw [e])
theorem eqIntS_self (a : List Int) (hl : a.length ≤ 140737488351232) : Ev (fun k => laws_eqIntS.f k a a) true := (eqIntS_ev a a hl).eq (by simp)
theorem rdL_nat (xs : List (List Int)) (i : Nat) (h : i < xs.length) : rd_L1 xs (i : Int) = xs[i] := by
 simp [rd_L1, List.getD_eq_getElem?_getD, h]
/-- All numbers of the rows. -/
def tot : List (List Int) → Nat
 | [] => 0
 | x :: l => x.length + tot l
theorem tot_mem : ∀ (l : List (List Int)), ∀ x ∈ l, x.length ≤ tot l := by
 intro l
 induction l with
 | nil => intro x hx; simp at hx
 | cons y l ih =>
  intro x hx
  simp only [tot]
  rcases List.mem_cons.1 hx with hx | hx
  ·subst hx; omega
  ·have := ih x hx; omega
theorem szIntS_f (l : List Int) (a : Int) (hl : l.length ≤ 9223372036854775807) (h0 : 0 ≤ a) (h1 : a ≤ 1048576) : laws_szIntS.f l a = some (if (l.length : Int) ≤ a then a - l.length else -1) := by
 unfold laws_szIntS.f
 rw [w64 (by omega) (by omega)]
 by_cases c : (l.length : Int) ≤ a
 ·rw [if_neg (by omega), if_pos c]
 ·rw [if_pos (by omega), if_neg c]
theorem szIntSS_l (l : List (List Int)) (hr : ∀ x ∈ l, x.length ≤ 9223372036854775807) (hl : l.length ≤ 1048576) : ∀ (d i : Nat) (a : Int), l.length = i + d → 0 ≤ a → a ≤ 1048576 →
  Ev (fun k => laws_szIntSS.l0 k l a i) (if (tot (l.drop i) : Int) ≤ a then a - tot (l.drop i) else -1) := by
 intro d
 induction d with
 | zero =>
  intro i a hi h0 h1
  refine Ev.step (fun k => by rw [laws_szIntSS.l0]) (Ev.ifn (by omega) (Ev.eq (Ev.now _) ?_))
  rw [List.drop_eq_nil_of_le (by omega)]; simp [tot, h0]
 | succ d ih =>
  intro i a hi h0 h1
  have hlt : i < l.length := by omega
  have hw : wrap64 ((i : Int) + 1) = ((i + 1 : Nat) : Int) := by rw [w64 (by omega) (by omega)]; omega
  refine Ev.step (fun k => by rw [laws_szIntSS.l0]) ?_
  rw [rdL_nat l i hlt, hw, List.drop_eq_getElem_cons hlt]
  refine Ev.ifp (by omega) (Ev.ifp (by omega) (Ev.bindc (szIntS_f _ a (hr _ (List.getElem_mem hlt)) h0 h1) ?_))
  rw [show tot (l[i] :: l.drop (i + 1)) = l[i].length + tot (l.drop (i + 1)) from rfl]
  by_cases c : (l[i].length : Int) ≤ a
  ·rw [if_pos c]
   refine Ev.ifn (by omega) (Ev.eq (ih (i + 1) _ (by omega) (by omega) (by omega)) ?_)
   by_cases c2 : (tot (l.drop (i + 1)) : Int) ≤ a - l[i].length
   ·rw [if_pos c2, if_pos (by omega)]; omega
   ·rw [if_neg c2, if_neg (by omega)]
  ·rw [if_neg c]
   refine Ev.ifp (by omega) (Ev.eq (Ev.now _) ?_)
   rw [if_neg (by omega)]
theorem szIntSS_ev (l : List (List Int)) (hr : ∀ x ∈ l, x.length ≤ 9223372036854775807) (hl : l.length ≤ 9223372036854775807) (a : Int) (h0 : 0 ≤ a) (h1 : a ≤ 1048576) :
  Ev (fun k => laws_szIntSS.f k l a) (if (l.length : Int) + tot l ≤ a then a - l.length - tot l else -1) := by
 unfold laws_szIntSS.f
 rw [w64 (by omega) (by omega)]
 by_cases c : a - (l.length : Int) < 0
 ·exact Ev.ifp c (Ev.eq (Ev.now _) (by rw [if_neg (by omega)]))
 refine Ev.ifn c (Ev.eq (szIntSS_l l hr (by omega) l.length 0 _ (by omega) (by omega) (by omega)) ?_)
 rw [List.drop_zero]
 by_cases c2 : (tot l : Int) ≤ a - l.length
 ·rw [if_pos c2, if_pos (by omega)]
 ·rw [if_neg c2, if_neg (by omega)]
theorem toIntSS_l (xs : List (List Int)) (hr : ∀ x ∈ xs, x.length ≤ 35184372088832) (hn : xs.length ≤ 11728124029610) : ∀ (d : Nat) (ys : List (List Int)) (i : Nat), ys.length = xs.length → xs.length = i + d →
  Ev (fun k => laws_toIntSS.l0 k xs ys i) (ys.take i ++ xs.drop i) := by
 intro d
 induction d with
 | zero =>
  intro ys i hy hi
  refine Ev.step (f := fun _ => some ys) (fun k => ?_) ((Ev.now _).eq ?_)
  ·rw [laws_toIntSS.l0]; rw [if_neg (by omega)]
  ·rw [List.drop_eq_nil_of_le (by omega), List.take_of_length_le (by omega)]; simp
 | succ d ih =>
  intro ys i hy hi
  have hw : wrap64 ((i : Int) + 1) = ((i + 1 : Nat) : Int) := by rw [w64 (by omega) (by omega)]; omega
  have hlt : i < xs.length := by omega
  refine Ev.step (fun k => by rw [laws_toIntSS.l0]) ?_
  rw [rdL_nat xs i hlt, hw]
  refine Ev.ifp (by omega) (Ev.ifp (by omega) (Ev.bind (toIntS_ev _ (hr _ (List.getElem_mem hlt))) (Ev.ifp (by omega) (Ev.eq (ih (ys.set i xs[i]) (i + 1) (by simp [hy]) (by omega)) ?_))))
  rw [List.take_add_one, List.take_set_of_le (Nat.le_refl i), List.drop_eq_getElem_cons hlt]
  simp [show i < ys.length by omega]
theorem toIntSS_ev (xs : List (List Int)) (hr : ∀ x ∈ xs, x.length ≤ 35184372088832) (hn : xs.length ≤ 11728124029610) : Ev (fun k => laws_toIntSS.f k xs) xs := by
 unfold laws_toIntSS.f
 refine Ev.ifp (by omega) (Ev.ifp (by omega) ?_)
 have h := toIntSS_l xs hr hn xs.length (List.replicate xs.length []) 0 (by simp) (by omega)
 simpa using h
theorem eqIntSS_self_l (a : List (List Int)) (hr : ∀ x ∈ a, x.length ≤ 140737488351232) (hl : a.length ≤ 140737488351232) : ∀ (d i : Nat), a.length = i + d → Ev (fun k => laws_eqIntSS.l0 k a a i) true := by
 intro d
 induction d with
 | zero => intro i hi; exact Ev.step (fun k => by rw [laws_eqIntSS.l0]) (Ev.ifn (by omega) (Ev.now _))
 | succ d ih =>
  intro i hi
  have hw : wrap64 ((i : Int) + 1) = ((i + 1 : Nat) : Int) := by rw [w64 (by omega) (by omega)]; omega
  have hlt : i < a.length := by omega
  refine Ev.step (fun k => by rw [laws_eqIntSS.l0]) ?_
  rw [rdL_nat a i hlt, hw]
  exact Ev.ifp (by omega) (Ev.ifp (by omega) (Ev.ifp (by omega) (Ev.bind (eqIntS_self _ (hr _ (List.getElem_mem hlt))) (Ev.ifp rfl (ih (i + 1) (by omega))))))
theorem eqIntSS_self (a : List (List Int)) (hr : ∀ x ∈ a, x.length ≤ 140737488351232) (hl : a.length ≤ 140737488351232) : Ev (fun k => laws_eqIntSS.f k a a) true := by
 unfold laws_eqIntSS.f
 exact Ev.ifp rfl (eqIntSS_self_l a hr hl a.length 0 (by omega))
/-- What PictureValid answers. -/
def picV (a b : List (List Int)) : Bool := (decide (1 ≤ a.length ∧ a.length ≤ 5) && decide (1 ≤ b.length ∧ b.length ≤ 5)) && (a.all (fun c => clueV c b.length) && b.all (fun c => clueV c a.length))
theorem impl_pic_l1 (a b : List (List Int)) (hb : ∀ x ∈ b, x.length ≤ 1048576) (hl : b.length ≤ 1048576) : ∀ (d i : Nat), b.length = i + d →
  Ev (fun k => impl_PictureValid.l1 k b b.length i a b) ((b.drop i).all (fun c => clueV c a.length)) := by
 intro d
 induction d with
 | zero =>
  intro i hi
  refine Ev.step (fun k => by rw [impl_PictureValid.l1]) (Ev.ifn (by omega) (Ev.eq (Ev.now _) ?_))
  rw [List.drop_eq_nil_of_le (by omega)]; simp
 | succ d ih =>
  intro i hi
  have hw : wrap64 ((i : Int) + 1) = ((i + 1 : Nat) : Int) := by rw [w64 (by omega) (by omega)]; omega
  have hlt : i < b.length := by omega
  refine Ev.step (fun k => by rw [impl_PictureValid.l1]) ?_
  rw [rdL_nat b i hlt, hw, List.drop_eq_getElem_cons hlt, List.all_cons]
  refine Ev.ifp (by omega) (Ev.ifp (by omega) (Ev.ifp (by omega) (Ev.bind (impl_clue _ _ (by have := hb _ (List.getElem_mem hlt); omega)) ?_)))
  cases hc : clueV b[i] a.length
  ·exact Ev.ifn (by simp) (Ev.eq (Ev.now _) (by simp))
  ·exact Ev.ifp rfl (Ev.eq (ih (i + 1) (by omega)) (by simp))
theorem impl_pic_l0 (a b : List (List Int)) (ha : ∀ x ∈ a, x.length ≤ 1048576) (hal : a.length ≤ 1048576) (hb : ∀ x ∈ b, x.length ≤ 1048576) (hl : b.length ≤ 1048576) : ∀ (d i : Nat), a.length = i + d →
  Ev (fun k => impl_PictureValid.l0 k a a.length i a b) ((a.drop i).all (fun c => clueV c b.length) && b.all (fun c => clueV c a.length)) := by
 intro d
 induction d with
 | zero =>
  intro i hi
  have h1 : Ev (fun k => impl_PictureValid.l1 k b b.length 0 a b) _ := impl_pic_l1 a b hb hl b.length 0 (by omega)
  refine Ev.step (fun k => by rw [impl_PictureValid.l0]) (Ev.ifn (by omega) (Ev.eq h1 ?_))
  rw [List.drop_eq_nil_of_le (show a.length ≤ i by omega)]; simp
 | succ d ih =>
  intro i hi
  have hw : wrap64 ((i : Int) + 1) = ((i + 1 : Nat) : Int) := by rw [w64 (by omega) (by omega)]; omega
  have hlt : i < a.length := by omega
  refine Ev.step (fun k => by rw [impl_PictureValid.l0]) ?_
  rw [rdL_nat a i hlt, hw, List.drop_eq_getElem_cons hlt, List.all_cons]
  refine Ev.ifp (by omega) (Ev.ifp (by omega) (Ev.ifp (by omega) (Ev.bind (impl_clue _ _ (by have := ha _ (List.getElem_mem hlt); omega)) ?_)))
  cases hc : clueV a[i] b.length
  ·exact Ev.ifn (by simp) (Ev.eq (Ev.now _) (by simp))
  ·exact Ev.ifp rfl (Ev.eq (ih (i + 1) (by omega)) (by simp))
theorem impl_pic_j (a b : List (List Int)) (ha : ∀ x ∈ a, x.length ≤ 1048576) (hal : a.length ≤ 1048576) (hb : ∀ x ∈ b, x.length ≤ 1048576) (hl : b.length ≤ 1048576) (x : Bool) :
  Ev (fun k => impl_PictureValid.j0 k x a b) (!x && (a.all (fun c => clueV c b.length) && b.all (fun c => clueV c a.length))) := by
 refine Ev.step (fun k => by rw [impl_PictureValid.j0]) ?_
 cases x
 ·exact Ev.ifn (by simp) (Ev.eq (impl_pic_l0 a b ha hal hb hl a.length 0 (by omega)) (by simp))
 ·exact Ev.ifp rfl (Ev.eq (Ev.now _) (by simp))
theorem impl_pic (a b : List (List Int)) (ha : ∀ x ∈ a, x.length ≤ 1048576) (hal : a.length ≤ 1048576) (hb : ∀ x ∈ b, x.length ≤ 1048576) (hl : b.length ≤ 1048576) : Ev (fun k => impl_PictureValid.f k a b) (picV a b) := by
 unfold impl_PictureValid.f picV
 have hj := impl_pic_j a b ha hal hb hl
 by_cases c1 : (a.length : Int) < 1
 ·refine Ev.ifp c1 (Ev.eq (hj true) ?_)
  have h : ¬ (1 ≤ a.length ∧ a.length ≤ 5) := by omega
  simp [h]
 refine Ev.ifn c1 ?_
 by_cases c2 : (a.length : Int) > 5
 ·refine Ev.ifp c2 (Ev.eq (hj true) ?_)
  have h : ¬ (1 ≤ a.length ∧ a.length ≤ 5) := by omega
  simp [h]
 refine Ev.ifn c2 ?_
 have h : (1 ≤ a.length ∧ a.length ≤ 5) := by omega
 by_cases c3 : (b.length : Int) < 1
 ·refine Ev.ifp c3 (Ev.eq (hj true) ?_)
  have h : ¬ (1 ≤ b.length ∧ b.length ≤ 5) := by omega
  simp [h]
 refine Ev.ifn c3 (Ev.eq (hj _) ?_)
 by_cases c4 : (b.length : Int) > 5
 ·have h5 : ¬ (1 ≤ b.length ∧ b.length ≤ 5) := by omega
  simp [h5, c4]
 ·have h5 : (1 ≤ b.length ∧ b.length ≤ 5) := by omega
  simp [h5, h, c4]
theorem spec_pic_l1 (a b : List (List Int)) (hb : ∀ x ∈ b, x.length ≤ 1048576) (hl : b.length ≤ 1048576) : ∀ (d i : Nat), b.length = i + d →
  Ev (fun k => spec_PictureValid.l1 k i a b) ((b.drop i).all (fun c => clueV c a.length) && (decide (1 ≤ a.length ∧ a.length ≤ 5) && decide (1 ≤ b.length ∧ b.length ≤ 5))) := by
 intro d
 induction d with
 | zero =>
  intro i hi
  refine Ev.step (fun k => by rw [spec_PictureValid.l1]) (Ev.ifn (by omega) (Ev.bindc (l1In_f _ _ _) ?_))
  rw [List.drop_eq_nil_of_le (by omega)]
  by_cases c : 1 ≤ (a.length : Int) ∧ (a.length : Int) ≤ 5
  ·refine Ev.ifp (by simpa using c) (Ev.bindc (l1In_f _ _ _) (Ev.eq (Ev.now _) ?_))
   have h : 1 ≤ a.length ∧ a.length ≤ 5 := by omega
   rw [show decide (1 ≤ (b.length : Int) ∧ (b.length : Int) ≤ 5) = decide (1 ≤ b.length ∧ b.length ≤ 5) from by rw [decide_eq_decide]; omega]
   simp [h]
  ·refine Ev.ifn (by simpa using c) (Ev.eq (Ev.now _) ?_)
   have h : ¬ (1 ≤ a.length ∧ a.length ≤ 5) := by omega
   simp [h]
 | succ d ih =>
  intro i hi
  have hw : wrap64 ((i : Int) + 1) = ((i + 1 : Nat) : Int) := by rw [w64 (by omega) (by omega)]; omega
  have hlt : i < b.length := by omega
  refine Ev.step (fun k => by rw [spec_PictureValid.l1]) ?_
  rw [rdL_nat b i hlt, hw, List.drop_eq_getElem_cons hlt, List.all_cons]
  refine Ev.ifp (by omega) (Ev.ifp (by omega) (Ev.bind (spec_clue _ _ (by have := hb _ (List.getElem_mem hlt); omega)) ?_))
  cases hc : clueV b[i] a.length
  ·exact Ev.ifn (by simp) (Ev.eq (Ev.now _) (by simp))
  ·exact Ev.ifp rfl (Ev.eq (ih (i + 1) (by omega)) (by simp))
theorem spec_pic_l0 (a b : List (List Int)) (ha : ∀ x ∈ a, x.length ≤ 1048576) (hal : a.length ≤ 1048576) (hb : ∀ x ∈ b, x.length ≤ 1048576) (hl : b.length ≤ 1048576) : ∀ (d i : Nat), a.length = i + d →
  Ev (fun k => spec_PictureValid.l0 k i a b) ((a.drop i).all (fun c => clueV c b.length) && (b.all (fun c => clueV c a.length) && (decide (1 ≤ a.length ∧ a.length ≤ 5) && decide (1 ≤ b.length ∧ b.length ≤ 5)))) := by
 intro d
 induction d with
 | zero =>
  intro i hi
  have h1 : Ev (fun k => spec_PictureValid.l1 k 0 a b) _ := spec_pic_l1 a b hb hl b.length 0 (by omega)
  refine Ev.step (fun k => by rw [spec_PictureValid.l0]) (Ev.ifn (by omega) (Ev.eq h1 ?_))
  rw [List.drop_eq_nil_of_le (show a.length ≤ i by omega)]; simp
 | succ d ih =>
  intro i hi
  have hw : wrap64 ((i : Int) + 1) = ((i + 1 : Nat) : Int) := by rw [w64 (by omega) (by omega)]; omega
  have hlt : i < a.length := by omega
  refine Ev.step (fun k => by rw [spec_PictureValid.l0]) ?_
  rw [rdL_nat a i hlt, hw, List.drop_eq_getElem_cons hlt, List.all_cons]
  refine Ev.ifp (by omega) (Ev.ifp (by omega) (Ev.bind (spec_clue _ _ (by have := ha _ (List.getElem_mem hlt); omega)) ?_))
  cases hc : clueV a[i] b.length
  ·exact Ev.ifn (by simp) (Ev.eq (Ev.now _) (by simp))
  ·exact Ev.ifp rfl (Ev.eq (ih (i + 1) (by omega)) (by simp))
theorem spec_pic (a b : List (List Int)) (ha : ∀ x ∈ a, x.length ≤ 1048576) (hal : a.length ≤ 1048576) (hb : ∀ x ∈ b, x.length ≤ 1048576) (hl : b.length ≤ 1048576) : Ev (fun k => spec_PictureValid.f k a b) (picV a b) := by
 unfold spec_PictureValid.f
 refine Ev.eq (spec_pic_l0 a b ha hal hb hl a.length 0 (by omega)) ?_
 rw [List.drop_zero]; unfold picV
 ac_rfl
/-- k, k + 1, .. -/
def upFrom (k : Int) : Nat → List Int
 | 0 => []
 | n + 1 => k :: upFrom (k + 1) n
theorem upFrom_length (n : Nat) : ∀ k, (upFrom k n).length = n := by
 induction n with
 | zero => intro k; rfl
 | succ n ih => intro k; simp [upFrom, ih]
theorem upFrom_get (n : Nat) : ∀ (k : Int) (i : Nat) (h : i < (upFrom k n).length), (upFrom k n)[i] = k + i := by
 induction n with
 | zero => intro k i h; simp [upFrom] at h
 | succ n ih =>
  intro k i h
  cases i with
  | zero => simp [upFrom]
  | succ i => simp only [upFrom, List.getElem_cons_succ]; rw [ih]; omega
theorem markIntS_l (n : Nat) : ∀ (d : Nat) (xs : List Int) (q : Int) (i : Nat), xs.length = n → n = i + d → 0 ≤ q → q + d ≤ 9223372036854775806 → n ≤ 140737488351232 →
  Ev (fun k => laws_markIntS.l0 k xs q i) (q + d, xs.take i ++ upFrom q d) := by
 intro d
 induction d with
 | zero =>
  intro xs q i hx hi h0 h1 hn
  refine Ev.step (f := fun _ => some (q, xs)) (fun k => ?_) ((Ev.now _).eq ?_)
  ·rw [laws_markIntS.l0]; rw [if_neg (by omega)]
  ·simp [upFrom]; exact (List.take_of_length_le (by omega)).symm
 | succ d ih =>
  intro xs q i hx hi h0 h1 hn
  have hw : wrap64 ((i : Int) + 1) = ((i + 1 : Nat) : Int) := by rw [w64 (by omega) (by omega)]; omega
  have hq : wrap64 (q + 1) = q + 1 := w64 (by omega) (by omega)
  refine Ev.step (f := fun k => laws_markIntS.l0 k (xs.set i q) (q + 1) ((i + 1 : Nat) : Int)) (fun k => ?_) ((ih (xs.set i q) (q + 1) (i + 1) (by simp [hx]) (by omega) (by omega) (by omega) hn).eq ?_)
  ·rw [laws_markIntS.l0]; rw [if_pos (by omega), if_pos (by omega), hw, hq]; simp
  ·refine Prod.ext (by simp; omega) ?_
   simp only [upFrom]
   rw [List.take_add_one, List.take_set_of_le (Nat.le_refl i)]
   simp [show i < xs.length by omega]
theorem markIntS_ev (xs : List Int) (q : Int) (h0 : 0 ≤ q) (h1 : q ≤ 1000000000) (hn : xs.length ≤ 140737488351232) :
  Ev (fun k => laws_markIntS.f k xs q) (q + xs.length, upFrom q xs.length) := by
 unfold laws_markIntS.f
 exact (markIntS_l xs.length xs.length xs q 0 rfl (by omega) h0 (by omega) hn).eq (by simp)
theorem heldIntS_l (q0 : Int) (h0 : 0 ≤ q0) (h1 : q0 ≤ 1000000000) (n : Nat) (hn : n ≤ 140737488351232) : ∀ (d i : Nat), n = i + d →
  Ev (fun k => laws_heldIntS.l0 k (upFrom q0 n) (q0 + i) i) (q0 + n) := by
 intro d
 induction d with
 | zero =>
  intro i hi
  refine Ev.step (f := fun _ => some (q0 + i)) (fun k => ?_) ((Ev.now _).eq (by omega))
  rw [laws_heldIntS.l0]; rw [upFrom_length, if_neg (by omega)]
 | succ d ih =>
  intro i hi
  have hw : wrap64 ((i : Int) + 1) = ((i + 1 : Nat) : Int) := by rw [w64 (by omega) (by omega)]; omega
  have hq : wrap64 (q0 + i + 1) = q0 + ((i + 1 : Nat) : Int) := by rw [w64 (by omega) (by omega)]; omega
  refine Ev.step (f := fun k => laws_heldIntS.l0 k (upFrom q0 n) (q0 + ((i + 1 : Nat) : Int)) ((i + 1 : Nat) : Int)) (fun k => ?_) (ih (i + 1) (by omega))
  rw [laws_heldIntS.l0]
  rw [upFrom_length, if_pos (by omega), if_pos (by omega), rd_nat _ i (by rw [upFrom_length]; omega), upFrom_get, if_pos rfl, hw, hq]
theorem heldIntS_ev (q : Int) (h0 : 0 ≤ q) (h1 : q ≤ 1000000000) (n : Nat) (hn : n ≤ 140737488351232) :
  Ev (fun k => laws_heldIntS.f k (upFrom q n) q) (q + n) := by
 unfold laws_heldIntS.f
 have h := heldIntS_l q h0 h1 n hn n 0 (by omega)
 simpa using h
/-! Marked rows of rows. -/
def totM : List (List Int) → Nat
 | [] => 0
 | x :: l => x.length + totM l
def mkRows (q : Int) : List (List Int) → List (List Int)
 | [] => []
 | r :: rs => upFrom q r.length :: mkRows (q + r.length) rs
theorem mkRows_length (l : List (List Int)) : ∀ q, (mkRows q l).length = l.length := by
 induction l with
 | nil => intro q; rfl
 | cons r l ih => intro q; simp [mkRows, ih]
theorem totM_drop (l : List (List Int)) (i : Nat) (h : i < l.length) : totM (l.drop i) = l[i].length + totM (l.drop (i + 1)) := by
 rw [List.drop_eq_getElem_cons h]; rfl
theorem markIntSS_l (n : Nat) : ∀ (d : Nat) (l : List (List Int)) (q : Int) (i : Nat), l.length = n → n = i + d → n ≤ 1048576 → (∀ r ∈ l, r.length ≤ 1048576) → 0 ≤ q → q + totM (l.drop i) ≤ 900000000 →
  Ev (fun k => laws_markIntSS.l0 k l q i) (q + totM (l.drop i), l.take i ++ mkRows q (l.drop i)) := by
 intro d
 induction d with
 | zero =>
  intro l q i hl hi hn hr h0 h1
  refine Ev.step (f := fun _ => some (q, l)) (fun k => by rw [laws_markIntSS.l0]; rw [if_neg (by omega)]) ((Ev.now _).eq ?_)
  rw [List.drop_eq_nil_of_le (by omega)]; simp [totM, mkRows]; exact (List.take_of_length_le (by omega)).symm
 | succ d ih =>
  intro l q i hl hi hn hr h0 h1
  have hlt : i < l.length := by omega
  have hw : wrap64 ((i : Int) + 1) = ((i + 1 : Nat) : Int) := by rw [w64 (by omega) (by omega)]; omega
  have ht := totM_drop l i hlt
  have hri := hr _ (List.getElem_mem hlt)
  have hg : l.getD ((i : Int)).toNat [] = l[i] := by simp [List.getD_eq_getElem?_getD, hlt]
  have m := markIntS_ev l[i] q h0 (by omega) (by omega)
  have hd : (l.set i (upFrom q l[i].length)).drop (i + 1) = l.drop (i + 1) := List.drop_set_of_lt (by omega)
  have nx := ih (l.set i (upFrom q l[i].length)) (q + l[i].length) (i + 1) (by simp [hl]) (by omega) hn (by
   intro r hr2
   rcases List.mem_or_eq_of_mem_set hr2 with h | h
   ·exact hr r h
   ·rw [h, upFrom_length]; exact hri) (by omega) (by rw [hd]; omega)
  rw [hd] at nx
  refine Ev.step (fun k => by rw [laws_markIntSS.l0, if_pos (by omega), if_pos (by omega), hg, hw, Int.toNat_natCast]) (Ev.bind m (nx.eq ?_))
  refine Prod.ext (by simp only; omega) ?_
  simp only
  rw [List.drop_eq_getElem_cons hlt, List.take_add_one, List.take_set_of_le (Nat.le_refl i)]
  simp [hlt, mkRows]
theorem markIntSS_ev (l : List (List Int)) (q : Int) (hn : l.length ≤ 1048576) (hr : ∀ r ∈ l, r.length ≤ 1048576) (h0 : 0 ≤ q) (h1 : q + totM l ≤ 900000000) :
  Ev (fun k => laws_markIntSS.f k l q) (q + totM l, mkRows q l) := by
 unfold laws_markIntSS.f
 have := markIntSS_l l.length l.length l q 0 rfl (by omega) hn hr h0 (by simpa using h1)
 simpa using this
theorem mkRows_get (l : List (List Int)) : ∀ (q : Int) (i : Nat), i < l.length → rd_L1 (mkRows q l) (i : Int) = upFrom (q + totM (l.take i)) (l.getD i []).length := by
 induction l with
 | nil => intro q i h; simp at h
 | cons r l ih =>
  intro q i h
  cases i with
  | zero => simp [mkRows, rd_L1, totM]
  | succ i =>
   have := ih (q + r.length) i (by simpa using h)
   simp only [mkRows, rd_L1, Int.toNat_natCast, List.getD_cons_succ, List.take_succ_cons, totM] at this ⊢
   rw [this]; congr 1; omega
theorem totM_take (l : List (List Int)) (i : Nat) (h : i < l.length) : totM (l.take (i + 1)) = totM (l.take i) + (l.getD i []).length := by
 induction l generalizing i with
 | nil => simp at h
 | cons r l ih =>
  cases i with
  | zero => simp [totM]
  | succ i =>
   have := ih i (by simpa using h)
   simp only [List.take_succ_cons, totM, List.getD_cons_succ] at this ⊢
   omega
theorem totM_take_le (l : List (List Int)) (i : Nat) : totM (l.take i) ≤ totM l := by
 induction l generalizing i with
 | nil => simp
 | cons r l ih =>
  cases i with
  | zero => simp [totM]
  | succ i => have := ih i; simp only [List.take_succ_cons, totM]; omega
theorem heldIntSS_l (l : List (List Int)) (q : Int) (hn : l.length ≤ 1048576) (hr : ∀ r ∈ l, r.length ≤ 1048576) (h0 : 0 ≤ q) (h1 : q + totM l ≤ 900000000) : ∀ (d i : Nat), l.length = i + d →
  Ev (fun k => laws_heldIntSS.l0 k (mkRows q l) (q + totM (l.take i)) i) (q + totM l) := by
 intro d
 induction d with
 | zero =>
  intro i hi
  refine Ev.step (f := fun _ => some (q + totM (l.take i))) (fun k => by rw [laws_heldIntSS.l0]; rw [if_neg (by rw [mkRows_length]; omega)]) ((Ev.now _).eq ?_)
  rw [List.take_of_length_le (by omega)]
 | succ d ih =>
  intro i hi
  have hlt : i < l.length := by omega
  have hw : wrap64 ((i : Int) + 1) = ((i + 1 : Nat) : Int) := by rw [w64 (by omega) (by omega)]; omega
  have hle := totM_take_le l i
  have hle2 := totM_take_le l (i + 1)
  have ht := totM_take l i hlt
  have hri : (l.getD i []).length ≤ 1048576 := by
   rw [List.getD_eq_getElem?_getD, List.getElem?_eq_getElem hlt]; exact hr _ (List.getElem_mem hlt)
  have hh := heldIntS_ev (q + totM (l.take i)) (by omega) (by omega) (l.getD i []).length (by omega)
  have nx := ih (i + 1) (by omega)
  refine Ev.step (fun k => by rw [laws_heldIntSS.l0, if_pos (by rw [mkRows_length]; omega), if_pos (by omega), mkRows_get l q i hlt, hw]) (Ev.bind hh (Ev.ifn (show ¬ (q + (totM (l.take i) : Int) + ((l.getD i []).length : Int) < 0) by omega) ?_))
  rw [ht] at nx
  have e : q + (totM (l.take i) : Int) + ((l.getD i []).length : Int) = q + ((totM (l.take i) + (l.getD i []).length : Nat) : Int) := by omega
  rw [e]; exact nx
theorem heldIntSS_ev (l : List (List Int)) (q : Int) (hn : l.length ≤ 1048576) (hr : ∀ r ∈ l, r.length ≤ 1048576) (h0 : 0 ≤ q) (h1 : q + totM l ≤ 900000000) :
  Ev (fun k => laws_heldIntSS.f k (mkRows q l) q) (q + totM l) := by
 unfold laws_heldIntSS.f
 have := heldIntSS_l l q hn hr h0 h1 l.length 0 (by omega)
 simpa [totM] using this
/-- What KnownValid answers. -/
def knownV (l : List Int) : Bool := l.all (fun x => decide (-1 ≤ x ∧ x ≤ 1)) && decide (1 ≤ (l.length : Int) ∧ (l.length : Int) ≤ 8)
theorem impl_known_l (l : List Int) (hl : l.length ≤ 140737488351232) : ∀ (d i : Nat), l.length = i + d →
  Ev (fun k => impl_KnownValid.l0 k l l l.length i) ((l.drop i).all (fun x => decide (-1 ≤ x ∧ x ≤ 1)) && decide (1 ≤ (l.length : Int) ∧ (l.length : Int) ≤ 8)) := by
 intro d
 induction d with
 | zero =>
  intro i hi
  refine Ev.step (fun k => by rw [impl_KnownValid.l0]) (Ev.ifn (by omega) ?_)
  rw [List.drop_eq_nil_of_le (by omega)]
  by_cases c : (l.length : Int) ≥ 1
  ·exact Ev.ifp c (Ev.eq (Ev.now _) (by simp; omega))
  ·exact Ev.ifn c (Ev.eq (Ev.now _) (by simp; omega))
 | succ d ih =>
  intro i hi
  have hlt : i < l.length := by omega
  have hw : wrap64 ((i : Int) + 1) = ((i + 1 : Nat) : Int) := by rw [w64 (by omega) (by omega)]; omega
  refine Ev.step (fun k => by rw [impl_KnownValid.l0]) ?_
  rw [rd_nat l i hlt, hw, List.drop_eq_getElem_cons hlt, List.all_cons]
  refine Ev.ifp (by omega) (Ev.ifp (by omega) (Ev.ifp (by omega) ?_))
  by_cases c1 : l[i] < -1
  ·exact Ev.ifp c1 (Ev.eq (Ev.now _) (by simp; omega))
  refine Ev.ifn c1 ?_
  by_cases c2 : l[i] > 1
  ·exact Ev.ifp c2 (Ev.eq (Ev.now _) (by simp; omega))
  ·have h : -1 ≤ l[i] ∧ l[i] ≤ 1 := by omega
   exact Ev.ifn c2 (Ev.eq (ih (i + 1) (by omega)) (by simp [h]))
theorem impl_known (l : List Int) (hl : l.length ≤ 140737488351232) : Ev (fun k => impl_KnownValid.f k l) (knownV l) := by
 unfold impl_KnownValid.f
 exact impl_known_l l hl l.length 0 (by omega)
/-! Binary digits. -/
def bit (m : Int) (d : Nat) : Int := m / 2 ^ d % 2
theorem shr_bit {m : Int} (h0 : 0 ≤ m) (d : Nat) (hd : d ≤ 64) : Int.tmod (shr .i64 m (d : Int)) 2 = bit m d := by
 have e : shr .i64 m (d : Int) = m / 2 ^ d := by
  unfold shr
  rw [show min (d : Int).toNat IntKind.i64.bits = d from by simp [IntKind.bits]; omega]
 rw [e, Int.tmod_eq_emod_of_nonneg (Int.ediv_nonneg h0 (Int.pow_nonneg (by decide)))]
 rfl
theorem shr_nat (m : Int) (d : Nat) (hd : d ≤ 64) : shr .i64 m (d : Int) = m / 2 ^ d := by
 unfold shr
 rw [show min (d : Int).toNat IntKind.i64.bits = d from by simp [IntKind.bits]; omega]
theorem and1_bit {x : Int} (h0 : 0 ≤ x) (h1 : x < 4611686018427387904) : Go.bits .and .i64 x 1 = x % 2 := by
 have := bits_mask .i64 62 (by decide) (fun n h h' => by rw [IntKind.wrap_i64]; omega) 1 (by decide) x h0 h1
 simpa using this
theorem bit_nat (a d : Nat) : bit (a : Int) d = if a.testBit d then 1 else 0 := by
 unfold bit
 rw [Nat.testBit_eq_decide_div_mod_eq]
 have e : ((a : Int) / 2 ^ d % 2) = ((a / 2 ^ d % 2 : Nat) : Int) := by push_cast; rfl
 rw [e]
 by_cases h : a / 2 ^ d % 2 = 1
 ·simp [h]
 ·have : a / 2 ^ d % 2 = 0 := by omega
  simp [this]
/-- The clue of a line, r cells being filled ahead of it. -/
def clueR : Int → List Bool → List Int
 | r, [] => if 0 < r then [r] else []
 | r, true :: l => clueR (r + 1) l
 | r, false :: l => if 0 < r then r :: clueR 0 l else clueR 0 l
/-- What ClueOf answers. -/
def clueL (l : List Bool) : List Int := if l.length ≤ 8 then clueR 0 l else []
theorem rdOf_nat (xs : List Bool) (i : Nat) (h : i < xs.length) : rdOf false xs (i : Int) = xs[i] := by
 simp [rdOf, List.getD_eq_getElem?_getD, h]
theorem clueR_f : ∀ (l : List Bool) (r : Int), clueR r (l ++ [false]) = clueR r l := by
 intro l
 induction l with
 | nil => intro r; simp [clueR]
 | cons b l ih =>
  intro r
  cases b
  ·simp only [List.cons_append, clueR, ih]
  ·simp only [List.cons_append, clueR, ih]
theorem clueR_ft : ∀ (l : List Bool) (r : Int), clueR r (l ++ [false] ++ [true]) = clueR r l ++ [1] := by
 intro l
 induction l with
 | nil =>
  intro r
  by_cases h : 0 < r <;> simp [clueR, h]
 | cons b l ih =>
  intro r
  cases b
  ·simp only [List.cons_append, clueR]
   rw [ih]
   by_cases h : 0 < r <;> simp [h]
  ·simp only [List.cons_append, clueR]
   exact ih _
theorem clueR_tt : ∀ (l : List Bool) (r : Int), 0 ≤ r → ∃ ys z, clueR r (l ++ [true]) = ys ++ [z] ∧ clueR r (l ++ [true] ++ [true]) = ys ++ [z + 1] := by
 intro l
 induction l with
 | nil =>
  intro r hr
  refine ⟨[], r + 1, ?_, ?_⟩
  ·simp [clueR]; omega
  ·simp [clueR]; omega
 | cons b l ih =>
  intro r hr
  cases b
  ·obtain ⟨ys, z, h1, h2⟩ := ih 0 (by omega)
   by_cases h : 0 < r
   ·refine ⟨r :: ys, z, ?_, ?_⟩
    ·simp only [List.cons_append, clueR, h, if_true, h1]
    ·simp only [List.cons_append, clueR, h, if_true]
     rw [h2]
   ·refine ⟨ys, z, ?_, ?_⟩
    ·simp only [List.cons_append, clueR, h, if_false, h1]
    ·simp only [List.cons_append, clueR, h, if_false]
     rw [h2]
  ·obtain ⟨ys, z, h1, h2⟩ := ih (r + 1) (by omega)
   exact ⟨ys, z, by simpa only [List.cons_append, clueR] using h1, by simpa only [List.cons_append, clueR] using h2⟩
theorem clueR_le : ∀ (l : List Bool) (r : Int), 0 ≤ r → ∀ x ∈ clueR r l, 1 ≤ x ∧ x ≤ r + l.length := by
 intro l
 induction l with
 | nil =>
  intro r hr x hx
  simp only [clueR] at hx
  split at hx
  ·simp at hx; simp; omega
  ·simp at hx
 | cons b l ih =>
  intro r hr x hx
  cases b
  ·simp only [clueR] at hx
   split at hx
   ·rcases List.mem_cons.1 hx with hx | hx
    ·simp; omega
    ·have := ih 0 (by omega) x hx; simp; omega
   ·have := ih 0 (by omega) x hx; simp; omega
  ·simp only [clueR] at hx
   have := ih (r + 1) (by omega) x hx; simp; omega
theorem clueR_len : ∀ (l : List Bool) (r : Int), (clueR r l).length ≤ l.length + 1 := by
 intro l
 induction l with
 | nil => intro r; simp only [clueR]; split <;> simp
 | cons b l ih =>
  intro r
  cases b
  ·simp only [clueR]
   have := ih 0
   split <;> (simp; omega)
  ·simp only [clueR]
   have := ih (r + 1)
   simp; omega
theorem clueL_len (l : List Bool) : (clueL l).length ≤ 9 := by
 unfold clueL
 split
 ·have := clueR_len l 0; omega
 ·simp
/-! The lines of a number of cells, by their numbers. -/
def lineN (m n : Nat) : List Bool := (List.range n).map (fun i => m.testBit i)
theorem lineN_length (m n : Nat) : (lineN m n).length = n := by simp [lineN]
theorem lineN_get (m n i : Nat) (h : i < (lineN m n).length) : (lineN m n)[i] = m.testBit i := by simp [lineN]
def bitI (m i : Nat) : Int := if m.testBit i then 1 else 0
/-- Does the line agree with what is known from cell i on? -/
def fitD (m : Nat) : Nat → List Int → Bool
 | _, [] => true
 | i, k :: ks => (decide (k < 0) || k == bitI m i) && fitD m (i + 1) ks
def isLine (clue kn : List Int) (m : Nat) : Bool := fitD m 0 kn && decide (clueL (lineN m kn.length) = clue)
def LFr (clue kn : List Int) (a d : Nat) : List Nat := (List.range' a d).filter (isLine clue kn)
def LF (clue kn : List Int) : List Nat := LFr clue kn 0 (2 ^ kn.length)
theorem LFr_cons (clue kn : List Int) (a d : Nat) : LFr clue kn a (d + 1) = if isLine clue kn a then a :: LFr clue kn (a + 1) d else LFr clue kn (a + 1) d := by
 unfold LFr
 rw [List.range'_succ, List.filter_cons]
theorem LFr_len (clue kn : List Int) (a d : Nat) : (LFr clue kn a d).length ≤ d := by
 have := List.length_filter_le (isLine clue kn) (List.range' a d)
 simpa [LFr] using this
theorem pow_le (n : Nat) (h : n ≤ 8) : 1 ≤ 2 ^ n ∧ 2 ^ n ≤ 256 := by
 have : n = 0 ∨ n = 1 ∨ n = 2 ∨ n = 3 ∨ n = 4 ∨ n = 5 ∨ n = 6 ∨ n = 7 ∨ n = 8 := by omega
 rcases this with rfl | rfl | rfl | rfl | rfl | rfl | rfl | rfl | rfl <;> decide
theorem shl_n (n : Nat) (h : n ≤ 8) : shl .i64 1 (n : Int) = ((2 ^ n : Nat) : Int) := by
 have : n = 0 ∨ n = 1 ∨ n = 2 ∨ n = 3 ∨ n = 4 ∨ n = 5 ∨ n = 6 ∨ n = 7 ∨ n = 8 := by omega
 rcases this with rfl | rfl | rfl | rfl | rfl | rfl | rfl | rfl | rfl <;> decide +kernel
theorem bit_eqI (m i : Nat) (hm : m < 4611686018427387904) (hi : i ≤ 64) : Go.bits .and .i64 (shr .i64 (m : Int) (i : Int)) 1 = bitI m i := by
 rw [shr_nat _ _ hi, and1_bit (Int.ediv_nonneg (by omega) (Int.pow_nonneg (by decide))) (by
  have : (m : Int) / 2 ^ i ≤ m := Int.ediv_le_self _ (by omega)
  omega)]
 exact bit_nat m i
theorem bitI_beq (m i : Nat) : (bitI m i == 1) = m.testBit i := by
 unfold bitI; cases m.testBit i <;> rfl
/-- What LineWays answers. -/
def waysV (clue kn : List Int) : Int := if knownV kn = true ∧ clueV clue kn.length = true then ((LF clue kn).length : Int) else -1
theorem knownV_ok {kn : List Int} (h : knownV kn = true) : 1 ≤ kn.length ∧ kn.length ≤ 8 ∧ ∀ x ∈ kn, -1 ≤ x ∧ x ≤ 1 := by
 unfold knownV at h
 simp only [Bool.and_eq_true, decide_eq_true_eq, List.all_eq_true] at h
 exact ⟨by omega, by omega, h.1⟩
/-- What is known of cell j, if these are all the lines. -/
def cls (L : List Nat) (j : Nat) : Int := if L.all (fun m => !m.testBit j) = true then 0 else if L.all (fun m => m.testBit j) = true then 1 else -1
/-- What LineForced answers. -/
def forcedV (clue kn : List Int) : List Int × Bool :=
 if knownV kn = true ∧ clueV clue kn.length = true then
  if LF clue kn = [] then (kn, false) else ((List.range kn.length).map (cls (LF clue kn)), true)
 else ([], false)
theorem LF_lt {clue kn : List Int} {m : Nat} (h8 : kn.length ≤ 8) (h : m ∈ LF clue kn) : m < 256 := by
 have hp := pow_le _ h8
 unfold LF LFr at h
 have := (List.mem_filter.1 h).1
 rw [List.mem_range'_1] at this
 omega
theorem impl_clueof_l (l : List Bool) (h8 : l.length ≤ 8) : ∀ (d i : Nat), l.length = i + d →
  Ev (fun k => impl_ClueOf.l0 k l (clueR 0 (l.take i)) l l.length i) (clueR 0 l) := by
 intro d
 induction d with
 | zero =>
  intro i hi
  refine Ev.step (fun k => by rw [impl_ClueOf.l0]) (Ev.ifn (by omega) (Ev.eq (Ev.now _) ?_))
  rw [List.take_of_length_le (by omega)]
 | succ d ih =>
  intro i hi
  have hlt : i < l.length := by omega
  have hw : wrap64 ((i : Int) + 1) = ((i + 1 : Nat) : Int) := by rw [w64 (by omega) (by omega)]; omega
  have hlen := clueR_len (l.take i) 0
  rw [List.length_take] at hlen
  have h1 := ih (i + 1) (by omega)
  have ht : l.take (i + 1) = l.take i ++ [l[i]] := by rw [List.take_succ_eq_append_getElem hlt]
  refine Ev.step (fun k => by rw [impl_ClueOf.l0]) (Ev.ifp (by omega) (Ev.ifp (by omega) (Ev.ifp (by omega) ?_)))
  rw [hw, rdOf_nat l i hlt]
  cases hb : l[i]
  ·refine Ev.ifn (by decide) ?_
   rw [ht, hb, clueR_f] at h1
   exact h1
  ·refine Ev.ifp rfl ?_
   by_cases c : (i : Int) > 0
   ·have hlt1 : i - 1 < l.length := by omega
    have hw1 : wrap64 ((i : Int) - 1) = ((i - 1 : Nat) : Int) := by rw [w64 (by omega) (by omega)]; omega
    have ht1 : l.take i = l.take (i - 1) ++ [l[i - 1]] := by
     have := List.take_succ_eq_append_getElem hlt1
     rw [show i - 1 + 1 = i by omega] at this
     exact this
    rw [hw1, rdOf_nat l (i - 1) hlt1]
    refine Ev.ifp c (Ev.ifp (by omega) (Ev.ifp (by omega) ?_))
    cases hb1 : l[i - 1]
    ·refine Ev.ifn (by decide) (Ev.ifp (by omega) ?_)
     rw [ht, hb, ht1, hb1, clueR_ft] at h1
     rw [ht1, hb1, clueR_f]
     exact h1
    ·obtain ⟨ys, z, g1, g2⟩ := clueR_tt (l.take (i - 1)) 0 (by omega)
     have e1 : clueR 0 (l.take i) = ys ++ [z] := by rw [ht1, hb1]; exact g1
     have e2 : clueR 0 (l.take (i + 1)) = ys ++ [z + 1] := by rw [ht, hb, ht1, hb1]; exact g2
     have hz := clueR_le (l.take i) 0 (by omega) z (by rw [e1]; simp)
     rw [List.length_take] at hz
     rw [e1] at hlen ⊢
     rw [e2] at h1
     have hyl : (ys ++ [z]).length = ys.length + 1 := by simp
     have hw2 : wrap64 (((ys ++ [z]).length : Int) - 1) = ((ys.length : Nat) : Int) := by rw [w64 (by omega) (by omega)]; omega
     have hr : rd (ys ++ [z]) ((ys.length : Nat) : Int) = z := by rw [rd_nat _ _ (by omega)]; simp
     rw [hw2, hr, w64 (x := z + 1) (by omega) (by omega)]
     refine Ev.ifp rfl (Ev.ifp (by omega) (Ev.ifp (by omega) ?_))
     have hs : (ys ++ [z]).set ((ys.length : Nat) : Int).toNat (z + 1) = ys ++ [z + 1] := by
      rw [Int.toNat_natCast, List.set_append_right _ _ (Nat.le_refl _)]; simp
     rw [hs]; exact h1
   ·have hi0 : i = 0 := by omega
    subst hi0
    refine Ev.ifn c (Ev.ifp (by omega) ?_)
    rw [ht, hb] at h1
    simpa [clueR] using h1
theorem impl_clueof (l : List Bool) (hl : l.length ≤ 140737488351232) : Ev (fun k => impl_ClueOf.f k l) (clueL l) := by
 unfold impl_ClueOf.f clueL
 by_cases h8 : l.length ≤ 8
 ·refine Ev.ifn (by omega) (Ev.eq (?_ : Ev _ (clueR 0 l)) (by rw [if_pos h8]))
  have := impl_clueof_l l h8 l.length 0 (by omega)
  simpa [clueR] using this
 ·exact Ev.ifp (by omega) (Ev.eq (Ev.now _) (by rw [if_neg h8]))
theorem impl_lineOf_l (m n : Nat) (hm : m < 4611686018427387904) (hn : n ≤ 60) : ∀ (d i : Nat) (ys : List Bool), ys.length = n → n = i + d →
  Ev (fun k => impl_lineOf.l0 k m ys n i) (ys.take i ++ (lineN m n).drop i) := by
 intro d
 induction d with
 | zero =>
  intro i ys hy hi
  refine Ev.step (fun k => by rw [impl_lineOf.l0]) (Ev.ifn (by omega) (Ev.eq (Ev.now _) ?_))
  rw [List.take_of_length_le (by omega), List.drop_eq_nil_of_le (by rw [lineN_length]; omega)]; simp
 | succ d ih =>
  intro i ys hy hi
  have hw : wrap64 ((i : Int) + 1) = ((i + 1 : Nat) : Int) := by rw [w64 (by omega) (by omega)]; omega
  refine Ev.step (fun k => by rw [impl_lineOf.l0]) (Ev.ifp (by omega) (Ev.ifp (by omega) (Ev.ifp (by omega) ?_)))
  rw [hw, bit_eqI m i hm (by omega), bitI_beq, Int.toNat_natCast]
  refine Ev.eq (ih (i + 1) (ys.set i (m.testBit i)) (by simp [hy]) (by omega)) ?_
  rw [List.take_add_one, List.take_set_of_le (Nat.le_refl i), List.drop_eq_getElem_cons (l := lineN m n) (i := i) (by rw [lineN_length]; omega), lineN_get]
  simp [show i < ys.length by omega]
theorem impl_lineOf_ev (m n : Nat) (hm : m < 4611686018427387904) (hn : n ≤ 60) : Ev (fun k => impl_lineOf.f k m n) (lineN m n) := by
 unfold impl_lineOf.f
 refine Ev.ifp (by omega) (Ev.ifp (by omega) (Ev.bindc rfl ?_))
 have := impl_lineOf_l m n hm hn n 0 (List.replicate n false) (by simp) (by omega)
 simpa using this
theorem equal_l (a b : List Int) (h : a.length = b.length) (hl : a.length ≤ 140737488351232) : ∀ (d i : Nat), a.length = i + d → Ev (fun k => slices_Equal_int_int.l0 k a b a.length i) (decide (a.drop i = b.drop i)) := by
 intro d
 induction d with
 | zero =>
  intro i hi
  refine Ev.step (fun k => by rw [slices_Equal_int_int.l0]) (Ev.ifn (by omega) (Ev.eq (Ev.now _) ?_))
  rw [List.drop_eq_nil_of_le (by omega), List.drop_eq_nil_of_le (by omega)]; simp
 | succ d ih =>
  intro i hi
  have ha : i < a.length := by omega
  have hb : i < b.length := by omega
  have hw : wrap64 ((i : Int) + 1) = ((i + 1 : Nat) : Int) := by rw [w64 (by omega) (by omega)]; omega
  refine Ev.step (fun k => by rw [slices_Equal_int_int.l0]) (Ev.ifp (by omega) (Ev.ifp (by omega) (Ev.ifp (by omega) (Ev.ifp (by omega) ?_))))
  rw [rd_nat a i ha, rd_nat b i hb, hw, List.drop_eq_getElem_cons ha, List.drop_eq_getElem_cons hb]
  by_cases c : a[i] = b[i]
  ·exact Ev.ifp c (Ev.eq (ih (i + 1) (by omega)) (by rw [c]; simp only [List.cons.injEq, true_and]))
  ·exact Ev.ifn c (Ev.eq (Ev.now _) (by simp only [List.cons.injEq, c, false_and, decide_false]))
theorem equal_ev (a b : List Int) (hl : a.length ≤ 140737488351232) : Ev (fun k => slices_Equal_int_int.f k a b) (decide (a = b)) := by
 unfold slices_Equal_int_int.f
 by_cases h : a.length = b.length
 ·exact Ev.ifp (by omega) (Ev.eq (equal_l a b h hl a.length 0 (by omega)) (by simp))
 ·refine Ev.ifn (by omega) (Ev.eq (Ev.now false) ?_)
  symm; simp; intro e; exact h (by rw [e])
theorem impl_fits (clue kn acc : List Int) (m N : Nat) (hm : m < 4611686018427387904) (hk : kn.length ≤ 60) (r : List Int) : ∀ (d i : Nat) (fl : Bool), kn.length = i + d →
  Ev (fun k => impl_linesFor.l1 k clue kn acc m (fl && fitD m i (kn.drop i)) N m kn kn.length kn.length) r →
  Ev (fun k => impl_linesFor.l1 k clue kn acc m fl N m kn kn.length i) r := by
 intro d
 induction d with
 | zero =>
  intro i fl hi H
  rw [List.drop_eq_nil_of_le (by omega)] at H
  have : kn.length = i := by omega
  rw [this] at H ⊢
  simpa [fitD] using H
 | succ d ih =>
  intro i fl hi H
  have hlt : i < kn.length := by omega
  have hw : wrap64 ((i : Int) + 1) = ((i + 1 : Nat) : Int) := by rw [w64 (by omega) (by omega)]; omega
  rw [List.drop_eq_getElem_cons hlt] at H
  refine Ev.step (fun k => by rw [impl_linesFor.l1]) (Ev.ifp (by omega) (Ev.ifp (by omega) (Ev.ifp (by omega) ?_)))
  rw [rd_nat kn i hlt, hw, bit_eqI m i hm (by omega)]
  cases fl
  ·refine Ev.ifn (by decide) (ih (i + 1) false (by omega) ?_)
   simpa using H
  ·refine Ev.ifp rfl ?_
   by_cases c : kn[i] < 0
   ·refine Ev.ifp c (ih (i + 1) true (by omega) ?_)
    simpa [fitD, c] using H
   ·refine Ev.ifn c (ih (i + 1) _ (by omega) ?_)
    simpa [fitD, c] using H
theorem impl_linesFor_l (clue kn : List Int) (hk : kn.length ≤ 8) : ∀ (d m : Nat) (acc : List Int), m + d = 2 ^ kn.length → acc.length + d ≤ 600 →
  Ev (fun k => impl_linesFor.l0 k clue kn acc ((2 ^ kn.length : Nat) : Int) m) (acc ++ (LFr clue kn m d).map (fun x : Nat => (x : Int))) := by
 have hp := pow_le _ hk
 intro d
 induction d with
 | zero =>
  intro m acc hm ha
  exact Ev.step (fun k => by rw [impl_linesFor.l0]) (Ev.ifn (by omega) (Ev.eq (Ev.now _) (by simp [LFr])))
 | succ d ih =>
  intro m acc hm ha
  have hw : wrap64 ((m : Int) + 1) = ((m + 1 : Nat) : Int) := by rw [w64 (by omega) (by omega)]; omega
  refine Ev.step (fun k => by rw [impl_linesFor.l0]) (Ev.ifp (by omega) ?_)
  refine impl_fits clue kn acc m (2 ^ kn.length) (by omega) (by omega) _ kn.length 0 true (by omega) ?_
  refine Ev.step (fun k => by rw [impl_linesFor.l1]) (Ev.ifn (by omega) ?_)
  rw [hw, LFr_cons, List.drop_zero, Bool.true_and]
  unfold isLine
  by_cases c : fitD m 0 kn = true
  ·rw [c, Bool.true_and]
   refine Ev.ifp rfl (Ev.bind (impl_lineOf_ev m kn.length (by omega) (by omega)) (Ev.bind (impl_clueof _ (by rw [lineN_length]; omega)) (Ev.bind (equal_ev _ _ (by have := clueL_len (lineN m kn.length); omega)) ?_)))
   by_cases c2 : clueL (lineN m kn.length) = clue
   ·refine Ev.ifp (by simpa using c2) (Ev.ifp (by omega) (Ev.eq (ih (m + 1) (acc ++ [(m : Int)]) (by omega) (by simp; omega)) ?_))
    simp [c2]
   ·refine Ev.ifn (by simpa using c2) (Ev.eq (ih (m + 1) acc (by omega) (by omega)) ?_)
    simp [c2]
  ·refine Ev.ifn c (Ev.eq (ih (m + 1) acc (by omega) (by omega)) ?_)
   simp [c]
theorem impl_linesFor_ev (clue kn : List Int) (hk : kn.length ≤ 8) : Ev (fun k => impl_linesFor.f k clue kn) ((LF clue kn).map (fun x : Nat => (x : Int))) := by
 have hp := pow_le _ hk
 unfold impl_linesFor.f
 rw [shl_n _ hk]
 have := impl_linesFor_l clue kn hk (2 ^ kn.length) 0 [] (by omega) (by simp; omega)
 simpa [LF] using this
theorem and_neg1 (m : Nat) (h : m < 1024) : Go.bits .and .i64 (-1) (m : Int) = (m : Int) := by
 show IntKind.i64.wrap (((BitVec.ofInt 64 (-1) &&& BitVec.ofInt 64 (m : Int)).toNat : Nat) : Int) = m
 rw [show BitVec.ofInt 64 (-1) = BitVec.allOnes 64 from by decide, BitVec.allOnes_and, BitVec.ofInt_natCast, BitVec.toNat_ofNat, Nat.mod_eq_of_lt (by omega), IntKind.wrap_i64]
 omega
theorem and_n (a b : Nat) (ha : a < 1024) (hb : b < 1024) : Go.bits .and .i64 (a : Int) (b : Int) = ((a &&& b : Nat) : Int) :=
 (bits_nat .i64 62 (by decide) (fun n h h' => by rw [IntKind.wrap_i64]; omega) a b (by omega) (by omega)).1
theorem or_n (a b : Nat) (ha : a < 1024) (hb : b < 1024) : Go.bits .or .i64 (a : Int) (b : Int) = ((a ||| b : Nat) : Int) :=
 (bits_nat .i64 62 (by decide) (fun n h h' => by rw [IntKind.wrap_i64]; omega) a b (by omega) (by omega)).2
theorem fold_and_bit : ∀ (L : List Nat) (a j : Nat), (L.foldl (fun x y => x &&& y) a).testBit j = (a.testBit j && L.all (fun m => m.testBit j)) := by
 intro L
 induction L with
 | nil => intro a j; simp
 | cons m L ih => intro a j; rw [List.foldl_cons, ih, Nat.testBit_and, List.all_cons, Bool.and_assoc]
theorem fold_or_bit : ∀ (L : List Nat) (a j : Nat), (L.foldl (fun x y => x ||| y) a).testBit j = (a.testBit j || L.any (fun m => m.testBit j)) := by
 intro L
 induction L with
 | nil => intro a j; simp
 | cons m L ih => intro a j; rw [List.foldl_cons, ih, Nat.testBit_or, List.any_cons, Bool.or_assoc]
theorem fold_lt : ∀ (L : List Nat) (a : Nat), a < 1024 → (∀ m ∈ L, m < 256) → L.foldl (fun x y => x &&& y) a < 1024 ∧ L.foldl (fun x y => x ||| y) a < 1024 := by
 intro L
 induction L with
 | nil => intro a h _; exact ⟨h, h⟩
 | cons m L ih =>
  intro a h hL
  have hm := hL m List.mem_cons_self
  have h1 := ih (a &&& m) (Nat.lt_of_le_of_lt Nat.and_le_left h) (fun x hx => hL x (List.mem_cons_of_mem _ hx))
  have h2 := ih (a ||| m) (Nat.or_lt_two_pow (n := 10) h (by omega)) (fun x hx => hL x (List.mem_cons_of_mem _ hx))
  exact ⟨h1.1, h2.2⟩
theorem impl_forced_fold (kn : List Int) (L : List Nat) (hL : ∀ m ∈ L, m < 256) (hlen : L.length ≤ 600) (r : List Int × Bool) : ∀ (d i a o : Nat), L.length = i + d → a < 1024 → o < 1024 →
  Ev (fun k => impl_LineForced.l0 k kn (((L.drop i).foldl (fun x y => x &&& y) a : Nat) : Int) (((L.drop i).foldl (fun x y => x ||| y) o : Nat) : Int) (L.map (fun x : Nat => (x : Int))) L.length L.length) r →
  Ev (fun k => impl_LineForced.l0 k kn (a : Int) (o : Int) (L.map (fun x : Nat => (x : Int))) L.length i) r := by
 intro d
 induction d with
 | zero =>
  intro i a o hi ha ho H
  have e : L.length = i := by omega
  rw [List.drop_eq_nil_of_le (by omega)] at H
  rw [e] at H ⊢
  exact H
 | succ d ih =>
  intro i a o hi ha ho H
  have hlt : i < L.length := by omega
  have hm := hL _ (List.getElem_mem hlt)
  have hw : wrap64 ((i : Int) + 1) = ((i + 1 : Nat) : Int) := by rw [w64 (by omega) (by omega)]; omega
  rw [List.drop_eq_getElem_cons hlt, List.foldl_cons, List.foldl_cons] at H
  refine Ev.step (fun k => by rw [impl_LineForced.l0]) (Ev.ifp (by omega) (Ev.ifp (by omega) (Ev.ifp (by simp; omega) ?_)))
  rw [rd_nat _ i (by simpa using hlt), List.getElem_map, hw, and_n a _ ha (by omega), or_n o _ ho (by omega)]
  exact ih (i + 1) _ _ (by omega) (Nat.lt_of_le_of_lt Nat.and_le_left ha) (Nat.or_lt_two_pow (n := 10) ho (by omega)) H
theorem impl_forced_out (n a o : Nat) (ha : a < 1024) (ho : o < 1024) (hn : n ≤ 60) (F : List Int) (hF : F.length = n)
  (hg : ∀ j (h : j < F.length), F[j] = if a.testBit j then 1 else if o.testBit j then -1 else 0) : ∀ (d i : Nat), n = i + d →
  Ev (fun k => impl_LineForced.l1 k a o (F.take i ++ List.replicate (n - i) 0) n i) (F, true) := by
 intro d
 induction d with
 | zero =>
  intro i hi
  refine Ev.step (fun k => by rw [impl_LineForced.l1]) (Ev.ifn (by omega) (Ev.eq (Ev.now _) ?_))
  rw [List.take_of_length_le (by omega), show n - i = 0 by omega]; simp
 | succ d ih =>
  intro i hi
  have hlt : i < F.length := by omega
  have hw : wrap64 ((i : Int) + 1) = ((i + 1 : Nat) : Int) := by rw [w64 (by omega) (by omega)]; omega
  have hlen : (F.take i ++ List.replicate (n - i) (0 : Int)).length = n := by simp; omega
  have hrep : List.replicate (n - i) (0 : Int) = 0 :: List.replicate (n - (i + 1)) 0 := by
   rw [show n - i = (n - (i + 1)) + 1 by omega]; rfl
  have hset : ∀ v : Int, (F.take i ++ List.replicate (n - i) (0 : Int)).set i v = F.take i ++ [v] ++ List.replicate (n - (i + 1)) 0 := by
   intro v
   rw [List.set_append_right _ _ (by rw [List.length_take]; omega), hrep]
   simp [show i - min i F.length = 0 by omega]
  have hnext := ih (i + 1) (by omega)
  rw [List.take_succ_eq_append_getElem hlt] at hnext
  have hgi := hg i hlt
  refine Ev.step (fun k => by rw [impl_LineForced.l1]) (Ev.ifp (by omega) (Ev.ifp (by omega) ?_))
  rw [bit_eqI a i (by omega) (by omega), bit_eqI o i (by omega) (by omega), hw, Int.toNat_natCast, hset, hset]
  unfold bitI
  cases ca : a.testBit i
  ·refine Ev.ifn (by simp) ?_
   cases co : o.testBit i
   ·refine Ev.ifn (by simp) ?_
    rw [ca, co] at hgi
    simp only [Bool.false_eq_true, if_false] at hgi
    rw [hgi] at hnext
    rw [hrep]
    simpa using hnext
   ·refine Ev.ifp (by simp) (Ev.ifp (by omega) ?_)
    rw [ca, co] at hgi
    simp only [Bool.false_eq_true, if_false, if_true] at hgi
    rw [hgi] at hnext
    exact hnext
  ·refine Ev.ifp (by simp) (Ev.ifp (by omega) ?_)
   rw [ca] at hgi
   simp only [if_true] at hgi
   rw [hgi] at hnext
   exact hnext
theorem impl_forced (clue kn : List Int) (h1 : clue.length ≤ 1000000000) (h2 : kn.length ≤ 1000000000) : Ev (fun k => impl_LineForced.f k clue kn) (forcedV clue kn) := by
 have no : ∀ b : Bool, b = true → ¬ (knownV kn = true ∧ clueV clue kn.length = true) → Ev (fun k => impl_LineForced.j0 k clue kn b) (forcedV clue kn) := by
  intro b hb h
  exact Ev.step (fun k => by rw [impl_LineForced.j0]) (Ev.ifp hb (Ev.eq (Ev.now _) (by unfold forcedV; rw [if_neg h])))
 unfold impl_LineForced.f
 refine Ev.bind (impl_known kn (by omega)) ?_
 by_cases c1 : knownV kn = true
 ·refine Ev.ifp c1 (Ev.bind (impl_clue clue _ (by omega)) ?_)
  by_cases c2 : clueV clue kn.length = true
  ·have hv := knownV_ok c1
   have hp := pow_le _ hv.2.1
   have hl : (LF clue kn).length ≤ 256 := by have := LFr_len clue kn 0 (2 ^ kn.length); unfold LF; omega
   refine Ev.step (fun k => by rw [impl_LineForced.j0]) (Ev.ifn (by rw [c2]; decide) (Ev.bind (impl_linesFor_ev clue kn hv.2.1) ?_))
   unfold forcedV
   rw [if_pos ⟨c1, c2⟩]
   by_cases c3 : LF clue kn = []
   ·rw [if_pos c3]
    refine Ev.ifp (by rw [c3]; rfl) (Ev.bindc (a := kn) ?_ (Ev.now _))
    unfold slices_Clone_int_int.f
    simp only [Option.bind_some, List.length_nil, List.nil_append]
    rw [if_pos (by omega)]
   ·rw [if_neg c3]
    obtain ⟨m0, ms, hms⟩ := List.exists_cons_of_ne_nil c3
    have hlt : ∀ m ∈ LF clue kn, m < 256 := fun m hm => LF_lt hv.2.1 hm
    refine Ev.ifn (by simp [hms]; omega) ?_
    generalize hL : LF clue kn = L at hms hlt hl
    have hm0 : m0 < 256 := hlt m0 (by rw [hms]; exact List.mem_cons_self)
    have hpos : 0 < L.length := by rw [hms]; simp
    have h0 : L[0] = m0 := by simp [hms]
    rw [List.length_map]
    refine Ev.step (fun k => by rw [impl_LineForced.l0]) (Ev.ifp (by omega) (Ev.ifp (by omega) (Ev.ifp (by simp; omega) ?_)))
    have e0 : rd (L.map (fun x : Nat => (x : Int))) 0 = (m0 : Int) := by
     have := rd_nat (L.map (fun x : Nat => (x : Int))) 0 (by simpa using hpos)
     rw [List.getElem_map, h0] at this
     exact this
    rw [e0, and_neg1 m0 (by omega), show Go.bits .or .i64 0 (m0 : Int) = (m0 : Int) from by have := or_n 0 m0 (by omega) (by omega); simpa using this,
     show wrap64 ((0 : Int) + 1) = ((1 : Nat) : Int) from by rw [w64 (by omega) (by omega)]; rfl]
    refine impl_forced_fold kn L hlt (by omega) _ (L.length - 1) 1 m0 m0 (by omega) (by omega) (by omega) ?_
    have hfl := fold_lt (L.drop 1) m0 (by omega) (fun m hm => hlt m (List.mem_of_mem_drop hm))
    refine Ev.step (fun k => by rw [impl_LineForced.l0]) (Ev.ifn (by omega) (Ev.ifp (by omega) (Ev.ifp (by omega) (Ev.bindc rfl ?_))))
    have hd : L.drop 1 = ms := by rw [hms]; rfl
    rw [hd] at hfl ⊢
    have := impl_forced_out kn.length _ _ hfl.1 hfl.2 (by omega) ((List.range kn.length).map (cls L)) (by simp) (fun j hj => by
     rw [List.getElem_map, List.getElem_range, fold_and_bit, fold_or_bit]
     unfold cls
     rw [hms, List.all_cons, List.all_cons]
     have hna : ∀ l : List Nat, l.all (fun m => !m.testBit j) = !l.any (fun m => m.testBit j) := fun l => by
      induction l with
      | nil => rfl
      | cons x l ih => rw [List.all_cons, List.any_cons, ih, Bool.not_or]
     rw [hna]
     cases m0.testBit j <;> cases hA : ms.all (fun m => m.testBit j) <;> cases hB : ms.any (fun m => m.testBit j) <;> simp) kn.length 0 (by omega)
    simpa using this
  ·exact no _ (by simpa using c2) (fun h => c2 h.2)
 ·exact Ev.ifn c1 (no _ rfl (fun h => c1 h.1))
theorem spec_known_l (l : List Int) (hl : l.length ≤ 140737488351232) : ∀ (d i : Nat), l.length = i + d →
  Ev (fun k => spec_KnownValid.l0 k l i) ((l.drop i).all (fun x => decide (-1 ≤ x ∧ x ≤ 1)) && decide (1 ≤ (l.length : Int) ∧ (l.length : Int) ≤ 8)) := by
 intro d
 induction d with
 | zero =>
  intro i hi
  refine Ev.step (fun k => by rw [spec_KnownValid.l0]) (Ev.ifn (by omega) (Ev.bindc (l1In_f _ _ _) (Ev.eq (Ev.now _) ?_)))
  rw [List.drop_eq_nil_of_le (by omega)]; simp
 | succ d ih =>
  intro i hi
  have hlt : i < l.length := by omega
  have hw : wrap64 ((i : Int) + 1) = ((i + 1 : Nat) : Int) := by rw [w64 (by omega) (by omega)]; omega
  refine Ev.step (fun k => by rw [spec_KnownValid.l0]) ?_
  rw [rd_nat l i hlt, hw, List.drop_eq_getElem_cons hlt, List.all_cons]
  refine Ev.ifp (by omega) (Ev.ifp (by omega) (Ev.bindc (l1In_f _ _ _) ?_))
  by_cases c : -1 ≤ l[i] ∧ l[i] ≤ 1
  ·exact Ev.ifp (by simpa using c) (Ev.eq (ih (i + 1) (by omega)) (by simp [c]))
  ·exact Ev.ifn (by simpa using c) (Ev.eq (Ev.now _) (by simp [c]))
theorem spec_known (l : List Int) (hl : l.length ≤ 140737488351232) : Ev (fun k => spec_KnownValid.f k l) (knownV l) := by
 unfold spec_KnownValid.f
 exact spec_known_l l hl l.length 0 (by omega)
theorem spec_clueof_end (l : List Bool) (out : List Int) (run : Int) (h8 : l.length ≤ 8) : Ev (fun k => spec_ClueOf.l0 k l out run ((l.length + 1 : Nat) : Int)) out := by
 refine Ev.step (fun k => by rw [spec_ClueOf.l0]) (Ev.ifn (by omega) ?_)
 exact Ev.step (fun k => by rw [spec_ClueOf.j1]) (Ev.ifn (by decide) (Ev.now _))
theorem spec_clueof_l (l : List Bool) (h8 : l.length ≤ 8) : ∀ (d i : Nat) (run : Int) (out : List Int), l.length = i + d → 0 ≤ run → run ≤ i → out.length ≤ i →
  Ev (fun k => spec_ClueOf.l0 k l out run i) (out ++ clueR run (l.drop i)) := by
 intro d
 induction d with
 | zero =>
  intro i run out hi h0 h1 h2
  have hw : wrap64 ((i : Int) + 1) = ((l.length + 1 : Nat) : Int) := by rw [w64 (by omega) (by omega)]; omega
  refine Ev.step (fun k => by rw [spec_ClueOf.l0]) (Ev.ifp (by omega) ?_)
  refine Ev.step (fun k => by rw [spec_ClueOf.j1]) (Ev.ifp (by simp; omega) (Ev.ifn (by omega) ?_))
  refine Ev.step (fun k => by rw [spec_ClueOf.j2]) (Ev.ifn (by decide) ?_)
  rw [hw, List.drop_eq_nil_of_le (by omega)]
  by_cases c : run > 0
  ·refine Ev.ifp c (Ev.ifp (by omega) (Ev.eq (spec_clueof_end l _ _ h8) ?_))
   simp [clueR, show 0 < run from c]
  ·refine Ev.ifn c (Ev.eq (spec_clueof_end l _ _ h8) ?_)
   have : ¬ 0 < run := c
   simp [clueR, this]
 | succ d ih =>
  intro i run out hi h0 h1 h2
  have hlt : i < l.length := by omega
  have hw : wrap64 ((i : Int) + 1) = ((i + 1 : Nat) : Int) := by rw [w64 (by omega) (by omega)]; omega
  refine Ev.step (fun k => by rw [spec_ClueOf.l0]) (Ev.ifp (by omega) ?_)
  refine Ev.step (fun k => by rw [spec_ClueOf.j1]) (Ev.ifp (by simp; omega) (Ev.ifp (by omega) (Ev.ifp (by omega) ?_)))
  refine Ev.step (fun k => by rw [spec_ClueOf.j2]) ?_
  rw [hw, rdOf_nat l i hlt, List.drop_eq_getElem_cons hlt]
  cases hb : l[i]
  ·refine Ev.ifn (by decide) ?_
   by_cases c : run > 0
   ·refine Ev.ifp c (Ev.ifp (by omega) (Ev.eq (ih (i + 1) 0 (out ++ [run]) (by omega) (by omega) (by omega) (by simp; omega)) ?_))
    simp [clueR, show 0 < run from c]
   ·have hr : run = 0 := by omega
    refine Ev.ifn c (Ev.eq (ih (i + 1) run out (by omega) (by omega) (by omega) (by omega)) ?_)
    simp [clueR, hr]
  ·refine Ev.ifp rfl ?_
   rw [w64 (x := run + 1) (by omega) (by omega)]
   refine Ev.eq (ih (i + 1) (run + 1) out (by omega) (by omega) (by omega) (by omega)) ?_
   simp [clueR]
theorem spec_clueof (l : List Bool) (hl : l.length ≤ 140737488351232) : Ev (fun k => spec_ClueOf.f k l) (clueL l) := by
 unfold spec_ClueOf.f clueL
 by_cases h8 : l.length ≤ 8
 ·exact Ev.eq (spec_clueof_l l h8 l.length 0 0 [] (by omega) (by omega) (by omega) (by simp)) (by rw [if_pos h8]; simp)
 ·refine Ev.step (fun k => by rw [spec_ClueOf.l0]) (Ev.ifp (by omega) ?_)
  exact Ev.step (fun k => by rw [spec_ClueOf.j1]) (Ev.ifn (by simp; omega) (Ev.eq (Ev.now _) (by rw [if_neg h8])))
theorem spec_line_l (m n : Nat) (hm : m < 4611686018427387904) (hn : n ≤ 60) : ∀ (d i : Nat) (out : List Bool), n = i + d → out.length ≤ i →
  Ev (fun k => spec_l12Line.l0 k m n out i) (out ++ (lineN m n).drop i) := by
 intro d
 induction d with
 | zero =>
  intro i out hi ho
  refine Ev.step (fun k => by rw [spec_l12Line.l0]) (Ev.ifn (by omega) (Ev.eq (Ev.now _) ?_))
  rw [List.drop_eq_nil_of_le (by rw [lineN_length]; omega)]; simp
 | succ d ih =>
  intro i out hi ho
  have hw : wrap64 ((i : Int) + 1) = ((i + 1 : Nat) : Int) := by rw [w64 (by omega) (by omega)]; omega
  refine Ev.step (fun k => by rw [spec_l12Line.l0]) (Ev.ifp (by omega) (Ev.ifp (by omega) (Ev.ifp (by omega) ?_)))
  have e : (Int.tmod (shr .i64 (m : Int) (i : Int)) 2 == 1) = m.testBit i := by
   rw [shr_bit (by omega) i (by omega), bit_nat]; cases m.testBit i <;> rfl
  rw [hw, e]
  refine Ev.eq (ih (i + 1) (out ++ [m.testBit i]) (by omega) (by simp; omega)) ?_
  rw [List.drop_eq_getElem_cons (l := lineN m n) (i := i) (by rw [lineN_length]; omega), lineN_get]; simp
theorem spec_line_ev (m n : Nat) (hm : m < 4611686018427387904) (hn : n ≤ 60) : Ev (fun k => spec_l12Line.f k m n) (lineN m n) := by
 unfold spec_l12Line.f
 have := spec_line_l m n hm hn n 0 [] (by omega) (by simp)
 simpa using this
theorem spec_fits_l (kn : List Int) (m : Nat) (hk : kn.length ≤ 60) (hv : ∀ x ∈ kn, -1 ≤ x ∧ x ≤ 1) : ∀ (d i : Nat), kn.length = i + d →
  Ev (fun k => spec_l12Fits.l0 k (lineN m kn.length) kn i) (fitD m i (kn.drop i)) := by
 intro d
 induction d with
 | zero =>
  intro i hi
  refine Ev.step (fun k => by rw [spec_l12Fits.l0]) (Ev.ifn (by rw [lineN_length]; omega) (Ev.eq (Ev.now _) ?_))
  rw [List.drop_eq_nil_of_le (by omega)]; rfl
 | succ d ih =>
  intro i hi
  have hlt : i < kn.length := by omega
  have hw : wrap64 ((i : Int) + 1) = ((i + 1 : Nat) : Int) := by rw [w64 (by omega) (by omega)]; omega
  have hx := hv _ (List.getElem_mem hlt)
  have h1 := ih (i + 1) (by omega)
  refine Ev.step (fun k => by rw [spec_l12Fits.l0]) (Ev.ifp (by rw [lineN_length]; omega) (Ev.ifp (by omega) (Ev.ifp (by omega) ?_)))
  rw [rd_nat kn i hlt, hw, rdOf_nat (lineN m kn.length) i (by rw [lineN_length]; exact hlt), lineN_get, List.drop_eq_getElem_cons hlt]
  have hf : fitD m i (kn[i] :: kn.drop (i + 1)) = ((decide (kn[i] < 0) || kn[i] == bitI m i) && fitD m (i + 1) (kn.drop (i + 1))) := rfl
  rw [hf]
  unfold bitI
  have h3 : kn[i] = -1 ∨ kn[i] = 0 ∨ kn[i] = 1 := by omega
  rcases h3 with h3 | h3 | h3 <;> rw [h3]
  ·exact Ev.ifn (by decide) (Ev.ifn (by decide) (Ev.eq h1 (by simp)))
  ·refine Ev.ifp rfl ?_
   cases hb : m.testBit i
   ·exact Ev.ifn (by decide) (Ev.ifn (by decide) (Ev.eq h1 (by simp)))
   ·exact Ev.ifp rfl (Ev.eq (Ev.now _) (by simp))
  ·refine Ev.ifn (by decide) (Ev.ifp rfl ?_)
   cases hb : m.testBit i
   ·exact Ev.ifn (by decide) (Ev.eq (Ev.now _) (by simp))
   ·exact Ev.ifp rfl (Ev.eq h1 (by simp))
theorem spec_fits_ev (kn : List Int) (m : Nat) (hk : kn.length ≤ 60) (hv : ∀ x ∈ kn, -1 ≤ x ∧ x ≤ 1) : Ev (fun k => spec_l12Fits.f k (lineN m kn.length) kn) (fitD m 0 kn) := by
 unfold spec_l12Fits.f
 have := spec_fits_l kn m hk hv kn.length 0 (by omega)
 simpa using this
theorem l8Same_l (a b : List Int) (h : a.length = b.length) (hl : a.length ≤ 140737488351232) : ∀ (d i : Nat), a.length = i + d → Ev (fun k => spec_l8Same.l0 k a b i) (decide (a.drop i = b.drop i)) := by
 intro d
 induction d with
 | zero =>
  intro i hi
  refine Ev.step (fun k => by rw [spec_l8Same.l0]) (Ev.ifn (by omega) (Ev.eq (Ev.now _) ?_))
  rw [List.drop_eq_nil_of_le (by omega), List.drop_eq_nil_of_le (by omega)]; simp
 | succ d ih =>
  intro i hi
  have ha : i < a.length := by omega
  have hb : i < b.length := by omega
  have hw : wrap64 ((i : Int) + 1) = ((i + 1 : Nat) : Int) := by rw [w64 (by omega) (by omega)]; omega
  refine Ev.step (fun k => by rw [spec_l8Same.l0]) (Ev.ifp (by omega) (Ev.ifp (by omega) (Ev.ifp (by omega) ?_)))
  rw [rd_nat a i ha, rd_nat b i hb, hw, List.drop_eq_getElem_cons ha, List.drop_eq_getElem_cons hb]
  by_cases c : a[i] = b[i]
  ·exact Ev.ifp c (Ev.eq (ih (i + 1) (by omega)) (by rw [c]; simp only [List.cons.injEq, true_and]))
  ·exact Ev.ifn c (Ev.eq (Ev.now _) (by simp only [List.cons.injEq, c, false_and, decide_false]))
theorem l8Same_ev (a b : List Int) (hl : a.length ≤ 140737488351232) : Ev (fun k => spec_l8Same.f k a b) (decide (a = b)) := by
 unfold spec_l8Same.f
 by_cases h : a.length = b.length
 ·exact Ev.ifp (by omega) (Ev.eq (l8Same_l a b h hl a.length 0 (by omega)) (by simp))
 ·refine Ev.ifn (by omega) (Ev.eq (Ev.now false) ?_)
  symm; simp; intro e; exact h (by rw [e])
theorem l12Same_ev (l : List Bool) (clue : List Int) (hl : l.length ≤ 140737488351232) : Ev (fun k => spec_l12Same.f k l clue) (decide (clueL l = clue)) := by
 unfold spec_l12Same.f
 exact Ev.bind (spec_clueof l hl) (Ev.bind (l8Same_ev _ _ (by have := clueL_len l; omega)) (Ev.now _))
def cntL (L : List Nat) (j : Nat) : Int := (L.countP (fun m => m.testBit j) : Nat)
theorem spec_forced_add (clue kn : List Int) (m : Nat) (ways x8 : Int) (hk : kn.length ≤ 8) (r : List Int × Bool) (f : Nat → Int) (hf : ∀ j, 0 ≤ f j ∧ f j ≤ 1000)
  (H : Ev (fun k => spec_LineForced.l0 k clue kn ((List.range kn.length).map (fun j => f j + bitI m j)) ways (wrap64 (x8 + 1))) r) : ∀ (d i : Nat), kn.length = i + d →
  Ev (fun k => spec_LineForced.l1 k clue kn ((List.range kn.length).map (fun j => f j + if j < i then bitI m j else 0)) ways x8 (lineN m kn.length) i) r := by
 intro d
 induction d with
 | zero =>
  intro i hi
  refine Ev.step (fun k => by rw [spec_LineForced.l1]) (Ev.ifn (by rw [lineN_length]; omega) ?_)
  have e : (List.range kn.length).map (fun j => f j + if j < i then bitI m j else 0) = (List.range kn.length).map (fun j => f j + bitI m j) := by
   apply List.map_congr_left
   intro j hj
   rw [List.mem_range] at hj
   rw [if_pos (by omega)]
  rw [e]
  exact H
 | succ d ih =>
  intro i hi
  have hlt : i < kn.length := by omega
  have hw : wrap64 ((i : Int) + 1) = ((i + 1 : Nat) : Int) := by rw [w64 (by omega) (by omega)]; omega
  have h1 := ih (i + 1) (by omega)
  refine Ev.step (fun k => by rw [spec_LineForced.l1]) (Ev.ifp (by rw [lineN_length]; omega) (Ev.ifp (by omega) ?_))
  rw [rdOf_nat _ i (by rw [lineN_length]; exact hlt), lineN_get, hw]
  cases hb : m.testBit i
  ·refine Ev.ifn (by decide) ?_
   have e : (List.range kn.length).map (fun j => f j + if j < i then bitI m j else 0) = (List.range kn.length).map (fun j => f j + if j < i + 1 then bitI m j else 0) := by
    apply List.map_congr_left
    intro j hj
    by_cases c : j < i
    ·rw [if_pos c, if_pos (by omega)]
    ·rw [if_neg c]
     by_cases c2 : j = i
     ·subst c2
      rw [if_pos (by omega)]; unfold bitI; rw [hb]; simp
     ·rw [if_neg (by omega)]
   rw [e]
   exact h1
  ·refine Ev.ifp rfl (Ev.ifp (by simp; omega) ?_)
   have e : ((List.range kn.length).map (fun j => f j + if j < i then bitI m j else 0)).set ((i : Nat) : Int).toNat (wrap64 (rd ((List.range kn.length).map (fun j => f j + if j < i then bitI m j else 0)) i + 1)) = (List.range kn.length).map (fun j => f j + if j < i + 1 then bitI m j else 0) := by
    have hfi := hf i
    rw [rd_nat _ i (by simpa using hlt), List.getElem_map, List.getElem_range, if_neg (by omega), w64 (by omega) (by omega), Int.toNat_natCast]
    apply List.ext_getElem
    ·simp
    ·intro j h3 h4
     rw [List.getElem_set, List.getElem_map, List.getElem_map, List.getElem_range]
     by_cases c : i = j
     ·subst c
      rw [if_pos rfl, if_pos (by omega)]; unfold bitI; rw [hb]; simp
     ·rw [if_neg c]
      by_cases c2 : j < i
      ·rw [if_pos c2, if_pos (by omega)]
      ·rw [if_neg c2, if_neg (by omega)]
   rw [e]
   exact h1
theorem spec_forced_l (clue kn : List Int) (hk : knownV kn = true) (r : List Int × Bool) : ∀ (d m : Nat) (f : Nat → Int) (c : Int), m + d = 2 ^ kn.length → (∀ j, 0 ≤ f j ∧ f j + d ≤ 600) → 0 ≤ c → c + d ≤ 600 →
  Ev (fun k => spec_LineForced.l0 k clue kn ((List.range kn.length).map (fun j => f j + cntL (LFr clue kn m d) j)) (c + ((LFr clue kn m d).length : Int)) ((2 ^ kn.length : Nat) : Int)) r →
  Ev (fun k => spec_LineForced.l0 k clue kn ((List.range kn.length).map f) c m) r := by
 have hv := knownV_ok hk
 have hp := pow_le _ hv.2.1
 intro d
 induction d with
 | zero =>
  intro m f c hm hf h0 h1 H
  have e : m = 2 ^ kn.length := by omega
  rw [e]
  simpa [LFr, cntL] using H
 | succ d ih =>
  intro m f c hm hf h0 h1 H
  have hw : wrap64 ((m : Int) + 1) = ((m + 1 : Nat) : Int) := by rw [w64 (by omega) (by omega)]; omega
  rw [LFr_cons] at H
  refine Ev.step (fun k => by rw [spec_LineForced.l0]) ?_
  rw [shl_n _ hv.2.1]
  refine Ev.ifp (by omega) (Ev.bind (spec_line_ev m kn.length (by omega) (by omega)) (Ev.bind (spec_fits_ev kn m (by omega) hv.2.2) ?_))
  have skip : isLine clue kn m = false → ∀ b : Bool, b = true → Ev (fun k => spec_LineForced.j2 k clue kn ((List.range kn.length).map f) c m (lineN m kn.length) b) r := by
   intro hn b hb
   refine Ev.step (fun k => by rw [spec_LineForced.j2]) (Ev.ifp hb ?_)
   rw [hw]
   rw [hn] at H
   exact ih (m + 1) f c (by omega) (fun j => by have := hf j; omega) h0 (by omega) (by simpa using H)
  by_cases c1 : fitD m 0 kn = true
  ·refine Ev.ifp c1 (Ev.bind (l12Same_ev _ clue (by rw [lineN_length]; omega)) ?_)
   by_cases c2 : clueL (lineN m kn.length) = clue
   ·have hi : isLine clue kn m = true := by unfold isLine; rw [c1]; simp [c2]
    refine Ev.step (fun k => by rw [spec_LineForced.j2]) (Ev.ifn (by simp [c2]) ?_)
    rw [w64 (x := c + 1) (by omega) (by omega)]
    have hb01 : ∀ j, 0 ≤ bitI m j ∧ bitI m j ≤ 1 := fun j => by unfold bitI; split <;> simp
    have := spec_forced_add clue kn m (c + 1) m hv.2.1 r f (fun j => by have := hf j; omega) (by
     rw [hw]
     refine ih (m + 1) (fun j => f j + bitI m j) (c + 1) (by omega) (fun j => by have := hf j; have := hb01 j; omega) (by omega) (by omega) ?_
     rw [hi] at H
     simp only [if_true] at H
     have e1 : (fun j => f j + cntL (m :: LFr clue kn (m + 1) d) j) = (fun j => f j + bitI m j + cntL (LFr clue kn (m + 1) d) j) := by
      funext j
      unfold cntL bitI
      rw [List.countP_cons]
      cases m.testBit j <;> simp <;> omega
     have e2 : c + ((m :: LFr clue kn (m + 1) d).length : Int) = c + 1 + ((LFr clue kn (m + 1) d).length : Int) := by simp; omega
     rw [e1, e2] at H
     exact H) kn.length 0 (by omega)
    simpa using this
   ·exact skip (by unfold isLine; simp [c2]) _ (by simp [c2])
  ·exact Ev.ifn c1 (skip (by unfold isLine; simp [c1]) _ rfl)
theorem spec_forced_out (full : List Int) (ways : Int) (hl : full.length ≤ 60) : ∀ (d i : Nat) (out : List Int), full.length = i + d → out.length ≤ i →
  Ev (fun k => spec_LineForced.l2 k full ways out i) (out ++ (full.drop i).map (fun c => if c = 0 then 0 else if c = ways then 1 else -1), true) := by
 intro d
 induction d with
 | zero =>
  intro i out hi ho
  refine Ev.step (fun k => by rw [spec_LineForced.l2]) (Ev.ifn (by omega) (Ev.eq (Ev.now _) ?_))
  rw [List.drop_eq_nil_of_le (by omega)]; simp
 | succ d ih =>
  intro i out hi ho
  have hlt : i < full.length := by omega
  have hw : wrap64 ((i : Int) + 1) = ((i + 1 : Nat) : Int) := by rw [w64 (by omega) (by omega)]; omega
  have h1 : ∀ v : Int, Ev (fun k => spec_LineForced.l2 k full ways (out ++ [v]) ((i + 1 : Nat) : Int)) (out ++ [v] ++ (full.drop (i + 1)).map (fun c => if c = 0 then 0 else if c = ways then 1 else -1), true) := fun v => ih (i + 1) (out ++ [v]) (by omega) (by simp; omega)
  refine Ev.step (fun k => by rw [spec_LineForced.l2]) (Ev.ifp (by omega) (Ev.ifp (by omega) ?_))
  rw [rd_nat full i hlt, hw, List.drop_eq_getElem_cons hlt, List.map_cons]
  by_cases c1 : full[i] = 0
  ·exact Ev.ifp c1 (Ev.ifp (by omega) (Ev.eq (h1 0) (by simp [c1])))
  ·refine Ev.ifn c1 ?_
   by_cases c2 : full[i] = ways
   ·exact Ev.ifp c2 (Ev.ifp (by omega) (Ev.eq (h1 1) (by rw [if_neg c1, if_pos c2]; simp)))
   ·exact Ev.ifn c2 (Ev.ifp (by omega) (Ev.eq (h1 (-1)) (by rw [if_neg c1, if_neg c2]; simp)))
theorem cnt_cls (L : List Nat) (j : Nat) (h : L ≠ []) : (if cntL L j = 0 then 0 else if cntL L j = (L.length : Int) then 1 else -1) = cls L j := by
 unfold cls cntL
 have hle := List.countP_le_length (p := fun m : Nat => m.testBit j) (l := L)
 by_cases c1 : L.countP (fun m => m.testBit j) = 0
 ·rw [if_pos (by omega), if_pos]
  rw [List.countP_eq_zero] at c1
  rw [List.all_eq_true]
  intro m hm
  simpa using c1 m hm
 ·have hA1 : ¬ (L.all (fun m => !m.testBit j) = true) := fun hA => c1 (List.countP_eq_zero.2 (fun m hm => by have := List.all_eq_true.1 hA m hm; simpa using this))
  rw [if_neg (by omega), if_neg hA1]
  by_cases c2 : L.countP (fun m => m.testBit j) = L.length
  ·rw [if_pos (by omega), if_pos]
   rw [List.countP_eq_length] at c2
   rw [List.all_eq_true]
   exact c2
  ·have hA2 : ¬ (L.all (fun m => m.testBit j) = true) := fun hA => c2 (List.countP_eq_length.2 (fun m hm => List.all_eq_true.1 hA m hm))
   rw [if_neg (by omega), if_neg hA2]
theorem spec_forced (clue kn : List Int) (h1 : clue.length ≤ 1000000000) (h2 : kn.length ≤ 1000000000) : Ev (fun k => spec_LineForced.f k clue kn) (forcedV clue kn) := by
 have no : ∀ b : Bool, b = true → ¬ (knownV kn = true ∧ clueV clue kn.length = true) → Ev (fun k => spec_LineForced.j0 k clue kn b) (forcedV clue kn) := by
  intro b hb h
  exact Ev.step (fun k => by rw [spec_LineForced.j0]) (Ev.ifp hb (Ev.eq (Ev.now _) (by unfold forcedV; rw [if_neg h])))
 unfold spec_LineForced.f
 refine Ev.bind (spec_known kn (by omega)) ?_
 by_cases c1 : knownV kn = true
 ·refine Ev.ifp c1 (Ev.bind (spec_clue clue _ (by omega)) ?_)
  by_cases c2 : clueV clue kn.length = true
  ·have hv := knownV_ok c1
   have hp := pow_le _ hv.2.1
   refine Ev.step (fun k => by rw [spec_LineForced.j0]) (Ev.ifn (by rw [c2]; decide) (Ev.ifp (by omega) (Ev.ifp (by omega) ?_)))
   have e0 : List.replicate ((kn.length : Int)).toNat (0 : Int) = (List.range kn.length).map (fun _ => 0) := by
    apply List.ext_getElem
    ·simp
    ·intro j h3 h4; simp
   rw [e0]
   refine spec_forced_l clue kn c1 _ (2 ^ kn.length) 0 (fun _ => 0) 0 (by omega) (fun j => by omega) (by omega) (by omega) ?_
   refine Ev.step (fun k => by rw [spec_LineForced.l0]) ?_
   rw [shl_n _ hv.2.1]
   refine Ev.ifn (by omega) ?_
   unfold forcedV
   rw [if_pos ⟨c1, c2⟩]
   show Ev _ (if LFr clue kn 0 (2 ^ kn.length) = [] then _ else _)
   by_cases c3 : LFr clue kn 0 (2 ^ kn.length) = []
   ·rw [if_pos c3]
    refine Ev.ifp (by rw [c3]; rfl) (Ev.bindc rfl (Ev.ifp (by simp; omega) (Ev.eq (Ev.now _) (by simp))))
   ·rw [if_neg c3]
    have hpos := List.length_pos_iff.2 c3
    refine Ev.ifn (by omega) ?_
    refine Ev.eq (spec_forced_out _ _ (by simp; omega) kn.length 0 [] (by simp) (by simp)) ?_
    simp only [List.drop_zero, List.nil_append, List.map_map, Prod.mk.injEq, and_true]
    apply List.map_congr_left
    intro j _
    have := cnt_cls _ j c3
    simp only [Function.comp, Int.zero_add]
    exact this
  ·exact no _ (by simpa using c2) (fun h => c2 h.2)
 ·exact Ev.ifn c1 (no _ rfl (fun h => c1 h.1))
theorem fitD_iff (m : Nat) : ∀ (ks : List Int) (a : Nat), fitD m a ks = true ↔ ∀ j (h : j < ks.length), ks[j] < 0 ∨ ks[j] = bitI m (a + j) := by
 intro ks
 induction ks with
 | nil => intro a; simp [fitD]
 | cons k ks ih =>
  intro a
  simp only [fitD, Bool.and_eq_true, Bool.or_eq_true, decide_eq_true_eq, beq_iff_eq]
  rw [ih]
  constructor
  ·rintro ⟨h0, h1⟩ j hj
   cases j with
   | zero => simpa using h0
   | succ j =>
    have := h1 j (by simpa using hj)
    simpa [Nat.add_assoc, Nat.add_comm 1 j] using this
  ·intro h
   refine ⟨by have h0 := h 0 (by simp); rw [Nat.add_zero] at h0; exact h0, fun j hj => ?_⟩
   have := h (j + 1) (by simpa using hj)
   simpa [Nat.add_assoc, Nat.add_comm 1 j] using this
theorem bitI_01 (m j : Nat) : bitI m j = 0 ∨ bitI m j = 1 := by unfold bitI; split <;> simp
theorem LF_mem {clue kn : List Int} {m : Nat} : m ∈ LF clue kn ↔ m < 2 ^ kn.length ∧ isLine clue kn m = true := by
 unfold LF LFr
 rw [List.mem_filter, List.mem_range'_1]
 constructor
 ·rintro ⟨⟨_, h⟩, h2⟩; exact ⟨by omega, h2⟩
 ·rintro ⟨h, h2⟩; exact ⟨⟨by omega, by omega⟩, h2⟩
theorem forcedV_len (clue kn : List Int) : (forcedV clue kn).1.length ≤ kn.length := by
 unfold forcedV
 split
 ·split <;> simp
 ·simp
theorem cls_range (L : List Nat) (j : Nat) : -1 ≤ cls L j ∧ cls L j ≤ 1 := by
 unfold cls; split
 ·omega
 ·split <;> omega
theorem cls_fits {L : List Nat} {m : Nat} (hm : m ∈ L) (j : Nat) : cls L j < 0 ∨ cls L j = bitI m j := by
 unfold cls
 by_cases c1 : L.all (fun m => !m.testBit j) = true
 ·rw [if_pos c1]
  have := List.all_eq_true.1 c1 m hm
  right; unfold bitI
  cases hb : m.testBit j <;> simp [hb] at this ⊢
 ·rw [if_neg c1]
  by_cases c2 : L.all (fun m => m.testBit j) = true
  ·rw [if_pos c2]
   have := List.all_eq_true.1 c2 m hm
   right; unfold bitI; simp [this]
  ·rw [if_neg c2]; left; omega
/-- What was known stays known. -/
theorem cls_keeps {clue kn : List Int} (hne : LF clue kn ≠ []) (j : Nat) (hj : j < kn.length) (hx : 0 ≤ kn[j]) : cls (LF clue kn) j = kn[j] := by
 have hb : ∀ m ∈ LF clue kn, kn[j] = bitI m j := fun m hm => by
  rw [LF_mem] at hm
  unfold isLine at hm
  simp only [Bool.and_eq_true] at hm
  have := (fitD_iff m kn 0).1 hm.2.1 j hj
  rw [Nat.zero_add] at this
  omega
 obtain ⟨m0, ms, hms⟩ := List.exists_cons_of_ne_nil hne
 have h0 := hb m0 (by rw [hms]; exact List.mem_cons_self)
 have := cls_fits (L := LF clue kn) (m := m0) (by rw [hms]; exact List.mem_cons_self) j
 rcases this with h1 | h1
 ·exfalso
  unfold cls at h1
  rcases bitI_01 m0 j with hz | hz
  ·have : (LF clue kn).all (fun m => !m.testBit j) = true := List.all_eq_true.2 (fun m hm => by
    have := hb m hm
    rw [h0, hz] at this
    unfold bitI at this
    cases hB : m.testBit j <;> simp [hB] at this ⊢)
   rw [if_pos this] at h1; omega
  ·have h2 : (LF clue kn).all (fun m => m.testBit j) = true := List.all_eq_true.2 (fun m hm => by
    have := hb m hm
    rw [h0, hz] at this
    unfold bitI at this
    cases hB : m.testBit j <;> simp [hB] at this ⊢)
   split at h1 <;> omega
 ·rw [h1, h0]
/-! PictureLines: rounds over rows and columns. -/
def rowsPass (A : List (List Int)) : Nat → Nat → List (List Int) → Bool → Option (List (List Int) × Bool)
 | 0, _, kn, ag => some (kn, ag)
 | d + 1, i, kn, ag => if (forcedV (A.getD i []) (kn.getD i [])).2 = true then rowsPass A d (i + 1) (kn.set i (forcedV (A.getD i []) (kn.getD i [])).1) (ag || decide ((forcedV (A.getD i []) (kn.getD i [])).1 ≠ kn.getD i [])) else none
def colP (kn : List (List Int)) (j : Nat) : List Int := kn.map fun r => r.getD j 0
def setCol (kn : List (List Int)) (j : Nat) (x : List Int) : List (List Int) := (List.range kn.length).map fun i => (kn.getD i []).set j (x.getD i 0)
def colsPass (B : List (List Int)) : Nat → Nat → List (List Int) → Bool → Option (List (List Int) × Bool)
 | 0, _, kn, ag => some (kn, ag)
 | d + 1, j, kn, ag => if (forcedV (B.getD j []) (colP kn j)).2 = true then colsPass B d (j + 1) (setCol kn j (forcedV (B.getD j []) (colP kn j)).1) (ag || decide ((forcedV (B.getD j []) (colP kn j)).1 ≠ colP kn j)) else none
def roundPass (A B kn : List (List Int)) : Option (List (List Int) × Bool) := (rowsPass A A.length 0 kn false).bind fun z => colsPass B B.length 0 z.1 z.2
def linesP (A B : List (List Int)) : Nat → List (List Int) → List (List Int) × Bool
 | 0, kn => (kn, true)
 | n + 1, kn => match roundPass A B kn with
  | none => ([], false)
  | some z => if z.2 = true then linesP A B n z.1 else (z.1, true)
theorem rdL_getD (xs : List (List Int)) (i : Nat) : rd_L1 xs (i : Int) = xs.getD i [] := by simp [rd_L1]
/-- The rows' pass of the program: what comes behind it is K. -/
theorem implRows (A B : List (List Int)) (hA : A.length ≤ 1000) (ha : ∀ x ∈ A, x.length ≤ 1048576) (r : List (List Int) × Bool)
  (hE : ∀ x y : List Int, x.length ≤ 1000 → Ev (fun k => slices_Equal_int_int.f k x y) (decide (x = y))) :
  ∀ (d i : Nat) (kn : List (List Int)) (ag : Bool), A.length = i + d → kn.length = A.length → (∀ x ∈ kn, x.length ≤ 1000) →
  (∀ z, rowsPass A d i kn ag = some z → Ev (fun k => impl_PictureLines.l4 k z.1 z.2 B (B.length : Int) 0 A B) r) → (rowsPass A d i kn ag = none → r = ([], false)) →
  Ev (fun k => impl_PictureLines.l3 k kn ag A (A.length : Int) i A B) r := by
 intro d
 induction d with
 | zero =>
  intro i kn ag hi hk hx hK hN
  refine Ev.step (fun k => by rw [impl_PictureLines.l3]) (Ev.ifn (by omega) ?_)
  exact hK (kn, ag) rfl
 | succ d ih =>
  intro i kn ag hi hk hx hK hN
  have hlt : i < A.length := by omega
  have hlk : i < kn.length := by omega
  have hw : wrap64 ((i : Int) + 1) = ((i + 1 : Nat) : Int) := by rw [w64 (by omega) (by omega)]; omega
  have e1 : A.getD i [] = A[i] := by rw [List.getD_eq_getElem?_getD, List.getElem?_eq_getElem hlt]; rfl
  have e2 : kn.getD i [] = kn[i] := by rw [List.getD_eq_getElem?_getD, List.getElem?_eq_getElem hlk]; rfl
  have b1 : (A.getD i []).length ≤ 1048576 := by rw [e1]; exact ha _ (List.getElem_mem hlt)
  have b2 : (kn.getD i []).length ≤ 1000 := by rw [e2]; exact hx _ (List.getElem_mem hlk)
  have hf := impl_forced (A.getD i []) (kn.getD i []) (by omega) (by omega)
  have hl := forcedV_len (A.getD i []) (kn.getD i [])
  refine Ev.step (fun k => by rw [impl_PictureLines.l3]) ?_
  rw [rdL_getD, rdL_getD, hw, Int.toNat_natCast]
  refine Ev.ifp (by omega) (Ev.ifp (by omega) (Ev.ifp (by omega) (Ev.ifp (by omega) (Ev.bind hf ?_))))
  by_cases c : (forcedV (A.getD i []) (kn.getD i [])).2 = true
  ·refine Ev.ifp c ?_
   have hset : ∀ x ∈ kn.set i (forcedV (A.getD i []) (kn.getD i [])).1, x.length ≤ 1000 := by
    intro x hxm
    rcases List.mem_or_eq_of_mem_set hxm with h | h
    ·exact hx x h
    ·rw [h]; omega
   have R : rowsPass A (d + 1) i kn ag = rowsPass A d (i + 1) (kn.set i (forcedV (A.getD i []) (kn.getD i [])).1) (ag || decide ((forcedV (A.getD i []) (kn.getD i [])).1 ≠ kn.getD i [])) := by
    rw [rowsPass, if_pos c]
   rw [R] at hK hN
   cases ag with
   | true =>
    refine Ev.ifp rfl ?_
    exact ih (i + 1) _ true (by omega) (by simp [hk]) hset (by simpa using hK) (by simpa using hN)
   | false =>
    refine Ev.ifn (by decide) (Ev.bind (hE _ _ (by omega)) ?_)
    have e3 : (!decide ((forcedV (A.getD i []) (kn.getD i [])).1 = kn.getD i [])) = decide ((forcedV (A.getD i []) (kn.getD i [])).1 ≠ kn.getD i []) := by simp
    rw [e3]
    exact ih (i + 1) _ _ (by omega) (by simp [hk]) hset (by simpa using hK) (by simpa using hN)
  ·refine Ev.ifn c (Ev.eq (Ev.now _) ?_)
   exact (hN (by rw [rowsPass, if_neg c])).symm
/-- The rows' pass of the reference: what comes behind it is K. -/
theorem specRows (A B : List (List Int)) (hA : A.length ≤ 1000) (ha : ∀ x ∈ A, x.length ≤ 1048576) (r : List (List Int) × Bool)
  (hE : ∀ x y : List Int, x.length ≤ 1000 → Ev (fun k => spec_l8Same.f k x y) (decide (x = y))) :
  ∀ (d i : Nat) (kn : List (List Int)) (ag : Bool), A.length = i + d → kn.length = A.length → (∀ x ∈ kn, x.length ≤ 1000) →
  (∀ z, rowsPass A d i kn ag = some z → Ev (fun k => spec_PictureLines.l2 k z.1 z.2 0 A B) r) → (rowsPass A d i kn ag = none → r = ([], false)) →
  Ev (fun k => spec_PictureLines.l1 k kn ag i A B) r := by
 intro d
 induction d with
 | zero =>
  intro i kn ag hi hk hx hK hN
  refine Ev.step (fun k => by rw [spec_PictureLines.l1]) (Ev.ifn (by omega) ?_)
  exact hK (kn, ag) rfl
 | succ d ih =>
  intro i kn ag hi hk hx hK hN
  have hlt : i < A.length := by omega
  have hlk : i < kn.length := by omega
  have hw : wrap64 ((i : Int) + 1) = ((i + 1 : Nat) : Int) := by rw [w64 (by omega) (by omega)]; omega
  have e1 : A.getD i [] = A[i] := by rw [List.getD_eq_getElem?_getD, List.getElem?_eq_getElem hlt]; rfl
  have e2 : kn.getD i [] = kn[i] := by rw [List.getD_eq_getElem?_getD, List.getElem?_eq_getElem hlk]; rfl
  have b1 : (A.getD i []).length ≤ 1048576 := by rw [e1]; exact ha _ (List.getElem_mem hlt)
  have b2 : (kn.getD i []).length ≤ 1000 := by rw [e2]; exact hx _ (List.getElem_mem hlk)
  have hf := spec_forced (A.getD i []) (kn.getD i []) (by omega) (by omega)
  have hl := forcedV_len (A.getD i []) (kn.getD i [])
  refine Ev.step (fun k => by rw [spec_PictureLines.l1]) ?_
  rw [rdL_getD, rdL_getD, hw, Int.toNat_natCast]
  refine Ev.ifp (by omega) (Ev.ifp (by omega) (Ev.ifp (by omega) (Ev.bind hf ?_)))
  by_cases c : (forcedV (A.getD i []) (kn.getD i [])).2 = true
  ·refine Ev.ifp c ?_
   have hset : ∀ x ∈ kn.set i (forcedV (A.getD i []) (kn.getD i [])).1, x.length ≤ 1000 := by
    intro x hxm
    rcases List.mem_or_eq_of_mem_set hxm with h | h
    ·exact hx x h
    ·rw [h]; omega
   have R : rowsPass A (d + 1) i kn ag = rowsPass A d (i + 1) (kn.set i (forcedV (A.getD i []) (kn.getD i [])).1) (ag || decide ((forcedV (A.getD i []) (kn.getD i [])).1 ≠ kn.getD i [])) := by
    rw [rowsPass, if_pos c]
   rw [R] at hK hN
   cases ag with
   | true =>
    refine Ev.ifp rfl ?_
    exact ih (i + 1) _ true (by omega) (by simp [hk]) hset (by simpa using hK) (by simpa using hN)
   | false =>
    refine Ev.ifn (by decide) (Ev.bind (hE _ _ (by omega)) ?_)
    have e3 : (!decide ((forcedV (A.getD i []) (kn.getD i [])).1 = kn.getD i [])) = decide ((forcedV (A.getD i []) (kn.getD i [])).1 ≠ kn.getD i []) := by simp
    rw [e3]
    exact ih (i + 1) _ _ (by omega) (by simp [hk]) hset (by simpa using hK) (by simpa using hN)
  ·refine Ev.ifn c (Ev.eq (Ev.now _) ?_)
   exact (hN (by rw [rowsPass, if_neg c])).symm

theorem colP_len (kn : List (List Int)) (j : Nat) : (colP kn j).length = kn.length := by simp [colP]
theorem setCol_len (kn : List (List Int)) (j : Nat) (x : List Int) : (setCol kn j x).length = kn.length := by simp [setCol]
/-- The column, cell by cell, in the program. -/
theorem implCol (A B kn : List (List Int)) (ag : Bool) (j : Nat) (hk : kn.length ≤ 1000) (hj : ∀ x ∈ kn, j < x.length) (clue : List Int) (n : Int) (r : List (List Int) × Bool)
  (K : Ev (fun k => (impl_LineForced.f k clue (colP kn j)).bind fun bt => (if bt.2 = true then (impl_PictureLines.l6 k kn ag j B n j bt.1 (bt.1.length : Int) 0 A B) else (some (([] : List (List Int)), false)))) r) :
  ∀ (d i : Nat), kn.length = i + d → Ev (fun k => impl_PictureLines.l5 k kn ag j clue ((colP kn j).take i) B n j (kn.length : Int) i A B) r := by
 intro d
 induction d with
 | zero =>
  intro i hi
  refine Ev.step (fun k => by rw [impl_PictureLines.l5]) (Ev.ifn (by omega) ?_)
  rw [List.take_of_length_le (by rw [colP_len]; omega)]
  exact K
 | succ d ih =>
  intro i hi
  have hlk : i < kn.length := by omega
  have hw : wrap64 ((i : Int) + 1) = ((i + 1 : Nat) : Int) := by rw [w64 (by omega) (by omega)]; omega
  have e2 : rd_L1 kn (i : Int) = kn[i] := rdL_nat kn i hlk
  have hjl := hj _ (List.getElem_mem hlk)
  refine Ev.step (fun k => by rw [impl_PictureLines.l5]) ?_
  rw [e2, hw, rd_nat kn[i] j hjl]
  refine Ev.ifp (by omega) (Ev.ifp (by omega) (Ev.ifp (by omega) (Ev.ifp (by omega) (Ev.ifp (by omega) (Ev.ifp (by rw [List.length_take, colP_len]; omega) ?_)))))
  have h := ih (i + 1) (by omega)
  have hc : i < (colP kn j).length := by rw [colP_len]; exact hlk
  rw [List.take_succ_eq_append_getElem hc] at h
  have e3 : (colP kn j)[i] = kn[i][j] := by simp [colP, List.getD_eq_getElem?_getD, hjl]
  rw [e3] at h
  exact h
/-! What the passes keep: the form of the grid; what is known; a change fills a cell. -/
def cellP (kn : List (List Int)) (i j : Nat) : Int := (kn.getD i []).getD j 0
structure ShapeP (R C : Nat) (kn : List (List Int)) : Prop where
 len : kn.length = R
 row : ∀ x ∈ kn, x.length = C
 rng : ∀ x ∈ kn, ∀ v ∈ x, -1 ≤ v ∧ v ≤ 1
def KeepsP (R C : Nat) (kn kn' : List (List Int)) : Prop := ∀ i j, i < R → j < C → 0 ≤ cellP kn i j → cellP kn' i j = cellP kn i j
def FillsP (R C : Nat) (kn kn' : List (List Int)) : Prop := ∃ i j, i < R ∧ j < C ∧ cellP kn i j < 0 ∧ 0 ≤ cellP kn' i j
theorem getD_lt {α : Type} (l : List α) (i : Nat) (d : α) (h : i < l.length) : l.getD i d = l[i] := by
 rw [List.getD_eq_getElem?_getD, List.getElem?_eq_getElem h]; rfl
theorem KeepsP.refl (R C : Nat) (kn : List (List Int)) : KeepsP R C kn kn := fun _ _ _ _ _ => rfl
theorem KeepsP.trans {R C : Nat} {a b c : List (List Int)} (h : KeepsP R C a b) (h2 : KeepsP R C b c) : KeepsP R C a c := fun i j hi hj h0 => by
 have e := h i j hi hj h0
 rw [← e]; exact h2 i j hi hj (by rw [e]; exact h0)
theorem FillsP.left {R C : Nat} {a b c : List (List Int)} (h : FillsP R C a b) (h2 : KeepsP R C b c) : FillsP R C a c := by
 obtain ⟨i, j, hi, hj, h0, h1⟩ := h
 exact ⟨i, j, hi, hj, h0, by rw [h2 i j hi hj h1]; exact h1⟩
theorem FillsP.right {R C : Nat} {a b c : List (List Int)} (h : KeepsP R C a b) (h2 : FillsP R C b c) : FillsP R C a c := by
 obtain ⟨i, j, hi, hj, h0, h1⟩ := h2
 refine ⟨i, j, hi, hj, ?_, h1⟩
 by_cases c0 : cellP a i j < 0
 ·exact c0
 ·have := h i j hi hj (by omega); omega
theorem forced_facts {clue l : List Int} (h : (forcedV clue l).2 = true) : (forcedV clue l).1.length = l.length ∧ (∀ v ∈ (forcedV clue l).1, -1 ≤ v ∧ v ≤ 1) ∧ (∀ j, j < l.length → 0 ≤ l.getD j 0 → (forcedV clue l).1.getD j 0 = l.getD j 0) ∧ (∀ j, j < l.length → -1 ≤ l.getD j 0) := by
 unfold forcedV at h ⊢
 split at h
 case isFalse => cases h
 rename_i hv
 split at h
 case isTrue => cases h
 rename_i hne
 rw [if_pos hv, if_neg hne]
 refine ⟨by simp, fun v hv2 => ?_, fun j hj h0 => ?_, fun j hj => ?_⟩
 ·obtain ⟨j, _, rfl⟩ := List.mem_map.1 hv2
  exact cls_range _ j
 ·rw [getD_lt l j 0 hj] at h0 ⊢
  rw [getD_lt _ j 0 (by simpa using hj)]
  rw [List.getElem_map, List.getElem_range]
  exact cls_keeps hne j hj h0
 ·rw [getD_lt l j 0 hj]
  exact ((knownV_ok hv.1).2.2 _ (List.getElem_mem hj)).1
theorem forced_fill {clue l : List Int} (h : (forcedV clue l).2 = true) (hne : (forcedV clue l).1 ≠ l) : ∃ j, j < l.length ∧ l.getD j 0 < 0 ∧ 0 ≤ (forcedV clue l).1.getD j 0 := by
 obtain ⟨h1, h2, h3, h4⟩ := forced_facts h
 refine Classical.byContradiction fun hc => hne ?_
 apply List.ext_getElem h1
 intro j hj hj'
 have a1 := h3 j hj'
 have a2 := h4 j hj'
 have a3 := h2 _ (List.getElem_mem hj)
 rw [getD_lt l j 0 hj'] at a1 a2
 rw [getD_lt _ j 0 hj] at a1
 by_cases c : 0 ≤ l[j]
 ·exact a1 c
 ·have : ¬ 0 ≤ (forcedV clue l).1[j] := fun hx => hc ⟨j, hj', by rw [getD_lt l j 0 hj']; omega, by rw [getD_lt _ j 0 hj]; exact hx⟩
  omega
theorem cell_set (kn : List (List Int)) (i : Nat) (y : List Int) (hi : i < kn.length) (q j : Nat) : cellP (kn.set i y) q j = if q = i then y.getD j 0 else cellP kn q j := by
 unfold cellP
 by_cases c : q = i
 ·subst c; rw [if_pos rfl, getD_lt _ q [] (by simpa using hi), List.getElem_set_self]
 ·rw [if_neg c, List.getD_eq_getElem?_getD (l := kn.set i y), List.getElem?_set_ne (by omega), ← List.getD_eq_getElem?_getD]
theorem row_getD {R C : Nat} {kn : List (List Int)} (h : ShapeP R C kn) (i : Nat) (hi : i < R) : (kn.getD i []) ∈ kn ∧ (kn.getD i []).length = C := by
 have hl : i < kn.length := by rw [h.len]; exact hi
 rw [getD_lt kn i [] hl]
 exact ⟨List.getElem_mem hl, h.row _ (List.getElem_mem hl)⟩
theorem row_step {R C : Nat} {kn : List (List Int)} (h : ShapeP R C kn) (clue : List Int) (i : Nat) (hi : i < R) (hf : (forcedV clue (kn.getD i [])).2 = true) :
  ShapeP R C (kn.set i (forcedV clue (kn.getD i [])).1) ∧ KeepsP R C kn (kn.set i (forcedV clue (kn.getD i [])).1) ∧ ((forcedV clue (kn.getD i [])).1 ≠ kn.getD i [] → FillsP R C kn (kn.set i (forcedV clue (kn.getD i [])).1)) := by
 obtain ⟨h1, h2, h3, h4⟩ := forced_facts hf
 obtain ⟨r1, r2⟩ := row_getD h i hi
 have hl : i < kn.length := by rw [h.len]; exact hi
 refine ⟨⟨by rw [List.length_set]; exact h.len, fun x hx => ?_, fun x hx => ?_⟩, fun q j hq hj h0 => ?_, fun hne => ?_⟩
 ·rcases List.mem_or_eq_of_mem_set hx with hx | hx
  ·exact h.row x hx
  ·rw [hx, h1, r2]
 ·rcases List.mem_or_eq_of_mem_set hx with hx | hx
  ·exact h.rng x hx
  ·rw [hx]; exact h2
 ·rw [cell_set kn i _ hl]
  by_cases c : q = i
  ·subst c; rw [if_pos rfl]; exact h3 j (by rw [r2]; exact hj) h0
  ·rw [if_neg c]
 ·obtain ⟨j, hj, h0, hx⟩ := forced_fill hf hne
  refine ⟨i, j, hi, by rw [← r2]; exact hj, h0, ?_⟩
  rw [cell_set kn i _ hl, if_pos rfl]; exact hx
theorem colP_get (kn : List (List Int)) (j i : Nat) (hi : i < kn.length) : (colP kn j).getD i 0 = cellP kn i j := by
 unfold colP cellP
 rw [getD_lt _ i 0 (by simpa using hi), getD_lt kn i [] hi, List.getElem_map]
theorem cell_setCol {R C : Nat} {kn : List (List Int)} (h : ShapeP R C kn) (j : Nat) (x : List Int) (i q : Nat) (hi : i < R) (hj : j < C) : cellP (setCol kn j x) i q = if q = j then x.getD i 0 else cellP kn i q := by
 obtain ⟨r1, r2⟩ := row_getD h i hi
 have hl : i < kn.length := by rw [h.len]; exact hi
 unfold setCol
 show (((List.range kn.length).map fun i => (kn.getD i []).set j (x.getD i 0)).getD i []).getD q 0 = _
 rw [getD_lt _ i [] (by simpa using hl), List.getElem_map, List.getElem_range]
 by_cases c : q = j
 ·subst c; rw [if_pos rfl, getD_lt _ q 0 (by rw [List.length_set, r2]; exact hj), List.getElem_set_self]
 ·rw [if_neg c]; unfold cellP
  rw [List.getD_eq_getElem?_getD, List.getElem?_set_ne (by omega), ← List.getD_eq_getElem?_getD]
theorem col_step {R C : Nat} {kn : List (List Int)} (h : ShapeP R C kn) (clue : List Int) (j : Nat) (hj : j < C) (hf : (forcedV clue (colP kn j)).2 = true) :
  ShapeP R C (setCol kn j (forcedV clue (colP kn j)).1) ∧ KeepsP R C kn (setCol kn j (forcedV clue (colP kn j)).1) ∧ ((forcedV clue (colP kn j)).1 ≠ colP kn j → FillsP R C kn (setCol kn j (forcedV clue (colP kn j)).1)) := by
 obtain ⟨h1, h2, h3, h4⟩ := forced_facts hf
 have cl : (colP kn j).length = R := by rw [colP_len, h.len]
 have hc : ∀ i, i < R → (colP kn j).getD i 0 = cellP kn i j := fun i hi => colP_get kn j i (by rw [h.len]; exact hi)
 have hmem : ∀ x ∈ setCol kn j (forcedV clue (colP kn j)).1, ∃ i, i < R ∧ x = (kn.getD i []).set j ((forcedV clue (colP kn j)).1.getD i 0) := by
  intro x hx
  unfold setCol at hx
  obtain ⟨i, hi, rfl⟩ := List.mem_map.1 hx
  exact ⟨i, by rw [← h.len]; exact List.mem_range.1 hi, rfl⟩
 refine ⟨⟨by rw [setCol_len]; exact h.len, fun x hx => ?_, fun x hx v hv => ?_⟩, fun q i hq hi h0 => ?_, fun hne => ?_⟩
 ·obtain ⟨i, hi, rfl⟩ := hmem x hx
  rw [List.length_set]; exact (row_getD h i hi).2
 ·obtain ⟨i, hi, rfl⟩ := hmem x hx
  rcases List.mem_or_eq_of_mem_set hv with hv | hv
  ·exact h.rng _ (row_getD h i hi).1 v hv
  ·rw [hv, getD_lt _ i 0 (by omega)]
   exact h2 _ (List.getElem_mem _)
 ·rw [cell_setCol h j _ q i hq hj]
  by_cases c : i = j
  ·subst c; rw [if_pos rfl, h3 q (by omega) (by rw [hc q hq]; exact h0), hc q hq]
  ·rw [if_neg c]
 ·obtain ⟨i, hi, h0, hx⟩ := forced_fill hf hne
  have hi' : i < R := by omega
  refine ⟨i, j, hi', hj, by rw [← hc i hi']; exact h0, ?_⟩
  rw [cell_setCol h j _ i j hi' hj, if_pos rfl]; exact hx
/-- The pass over the rows. -/
theorem rows_keep (A : List (List Int)) (C : Nat) : ∀ (d i : Nat) (kn : List (List Int)) (ag : Bool) (z : List (List Int) × Bool), A.length = i + d → ShapeP A.length C kn → rowsPass A d i kn ag = some z →
  ShapeP A.length C z.1 ∧ KeepsP A.length C kn z.1 ∧ (z.2 = true → ag = true ∨ FillsP A.length C kn z.1) := by
 intro d
 induction d with
 | zero => intro i kn ag z hi hs h; obtain rfl := Option.some.inj h; exact ⟨hs, KeepsP.refl _ _ _, fun e => .inl e⟩
 | succ d ih =>
  intro i kn ag z hi hs h
  rw [rowsPass] at h
  split at h
  case isFalse => cases h
  rename_i hf
  obtain ⟨a1, a2, a3⟩ := row_step hs (A.getD i []) i (by omega) hf
  obtain ⟨b1, b2, b3⟩ := ih (i + 1) _ _ z (by omega) a1 h
  refine ⟨b1, a2.trans b2, fun e => ?_⟩
  rcases b3 e with h1 | h1
  ·rw [Bool.or_eq_true, decide_eq_true_eq] at h1
   rcases h1 with h1 | h1
   ·exact .inl h1
   ·exact .inr ((a3 h1).left b2)
  ·exact .inr (FillsP.right a2 h1)
theorem cols_keep (B : List (List Int)) (R : Nat) : ∀ (d j : Nat) (kn : List (List Int)) (ag : Bool) (z : List (List Int) × Bool), B.length = j + d → ShapeP R B.length kn → colsPass B d j kn ag = some z →
  ShapeP R B.length z.1 ∧ KeepsP R B.length kn z.1 ∧ (z.2 = true → ag = true ∨ FillsP R B.length kn z.1) := by
 intro d
 induction d with
 | zero => intro j kn ag z hj hs h; obtain rfl := Option.some.inj h; exact ⟨hs, KeepsP.refl _ _ _, fun e => .inl e⟩
 | succ d ih =>
  intro j kn ag z hj hs h
  rw [colsPass] at h
  split at h
  case isFalse => cases h
  rename_i hf
  obtain ⟨a1, a2, a3⟩ := col_step hs (B.getD j []) j (by omega) hf
  obtain ⟨b1, b2, b3⟩ := ih (j + 1) _ _ z (by omega) a1 h
  refine ⟨b1, a2.trans b2, fun e => ?_⟩
  rcases b3 e with h1 | h1
  ·rw [Bool.or_eq_true, decide_eq_true_eq] at h1
   rcases h1 with h1 | h1
   ·exact .inl h1
   ·exact .inr ((a3 h1).left b2)
  ·exact .inr (FillsP.right a2 h1)
theorem round_keep (A B : List (List Int)) (kn : List (List Int)) (z : List (List Int) × Bool) (hs : ShapeP A.length B.length kn) (h : roundPass A B kn = some z) :
  ShapeP A.length B.length z.1 ∧ KeepsP A.length B.length kn z.1 ∧ (z.2 = true → FillsP A.length B.length kn z.1) := by
 obtain ⟨y, hy, hz⟩ := Option.bind_eq_some_iff.mp h
 obtain ⟨a1, a2, a3⟩ := rows_keep A B.length A.length 0 kn false y (by omega) hs hy
 obtain ⟨b1, b2, b3⟩ := cols_keep B A.length B.length 0 y.1 y.2 z (by omega) a1 hz
 refine ⟨b1, a2.trans b2, fun e => ?_⟩
 rcases b3 e with h1 | h1
 ·rcases a3 h1 with h2 | h2
  ·cases h2
  ·exact h2.left b2
 ·exact FillsP.right a2 h1
/-- The cells that are not known. -/
def unkP (R C : Nat) (kn : List (List Int)) : Nat := ((List.range R).flatMap fun i => (List.range C).map fun j => (i, j)).countP fun p => decide (cellP kn p.1 p.2 < 0)
theorem countP_lt {α : Type} (p q : α → Bool) : ∀ (l : List α), (∀ x ∈ l, q x = true → p x = true) → (∃ x ∈ l, p x = true ∧ q x = false) → l.countP q < l.countP p := by
 intro l
 induction l with
 | nil => intro _ h; obtain ⟨x, hx, _⟩ := h; cases hx
 | cons a l ih =>
  intro h1 h2
  have hm : l.countP q ≤ l.countP p := List.countP_mono_left (fun x hx => h1 x (by simp [hx]))
  rw [List.countP_cons, List.countP_cons]
  obtain ⟨x, hx, hp, hq⟩ := h2
  have ha := h1 a (by simp)
  rcases List.mem_cons.1 hx with rfl | hx
  ·rw [hp, hq]; simp; omega
  ·have := ih (fun x hx => h1 x (by simp [hx])) ⟨x, hx, hp, hq⟩
   cases hqa : q a
   ·cases hpa : p a <;> simp <;> omega
   ·rw [ha hqa]; simp; omega
theorem unk_lt {R C : Nat} {a b : List (List Int)} (h : KeepsP R C a b) (h2 : FillsP R C a b) : unkP R C b < unkP R C a := by
 have hm : ∀ p : Nat × Nat, p ∈ ((List.range R).flatMap fun i => (List.range C).map fun j => (i, j)) ↔ p.1 < R ∧ p.2 < C := by
  intro p
  simp only [List.mem_flatMap, List.mem_map, List.mem_range]
  constructor
  ·rintro ⟨i, hi, j, hj, rfl⟩; exact ⟨hi, hj⟩
  ·rintro ⟨h1, h2⟩; exact ⟨p.1, h1, p.2, h2, rfl⟩
 apply countP_lt
 ·intro p hp hq
  rw [decide_eq_true_eq] at hq ⊢
  obtain ⟨h3, h4⟩ := (hm p).1 hp
  by_cases c : cellP a p.1 p.2 < 0
  ·exact c
  ·have := h p.1 p.2 h3 h4 (by omega); omega
 ·obtain ⟨i, j, hi, hj, h3, h4⟩ := h2
  exact ⟨(i, j), (hm _).2 ⟨hi, hj⟩, decide_eq_true h3, decide_eq_false (by show ¬ cellP b i j < 0; omega)⟩
theorem unk_le (R C : Nat) (kn : List (List Int)) : unkP R C kn ≤ R * C := by
 refine Nat.le_trans List.countP_le_length ?_
 rw [List.length_flatMap]
 simp [List.map_const', List.sum_replicate_nat]
/-! PictureLines of both: rounds. -/
theorem specCol (A B kn : List (List Int)) (ag : Bool) (j : Nat) (hB : j < B.length) (hk : kn.length ≤ 1000) (hj : ∀ x ∈ kn, j < x.length) (r : List (List Int) × Bool)
  (K : Ev (fun k => (spec_LineForced.f k (B.getD j []) (colP kn j)).bind fun bt => (if bt.2 = true then (if ag = true then (spec_PictureLines.j4 k kn true j bt.1 A B) else ((spec_l8Same.f k bt.1 (colP kn j)).bind fun t => (spec_PictureLines.j4 k kn (!t) j bt.1 A B))) else (some (([] : List (List Int)), false)))) r) :
  ∀ (d i : Nat), kn.length = i + d → Ev (fun k => spec_PictureLines.l3 k kn ag j ((colP kn j).take i) i A B) r := by
 intro d
 induction d with
 | zero =>
  intro i hi
  refine Ev.step (fun k => by rw [spec_PictureLines.l3, rdL_getD]) (Ev.ifn (by omega) (Ev.ifp (by omega) (Ev.ifp (by omega) ?_)))
  rw [List.take_of_length_le (by rw [colP_len]; omega)]
  exact K
 | succ d ih =>
  intro i hi
  have hlk : i < kn.length := by omega
  have hw : wrap64 ((i : Int) + 1) = ((i + 1 : Nat) : Int) := by rw [w64 (by omega) (by omega)]; omega
  have e2 : rd_L1 kn (i : Int) = kn[i] := rdL_nat kn i hlk
  have hjl := hj _ (List.getElem_mem hlk)
  refine Ev.step (fun k => by rw [spec_PictureLines.l3]) ?_
  rw [e2, hw, rd_nat kn[i] j hjl]
  refine Ev.ifp (by omega) (Ev.ifp (by omega) (Ev.ifp (by omega) (Ev.ifp (by omega) (Ev.ifp (by rw [List.length_take, colP_len]; omega) ?_))))
  have h := ih (i + 1) (by omega)
  have hc : i < (colP kn j).length := by rw [colP_len]; exact hlk
  rw [List.take_succ_eq_append_getElem hc] at h
  have e3 : (colP kn j)[i] = kn[i][j] := by simp [colP, List.getD_eq_getElem?_getD, hjl]
  rw [e3] at h
  exact h
/-- The column's first cells are stored. -/
def putCol (kn : List (List Int)) (j : Nat) (x : List Int) (i : Nat) : List (List Int) := (List.range kn.length).map fun q => if q < i then (kn.getD q []).set j (x.getD q 0) else kn.getD q []
theorem putCol_len (kn : List (List Int)) (j : Nat) (x : List Int) (i : Nat) : (putCol kn j x i).length = kn.length := by simp [putCol]
theorem putCol_zero (kn : List (List Int)) (j : Nat) (x : List Int) : putCol kn j x 0 = kn := by
 apply List.ext_getElem (putCol_len _ _ _ _)
 intro q h1 h2
 simp only [putCol, List.getElem_map, List.getElem_range]
 rw [if_neg (by omega), getD_lt kn q [] h2]
theorem putCol_full (kn : List (List Int)) (j : Nat) (x : List Int) : putCol kn j x kn.length = setCol kn j x := by
 unfold putCol setCol
 apply List.map_congr_left
 intro q hq
 rw [if_pos (List.mem_range.1 hq)]
theorem putCol_get (kn : List (List Int)) (j : Nat) (x : List Int) (i q : Nat) (hq : q < kn.length) : (putCol kn j x i)[q]'(by rw [putCol_len]; exact hq) = if q < i then kn[q].set j (x.getD q 0) else kn[q] := by
 simp only [putCol, List.getElem_map, List.getElem_range]
 rw [getD_lt kn q [] hq]
theorem putCol_step (kn : List (List Int)) (j : Nat) (x : List Int) (i : Nat) (hi : i < kn.length) : (putCol kn j x i).set i (kn[i].set j (x.getD i 0)) = putCol kn j x (i + 1) := by
 apply List.ext_getElem (by rw [List.length_set, putCol_len, putCol_len])
 intro q h1 h2
 have hq : q < kn.length := by rw [putCol_len] at h2; exact h2
 rw [putCol_get kn j x (i + 1) q hq]
 by_cases c : q = i
 ·subst c; rw [List.getElem_set_self, if_pos (by omega)]
 ·rw [List.getElem_set_ne (by omega), putCol_get kn j x i q hq]
  by_cases c2 : q < i
  ·rw [if_pos c2, if_pos (by omega)]
  ·rw [if_neg c2, if_neg (by omega)]
theorem specStore (A B kn : List (List Int)) (ag : Bool) (j : Nat) (hk : kn.length ≤ 1000) (hj : ∀ x ∈ kn, j < x.length) (x : List Int) (hx : x.length = kn.length) (r : List (List Int) × Bool)
  (K : Ev (fun k => spec_PictureLines.l2 k (setCol kn j x) ag (wrap64 ((j : Int) + 1)) A B) r) :
  ∀ (d i : Nat), kn.length = i + d → Ev (fun k => spec_PictureLines.l4 k (putCol kn j x i) ag j x i A B) r := by
 intro d
 induction d with
 | zero =>
  intro i hi
  refine Ev.step (fun k => by rw [spec_PictureLines.l4]) (Ev.ifn (by rw [putCol_len]; omega) ?_)
  have e : i = kn.length := by omega
  subst e
  rw [putCol_full]
  exact K
 | succ d ih =>
  intro i hi
  have hlk : i < kn.length := by omega
  have hw : wrap64 ((i : Int) + 1) = ((i + 1 : Nat) : Int) := by rw [w64 (by omega) (by omega)]; omega
  have e2 : rd_L1 (putCol kn j x i) (i : Int) = kn[i] := by
   rw [rdL_nat _ i (by rw [putCol_len]; exact hlk), putCol_get kn j x i i hlk, if_neg (by omega)]
  have hjl := hj _ (List.getElem_mem hlk)
  have hxl : i < x.length := by omega
  refine Ev.step (fun k => by rw [spec_PictureLines.l4]) ?_
  rw [e2, hw, rd_nat x i hxl, Int.toNat_natCast, Int.toNat_natCast, putCol_len]
  refine Ev.ifp (by omega) (Ev.ifp (by omega) (Ev.ifp (by omega) (Ev.ifp (by omega) (Ev.ifp (by omega) ?_))))
  have h := ih (i + 1) (by omega)
  rw [← putCol_step kn j x i hlk, getD_lt x i 0 hxl] at h
  exact h
theorem implStore (A B kn : List (List Int)) (ag : Bool) (j : Nat) (n : Int) (hk : kn.length ≤ 1000) (hj : ∀ x ∈ kn, j < x.length) (x : List Int) (hx : x.length = kn.length) (r : List (List Int) × Bool)
  (K : Ev (fun k => impl_PictureLines.l4 k (setCol kn j x) (ag || decide (x ≠ colP kn j)) B n (wrap64 ((j : Int) + 1)) A B) r) :
  ∀ (d i : Nat), kn.length = i + d → Ev (fun k => impl_PictureLines.l6 k (putCol kn j x i) (ag || decide (x.take i ≠ (colP kn j).take i)) j B n j x (x.length : Int) i A B) r := by
 intro d
 induction d with
 | zero =>
  intro i hi
  refine Ev.step (fun k => by rw [impl_PictureLines.l6]) (Ev.ifn (by omega) ?_)
  have e : i = kn.length := by omega
  subst e
  rw [putCol_full, List.take_of_length_le (by omega), List.take_of_length_le (by rw [colP_len]; omega)]
  exact K
 | succ d ih =>
  intro i hi
  have hlk : i < kn.length := by omega
  have hw : wrap64 ((i : Int) + 1) = ((i + 1 : Nat) : Int) := by rw [w64 (by omega) (by omega)]; omega
  have e2 : rd_L1 (putCol kn j x i) (i : Int) = kn[i] := by
   rw [rdL_nat _ i (by rw [putCol_len]; exact hlk), putCol_get kn j x i i hlk, if_neg (by omega)]
  have hjl := hj _ (List.getElem_mem hlk)
  have hxl : i < x.length := by omega
  have hcl : i < (colP kn j).length := by rw [colP_len]; exact hlk
  have e3 : (colP kn j)[i] = kn[i][j] := by simp [colP, List.getD_eq_getElem?_getD, hjl]
  have h := ih (i + 1) (by omega)
  rw [← putCol_step kn j x i hlk, getD_lt x i 0 hxl] at h
  have hag : (ag || decide (x.take (i + 1) ≠ (colP kn j).take (i + 1))) = ((ag || decide (x.take i ≠ (colP kn j).take i)) || (kn[i][j] != x[i])) := by
   rw [List.take_succ_eq_append_getElem hxl, List.take_succ_eq_append_getElem hcl, e3, Bool.or_assoc]
   congr 1
   rw [Bool.eq_iff_iff]
   simp only [decide_eq_true_eq, Bool.or_eq_true, bne_iff_ne, ne_eq]
   constructor
   ·intro hne
    by_cases c1 : x.take i = (colP kn j).take i
    ·right; intro e; exact hne (by rw [c1, e])
    ·exact .inl c1
   ·intro ho he
    obtain ⟨p1, p2⟩ := List.append_inj he (by rw [List.length_take, List.length_take, colP_len]; omega)
    rcases ho with ho | ho
    ·exact ho p1
    ·exact ho (by simpa using p2.symm)
  rw [hag] at h
  refine Ev.step (fun k => by rw [impl_PictureLines.l6]) ?_
  rw [e2, hw, rd_nat x i hxl, rd_nat kn[i] j hjl, Int.toNat_natCast, Int.toNat_natCast, putCol_len]
  cases hb : (ag || decide (x.take i ≠ (colP kn j).take i)) with
  | true =>
   rw [hb, Bool.true_or] at h
   exact Ev.ifp (by omega) (Ev.ifp (by omega) (Ev.ifp (by omega) (Ev.ifp rfl (Ev.ifp (by omega) (Ev.ifp (by omega) (Ev.ifp (by omega) h))))))
  | false =>
   rw [hb, Bool.false_or] at h
   exact Ev.ifp (by omega) (Ev.ifp (by omega) (Ev.ifp (by omega) (Ev.ifn (by decide) (Ev.ifp (by omega) (Ev.ifp (by omega) (Ev.ifp (by omega) h))))))
/-- The columns' pass of the program. -/
theorem implCols (A B : List (List Int)) (hA : A.length ≤ 1000) (hB : B.length ≤ 1000) (hb : ∀ x ∈ B, x.length ≤ 1048576) (r : List (List Int) × Bool) :
  ∀ (d j : Nat) (kn : List (List Int)) (ag : Bool), B.length = j + d → ShapeP A.length B.length kn →
  (∀ z, colsPass B d j kn ag = some z → Ev (fun k => impl_PictureLines.l2 k z.1 z.2 A B) r) → (colsPass B d j kn ag = none → r = ([], false)) →
  Ev (fun k => impl_PictureLines.l4 k kn ag B (B.length : Int) j A B) r := by
 intro d
 induction d with
 | zero =>
  intro j kn ag hj hs hK hN
  refine Ev.step (fun k => by rw [impl_PictureLines.l4]) (Ev.ifn (by omega) ?_)
  exact hK (kn, ag) rfl
 | succ d ih =>
  intro j kn ag hj hs hK hN
  have hlt : j < B.length := by omega
  have hw : wrap64 ((j : Int) + 1) = ((j + 1 : Nat) : Int) := by rw [w64 (by omega) (by omega)]; omega
  have b1 : (B.getD j []).length ≤ 1048576 := by rw [getD_lt B j [] hlt]; exact hb _ (List.getElem_mem hlt)
  have kl := hs.len
  have cl := colP_len kn j
  have hf := impl_forced (B.getD j []) (colP kn j) (by omega) (by omega)
  have hjx : ∀ x ∈ kn, j < x.length := fun x hx => by rw [hs.row x hx]; exact hlt
  refine Ev.step (fun k => by rw [impl_PictureLines.l4, rdL_getD]) (Ev.ifp (by omega) (Ev.ifp (by omega) (Ev.ifp (by omega) ?_)))
  refine implCol A B kn ag j (by omega) hjx (B.getD j []) (B.length : Int) r (Ev.bind hf ?_) kn.length 0 (by omega)
  by_cases c : (forcedV (B.getD j []) (colP kn j)).2 = true
  ·refine Ev.ifp c ?_
   obtain ⟨a1, a2, a3⟩ := col_step hs (B.getD j []) j hlt c
   obtain ⟨f1, _⟩ := forced_facts c
   have R : colsPass B (d + 1) j kn ag = colsPass B d (j + 1) (setCol kn j (forcedV (B.getD j []) (colP kn j)).1) (ag || decide ((forcedV (B.getD j []) (colP kn j)).1 ≠ colP kn j)) := by
    rw [colsPass, if_pos c]
   rw [R] at hK hN
   have h := implStore A B kn ag j (B.length : Int) (by omega) hjx (forcedV (B.getD j []) (colP kn j)).1 (by omega) r (by rw [hw]; exact ih (j + 1) _ _ (by omega) a1 hK hN) kn.length 0 (by omega)
   rw [putCol_zero, List.take_zero, List.take_zero] at h
   simpa using h
  ·refine Ev.ifn c (Ev.eq (Ev.now _) ?_)
   exact (hN (by rw [colsPass, if_neg c])).symm
/-- The columns' pass of the reference. -/
theorem specCols (A B : List (List Int)) (hA : A.length ≤ 1000) (hB : B.length ≤ 1000) (hb : ∀ x ∈ B, x.length ≤ 1048576) (r : List (List Int) × Bool) :
  ∀ (d j : Nat) (kn : List (List Int)) (ag : Bool), B.length = j + d → ShapeP A.length B.length kn →
  (∀ z, colsPass B d j kn ag = some z → Ev (fun k => spec_PictureLines.l0 k z.1 z.2 A B) r) → (colsPass B d j kn ag = none → r = ([], false)) →
  Ev (fun k => spec_PictureLines.l2 k kn ag j A B) r := by
 intro d
 induction d with
 | zero =>
  intro j kn ag hj hs hK hN
  refine Ev.step (fun k => by rw [spec_PictureLines.l2]) (Ev.ifn (by omega) ?_)
  exact hK (kn, ag) rfl
 | succ d ih =>
  intro j kn ag hj hs hK hN
  have hlt : j < B.length := by omega
  have hw : wrap64 ((j : Int) + 1) = ((j + 1 : Nat) : Int) := by rw [w64 (by omega) (by omega)]; omega
  have b1 : (B.getD j []).length ≤ 1048576 := by rw [getD_lt B j [] hlt]; exact hb _ (List.getElem_mem hlt)
  have kl := hs.len
  have cl := colP_len kn j
  have hf := spec_forced (B.getD j []) (colP kn j) (by omega) (by omega)
  have hjx : ∀ x ∈ kn, j < x.length := fun x hx => by rw [hs.row x hx]; exact hlt
  refine Ev.step (fun k => by rw [spec_PictureLines.l2]) (Ev.ifp (by omega) ?_)
  refine specCol A B kn ag j hlt (by omega) hjx r (Ev.bind hf ?_) kn.length 0 (by omega)
  by_cases c : (forcedV (B.getD j []) (colP kn j)).2 = true
  ·refine Ev.ifp c ?_
   obtain ⟨a1, a2, a3⟩ := col_step hs (B.getD j []) j hlt c
   obtain ⟨f1, _⟩ := forced_facts c
   have R : colsPass B (d + 1) j kn ag = colsPass B d (j + 1) (setCol kn j (forcedV (B.getD j []) (colP kn j)).1) (ag || decide ((forcedV (B.getD j []) (colP kn j)).1 ≠ colP kn j)) := by
    rw [colsPass, if_pos c]
   rw [R] at hK hN
   have h := fun ag2 hh => specStore A B kn ag2 j (by omega) hjx (forcedV (B.getD j []) (colP kn j)).1 (by omega) r hh kn.length 0 (by omega)
   rw [putCol_zero, hw] at h
   cases ag with
   | true =>
    refine Ev.ifp rfl (Ev.step (fun k => by rw [spec_PictureLines.j4]; rfl) (h true ?_))
    exact ih (j + 1) _ true (by omega) a1 (by simpa using hK) (by simpa using hN)
   | false =>
    refine Ev.ifn (by decide) (Ev.bind (l8Same_ev _ _ (by omega)) (Ev.step (fun k => by rw [spec_PictureLines.j4]; rfl) (h _ ?_)))
    have e3 : (!decide ((forcedV (B.getD j []) (colP kn j)).1 = colP kn j)) = decide ((forcedV (B.getD j []) (colP kn j)).1 ≠ colP kn j) := by simp
    rw [e3]
    exact ih (j + 1) _ _ (by omega) a1 (by simpa using hK) (by simpa using hN)
  ·refine Ev.ifn c (Ev.eq (Ev.now _) ?_)
   exact (hN (by rw [colsPass, if_neg c])).symm
theorem implRounds (A B : List (List Int)) (hA : A.length ≤ 1000) (hB : B.length ≤ 1000) (ha : ∀ x ∈ A, x.length ≤ 1048576) (hb : ∀ x ∈ B, x.length ≤ 1048576) :
  ∀ (n : Nat) (kn : List (List Int)), ShapeP A.length B.length kn → unkP A.length B.length kn < n → Ev (fun k => impl_PictureLines.l2 k kn true A B) (linesP A B n kn) := by
 intro n
 induction n with
 | zero => intro kn _ h; omega
 | succ n ih =>
  intro kn hs hu
  have hx : ∀ x ∈ kn, x.length ≤ 1000 := fun x hx => by rw [hs.row x hx]; omega
  refine Ev.step (fun k => by rw [impl_PictureLines.l2]) (Ev.ifp rfl ?_)
  refine implRows A B hA ha _ (fun x y h => equal_ev x y (by omega)) A.length 0 kn false (by omega) hs.len hx (fun y hy => ?_) (fun hn => ?_)
  ·obtain ⟨s1, _, _⟩ := rows_keep A B.length A.length 0 kn false y (by omega) hs hy
   refine implCols A B hA hB hb _ B.length 0 y.1 y.2 (by omega) s1 (fun z hz => ?_) (fun hn => ?_)
   ·have hr : roundPass A B kn = some z := by rw [roundPass, hy]; exact hz
    obtain ⟨t1, t2, t3⟩ := round_keep A B kn z hs hr
    rw [linesP, hr]
    by_cases c : z.2 = true
    ·have := unk_lt t2 (t3 c)
     rw [c]
     have h := ih z.1 t1 (by omega)
     simpa [c] using h
    ·have c' : z.2 = false := by simpa using c
     rw [c']
     refine Ev.step (fun k => by rw [impl_PictureLines.l2]) (Ev.ifn (by decide) (Ev.eq (Ev.now _) ?_))
     simp [c']
   ·have hr : roundPass A B kn = none := by rw [roundPass, hy]; exact hn
    rw [linesP, hr]
  ·have hr : roundPass A B kn = none := by rw [roundPass, hn]; rfl
   rw [linesP, hr]
theorem specRounds (A B : List (List Int)) (hA : A.length ≤ 1000) (hB : B.length ≤ 1000) (ha : ∀ x ∈ A, x.length ≤ 1048576) (hb : ∀ x ∈ B, x.length ≤ 1048576) :
  ∀ (n : Nat) (kn : List (List Int)), ShapeP A.length B.length kn → unkP A.length B.length kn < n → Ev (fun k => spec_PictureLines.l0 k kn true A B) (linesP A B n kn) := by
 intro n
 induction n with
 | zero => intro kn _ h; omega
 | succ n ih =>
  intro kn hs hu
  have hx : ∀ x ∈ kn, x.length ≤ 1000 := fun x hx => by rw [hs.row x hx]; omega
  refine Ev.step (fun k => by rw [spec_PictureLines.l0]) (Ev.ifp rfl ?_)
  refine specRows A B hA ha _ (fun x y h => l8Same_ev x y (by omega)) A.length 0 kn false (by omega) hs.len hx (fun y hy => ?_) (fun hn => ?_)
  ·obtain ⟨s1, _, _⟩ := rows_keep A B.length A.length 0 kn false y (by omega) hs hy
   refine specCols A B hA hB hb _ B.length 0 y.1 y.2 (by omega) s1 (fun z hz => ?_) (fun hn => ?_)
   ·have hr : roundPass A B kn = some z := by rw [roundPass, hy]; exact hz
    obtain ⟨t1, t2, t3⟩ := round_keep A B kn z hs hr
    rw [linesP, hr]
    by_cases c : z.2 = true
    ·have := unk_lt t2 (t3 c)
     rw [c]
     have h := ih z.1 t1 (by omega)
     simpa [c] using h
    ·have c' : z.2 = false := by simpa using c
     rw [c']
     refine Ev.step (fun k => by rw [spec_PictureLines.l0]) (Ev.ifn (by decide) (Ev.eq (Ev.now _) ?_))
     simp [c']
   ·have hr : roundPass A B kn = none := by rw [roundPass, hy]; exact hn
    rw [linesP, hr]
  ·have hr : roundPass A B kn = none := by rw [roundPass, hn]; rfl
   rw [linesP, hr]
/-! PictureLines of both: the whole. -/
theorem picV_len {A B : List (List Int)} (h : picV A B = true) : 1 ≤ A.length ∧ A.length ≤ 5 ∧ 1 ≤ B.length ∧ B.length ≤ 5 := by
 unfold picV at h
 simp only [Bool.and_eq_true, decide_eq_true_eq] at h
 omega
def blankP (R C : Nat) : List (List Int) := List.replicate R (List.replicate C (-1))
theorem blank_shape (R C : Nat) : ShapeP R C (blankP R C) := by
 refine ⟨by simp [blankP], fun x hx => ?_, fun x hx v hv => ?_⟩
 ·rw [List.eq_of_mem_replicate hx]; simp
 ·rw [List.eq_of_mem_replicate hx] at hv
  rw [List.eq_of_mem_replicate hv]; omega
def linesV (A B : List (List Int)) : List (List Int) × Bool := if picV A B = true then linesP A B (A.length * B.length + 1) (blankP A.length B.length) else ([], false)
theorem rep_snoc {α : Type} (n : Nat) (x : α) : List.replicate n x ++ [x] = List.replicate (n + 1) x := by rw [List.replicate_succ']
theorem impl_line_blank (A B kn : List (List Int)) (n i0 : Int) (hB : B.length ≤ 1000) (hk : kn.length ≤ 1000) (r : List (List Int) × Bool)
  (K : Ev (fun k => impl_PictureLines.l0 k (kn ++ [List.replicate B.length (-1)]) n (wrap64 (i0 + 1)) A B) r) : ∀ (d i : Nat), B.length = i + d →
  Ev (fun k => impl_PictureLines.l1 k kn (List.replicate i (-1)) n i0 (B.length : Int) i A B) r := by
 intro d
 induction d with
 | zero =>
  intro i hi
  refine Ev.step (fun k => by rw [impl_PictureLines.l1]) (Ev.ifn (by omega) (Ev.ifp (by omega) ?_))
  have e : i = B.length := by omega
  subst e
  exact K
 | succ d ih =>
  intro i hi
  have hw : wrap64 ((i : Int) + 1) = ((i + 1 : Nat) : Int) := by rw [w64 (by omega) (by omega)]; omega
  refine Ev.step (fun k => by rw [impl_PictureLines.l1, hw, rep_snoc]) (Ev.ifp (by omega) (Ev.ifp (by rw [List.length_replicate]; omega) (ih (i + 1) (by omega))))
theorem impl_blank (A B : List (List Int)) (hA : A.length ≤ 1000) (hB : B.length ≤ 1000) (r : List (List Int) × Bool)
  (K : Ev (fun k => impl_PictureLines.l2 k (blankP A.length B.length) true A B) r) : ∀ (d i : Nat), A.length = i + d →
  Ev (fun k => impl_PictureLines.l0 k (blankP i B.length) (A.length : Int) i A B) r := by
 intro d
 induction d with
 | zero =>
  intro i hi
  refine Ev.step (fun k => by rw [impl_PictureLines.l0]) (Ev.ifn (by omega) ?_)
  have e : i = A.length := by omega
  rw [e]
  exact K
 | succ d ih =>
  intro i hi
  have hw : wrap64 ((i : Int) + 1) = ((i + 1 : Nat) : Int) := by rw [w64 (by omega) (by omega)]; omega
  have h := ih (i + 1) (by omega)
  unfold blankP at h
  rw [← rep_snoc, ← hw] at h
  refine Ev.step (fun k => by rw [impl_PictureLines.l0]) (Ev.ifp (by omega) ?_)
  exact impl_line_blank A B (blankP i B.length) (A.length : Int) i hB (by simp [blankP]; omega) r h B.length 0 (by omega)
theorem spec_line_blank (A B kn : List (List Int)) (i0 : Int) (hB : B.length ≤ 1000) (hk : kn.length ≤ 1000) (r : List (List Int))
  (K : Ev (fun k => spec_l13Blank.l0 k (kn ++ [List.replicate B.length (-1)]) (wrap64 (i0 + 1)) A B) r) : ∀ (d i : Nat), B.length = i + d →
  Ev (fun k => spec_l13Blank.l1 k kn i0 (List.replicate i (-1)) i A B) r := by
 intro d
 induction d with
 | zero =>
  intro i hi
  refine Ev.step (fun k => by rw [spec_l13Blank.l1]) (Ev.ifn (by omega) (Ev.ifp (by omega) ?_))
  have e : i = B.length := by omega
  subst e
  exact K
 | succ d ih =>
  intro i hi
  have hw : wrap64 ((i : Int) + 1) = ((i + 1 : Nat) : Int) := by rw [w64 (by omega) (by omega)]; omega
  refine Ev.step (fun k => by rw [spec_l13Blank.l1, hw, rep_snoc]) (Ev.ifp (by omega) (Ev.ifp (by rw [List.length_replicate]; omega) (ih (i + 1) (by omega))))
theorem spec_blank (A B : List (List Int)) (hA : A.length ≤ 1000) (hB : B.length ≤ 1000) : ∀ (d i : Nat), A.length = i + d →
  Ev (fun k => spec_l13Blank.l0 k (blankP i B.length) i A B) (blankP A.length B.length) := by
 intro d
 induction d with
 | zero =>
  intro i hi
  refine Ev.step (fun k => by rw [spec_l13Blank.l0]) (Ev.ifn (by omega) ?_)
  have e : i = A.length := by omega
  rw [e]
  exact Ev.now _
 | succ d ih =>
  intro i hi
  have hw : wrap64 ((i : Int) + 1) = ((i + 1 : Nat) : Int) := by rw [w64 (by omega) (by omega)]; omega
  have h := ih (i + 1) (by omega)
  have e1 : blankP (i + 1) B.length = blankP i B.length ++ [List.replicate B.length (-1)] := (rep_snoc i _).symm
  rw [e1, ← hw] at h
  refine Ev.step (fun k => by rw [spec_l13Blank.l0]) (Ev.ifp (by omega) ?_)
  exact spec_line_blank A B (blankP i B.length) i hB (by simp [blankP]; omega) _ h B.length 0 (by omega)
theorem impl_lines_ev {A B : List (List Int)} (al : ∀ x ∈ A, x.length ≤ 1048576) (all : A.length ≤ 1048576) (bl : ∀ x ∈ B, x.length ≤ 1048576) (bll : B.length ≤ 1048576) : Ev (fun k => impl_PictureLines.f k A B) (linesV A B) := by
 unfold impl_PictureLines.f linesV
 refine Ev.bind (impl_pic A B al all bl bll) ?_
 by_cases c : picV A B = true
 ·rw [if_pos c]
  obtain ⟨a1, a5, b1, b5⟩ := picV_len c
  refine Ev.ifp c (impl_blank A B (by omega) (by omega) _ ?_ A.length 0 (by omega))
  exact implRounds A B (by omega) (by omega) al bl _ _ (blank_shape _ _) (Nat.lt_succ_of_le (unk_le _ _ _))
 ·rw [if_neg c]; exact Ev.ifn c (Ev.now _)
theorem spec_lines_ev {A B : List (List Int)} (al : ∀ x ∈ A, x.length ≤ 1048576) (all : A.length ≤ 1048576) (bl : ∀ x ∈ B, x.length ≤ 1048576) (bll : B.length ≤ 1048576) : Ev (fun k => spec_PictureLines.f k A B) (linesV A B) := by
 unfold spec_PictureLines.f linesV
 refine Ev.bind (spec_pic A B al all bl bll) ?_
 by_cases c : picV A B = true
 ·rw [if_pos c]
  obtain ⟨a1, a5, b1, b5⟩ := picV_len c
  refine Ev.ifp c (Ev.bind ?_ (specRounds A B (by omega) (by omega) al bl _ _ (blank_shape _ _) (Nat.lt_succ_of_le (unk_le _ _ _))))
  unfold spec_l13Blank.f
  exact spec_blank A B (by omega) (by omega) A.length 0 (by omega)
 ·rw [if_neg c]; exact Ev.ifn c (Ev.now _)
theorem linesP_shape (A B : List (List Int)) : ∀ (n : Nat) (kn : List (List Int)), ShapeP A.length B.length kn → (linesP A B n kn).1 = [] ∨ ShapeP A.length B.length (linesP A B n kn).1 := by
 intro n
 induction n with
 | zero => intro kn hs; exact .inr hs
 | succ n ih =>
  intro kn hs
  rw [linesP]
  cases hr : roundPass A B kn with
  | none => exact .inl rfl
  | some z =>
   obtain ⟨t1, _, _⟩ := round_keep A B kn z hs hr
   show (if z.2 = true then linesP A B n z.1 else (z.1, true)).1 = [] ∨ ShapeP A.length B.length (if z.2 = true then linesP A B n z.1 else (z.1, true)).1
   split
   ·exact ih z.1 t1
   ·exact .inr t1
theorem tot_totM : ∀ (l : List (List Int)), tot l = totM l
 | [] => rfl
 | x :: l => by show x.length + tot l = x.length + totM l; rw [tot_totM l]
theorem linesV_small (A B : List (List Int)) : (linesV A B).1.length ≤ 1000 ∧ (∀ r ∈ (linesV A B).1, r.length ≤ 1000) ∧ totM (linesV A B).1 ≤ 1000000 := by
 have key : ∀ (l : List (List Int)), (∀ r ∈ l, r.length ≤ 1000) → totM l ≤ l.length * 1000 := by
  intro l
  induction l with
  | nil => intro _; simp [totM]
  | cons x l ih =>
   intro h
   have h1 := h x (by simp)
   have h2 := ih (fun r hr => h r (by simp [hr]))
   simp only [totM, List.length_cons]
   omega
 unfold linesV
 by_cases c : picV A B = true
 ·rw [if_pos c]
  obtain ⟨a1, a5, b1, b5⟩ := picV_len c
  rcases linesP_shape A B (A.length * B.length + 1) _ (blank_shape _ _) with h | h
  ·rw [h]; exact ⟨by simp, fun r hr => (by cases hr), by simp [totM]⟩
  ·have hl := h.len
   have hr : ∀ r ∈ (linesP A B (A.length * B.length + 1) (blankP A.length B.length)).1, r.length ≤ 1000 := fun r hr => by rw [h.row r hr]; omega
   have := key _ hr
   exact ⟨by omega, hr, by omega⟩
 ·rw [if_neg c]; exact ⟨by simp, fun r hr => (by cases hr), by simp [totM]⟩
theorem FnExactPictureLines (a b : List (List Int)) (ha : ∀ x ∈ a, x.length ≤ 9223372036854775807) (hal : a.length ≤ 9223372036854775807) (hb : ∀ x ∈ b, x.length ≤ 9223372036854775807) (hbl : b.length ≤ 9223372036854775807) : ∃ k, laws_FnExactPictureLines.f k a b = some true := by
 apply Ev.rounds
 unfold laws_FnExactPictureLines.f
 have hz : Ev (fun k => laws_szPicture.f k a b 1048576) (if (a.length : Int) + tot a + (b.length + tot b) ≤ 1048576 then 1048576 - a.length - tot a - b.length - tot b else -1) := by
  unfold laws_szPicture.f
  refine Ev.bind (szIntSS_ev a ha hal 1048576 (by omega) (by omega)) ?_
  by_cases c : (a.length : Int) + tot a ≤ 1048576
  ·rw [if_pos c]
   refine Ev.ifn (by omega) (Ev.bind (szIntSS_ev b hb hbl _ (by omega) (by omega)) ?_)
   by_cases c2 : (b.length : Int) + tot b ≤ 1048576 - a.length - tot a
   ·rw [if_pos c2]; exact Ev.ifn (by omega) (Ev.eq (Ev.now _) (by rw [if_pos (by omega)]))
   ·rw [if_neg c2]; exact Ev.ifp (by omega) (Ev.eq (Ev.now _) (by rw [if_neg (by omega)]))
  ·rw [if_neg c]; exact Ev.ifp (by omega) (Ev.eq (Ev.now _) (by rw [if_neg (by omega)]))
 refine Ev.bind hz ?_
 by_cases c : (a.length : Int) + tot a + (b.length + tot b) ≤ 1048576
 ·rw [if_pos c]
  refine Ev.ifn (by omega) ?_
  have ra : ∀ x ∈ a, x.length ≤ 1048576 := fun x hx => by have := tot_mem a x hx; omega
  have rb : ∀ x ∈ b, x.length ≤ 1048576 := fun x hx => by have := tot_mem b x hx; omega
  have ea := tot_totM a
  have eb := tot_totM b
  have hT : Ev (fun k => laws_toPicture.f k a b) (a, b) := by
   unfold laws_toPicture.f
   exact Ev.bind (toIntSS_ev a (fun x hx => by have := ra x hx; omega) (by omega)) (Ev.bind (toIntSS_ev b (fun x hx => by have := rb x hx; omega) (by omega)) (Ev.now _))
  have hE : Ev (fun k => laws_eqPicture.f k a b a b) true := by
   unfold laws_eqPicture.f
   exact Ev.bind (eqIntSS_self a (fun x hx => by have := ra x hx; omega) (by omega)) (Ev.ifp rfl (Ev.bind (eqIntSS_self b (fun x hx => by have := rb x hx; omega) (by omega)) (Ev.ifp rfl (Ev.now _))))
  obtain ⟨s1, s2, s3⟩ := linesV_small a b
  have hM : Ev (fun k => laws_markPicture.f k a b 1) (1 + (totM a : Int) + (totM b : Int)) := by
   unfold laws_markPicture.f
   exact Ev.bind (markIntSS_ev a 1 (by omega) ra (by omega) (by omega)) (Ev.bind (markIntSS_ev b _ (by omega) rb (by omega) (by simp only []; omega)) (Ev.now _))
  refine Ev.bind hT (Ev.bind (spec_lines_ev (A := a) (B := b) ra (by omega) rb (by omega)) (Ev.bind (impl_lines_ev (A := a) (B := b) ra (by omega) rb (by omega)) ?_))
  refine Ev.bind (eqIntSS_self _ (fun x hx => by have := s2 x hx; omega) (by omega)) (Ev.ifp rfl (Ev.ifp rfl (Ev.bind hE (Ev.ifp rfl (Ev.bind hM (Ev.ifp (by omega) ?_))))))
  refine Ev.bind (markIntSS_ev _ 1 (by omega) (fun r hr => by have := s2 r hr; omega) (by omega) (by omega)) (Ev.ifp (by simp only []; omega) ?_)
  exact Ev.bind (heldIntSS_ev _ 1 (by omega) (fun r hr => by have := s2 r hr; omega) (by omega) (by omega)) (Ev.ifp rfl (Ev.now _))
 ·rw [if_neg c]; exact Ev.ifp (by omega) (Ev.now _)

end Go.Proofs.Ytapnohcfnclleaa.Pure
