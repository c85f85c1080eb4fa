/- For every code of at most a million bytes: at the picture puzzle that the code draws PictureLines answers what the reference answers; what it knows agrees with the first picture; if nothing is found there is no picture, and if all is known there is exactly one. -/
import Derived.Test.YtapnohcfnclleaaPFnPictureLinesx16
namespace Go.Proofs.Ytapnohcfnclleaa.Pure
open Go.RowKit Go.Proofs.Ytapnohcfnclleaa.PFnPictureLines Go.Proofs.YtapnohcfnclleaaW.PrintWords Go.Proofs.YtapnohcfnclleaaW.PrintLast Go.Proofs.YtapnohcfnclleaaW.PrintMore
set_option linter.unusedVariables false
set_option linter.unusedSimpArgs false
/-! Ev: small steps. -/
theorem _root_.Go.Proofs.YtapnohcfnclleaaW.PrintWords.Ev.ifp {α : Type} {c : Prop} [Decidable c] {g f : Nat → Option α} {r : α} (hc : c) (h : Ev g r) : Ev (fun k => if c then g k else f k) r :=
 Ev.congr (fun _ => if_pos hc) h
theorem _root_.Go.Proofs.YtapnohcfnclleaaW.PrintWords.Ev.ifn {α : Type} {c : Prop} [Decidable c] {g f : Nat → Option α} {r : α} (hc : ¬ c) (h : Ev f r) : Ev (fun k => if c then g k else f k) r :=
 Ev.congr (fun _ => if_neg hc) h
theorem _root_.Go.Proofs.YtapnohcfnclleaaW.PrintWords.Ev.bindc {α β : Type} {o : Option α} {f : Nat → α → Option β} {a : α} {r : β} (h : o = some a) (k : Ev (fun n => f n a) r) : Ev (fun n => o.bind (f n)) r := by
 subst h; exact k
theorem _root_.Go.Proofs.YtapnohcfnclleaaW.PrintWords.Ev.eq {α : Type} {g : Nat → Option α} {r r' : α} (h : Ev g r) (e : r = r') : Ev g r' := e ▸ h
theorem w64 {x : Int} (h0 : -9223372036854775808 ≤ x) (h1 : x ≤ 9223372036854775807) : wrap64 x = x := by unfold wrap64; omega
theorem wf_u8 {x : Int} (h : (Lit.int .u8 x).wf = true) : 0 ≤ x ∧ x ≤ 255 := by
 have h2 : (decide (IntKind.u8.min ≤ x) && decide (x ≤ IntKind.u8.max)) = true := h
 simp [IntKind.min, IntKind.max, IntKind.bits, IntKind.signed] at h2
 omega
theorem rd_nat (xs : List Int) (i : Nat) (h : i < xs.length) : rd xs (i : Int) = xs[i] := by
 simp [rd, List.getD_eq_getElem?_getD, h]
theorem rd_mem (xs : List Int) (i : Int) (h0 : 0 ≤ i) (h : i < xs.length) : rd xs i ∈ xs := by
 obtain ⟨n, rfl⟩ := Int.eq_ofNat_of_zero_le h0
 rw [rd_nat xs n (by omega)]; exact List.getElem_mem _
theorem l1In_f (a b c : Int) : spec_l1In.f a b c = some (decide (b ≤ a ∧ a ≤ c)) := by
 unfold spec_l1In.f
 by_cases h : a ≥ b
 ·rw [if_pos h]; simp; omega
 ·rw [if_neg h]; simp; omega
theorem alive_ev : Ev (fun k => laws_alive.f k) true := Ev.of (fun k => laws_alive.mono k) (k := 20) (by decide +kernel)
/-- The cells that a clue takes, with one behind each number. -/
def csum : List Int → Int
 | [] => 0
 | n :: l => n + 1 + csum l
/-- What ClueValid answers. -/
def clueV (c : List Int) (n : Int) : Bool := decide (1 ≤ n ∧ n ≤ 8) && (c.all (fun x => decide (1 ≤ x)) && decide (csum c ≤ n + 1))
theorem csum_nn : ∀ c : List Int, c.all (fun x => decide (1 ≤ x)) = true → 2 * (c.length : Int) ≤ csum c := by
 intro c
 induction c with
 | nil => intro _; simp [csum]
 | cons x c ih =>
  intro h
  simp only [List.all_cons, Bool.and_eq_true, decide_eq_true_eq] at h
  have := ih h.2
  simp only [csum, List.length_cons]
  omega
theorem csum_le : ∀ c : List Int, c.all (fun x => decide (1 ≤ x)) = true → ∀ x ∈ c, x < csum c := by
 intro c
 induction c with
 | nil => intro _ x hx; simp at hx
 | cons y c ih =>
  intro h x hx
  simp only [List.all_cons, Bool.and_eq_true, decide_eq_true_eq] at h
  have hn := csum_nn c h.2
  simp only [csum]
  rcases List.mem_cons.1 hx with hx | hx
  ·omega
  ·have := ih h.2 x hx
   omega
theorem impl_clue_l (l : List Int) (hl : l.length ≤ 140737488351232) : ∀ (d i : Nat) (t : Int), l.length = i + d → 0 ≤ t → t ≤ 100 →
  Ev (fun k => impl_ClueValid.l0 k t l l.length i) ((l.drop i).all (fun x => decide (1 ≤ x)) && decide (csum (l.drop i) ≤ t)) := by
 intro d
 induction d with
 | zero =>
  intro i t hi h0 h1
  refine Ev.step (fun k => by rw [impl_ClueValid.l0]) (Ev.ifn (by omega) (Ev.eq (Ev.now _) ?_))
  rw [List.drop_eq_nil_of_le (by omega)]; simp [csum, h0]
 | succ d ih =>
  intro i t hi h0 h1
  have hlt : i < l.length := by omega
  have hw : wrap64 ((i : Int) + 1) = ((i + 1 : Nat) : Int) := by rw [w64 (by omega) (by omega)]; omega
  refine Ev.step (fun k => by rw [impl_ClueValid.l0]) ?_
  rw [rd_nat l i hlt, hw, List.drop_eq_getElem_cons hlt, List.all_cons]
  rw [show csum (l[i] :: l.drop (i + 1)) = l[i] + 1 + csum (l.drop (i + 1)) from rfl]
  refine Ev.ifp (by omega) (Ev.ifp (by omega) (Ev.ifp (by omega) ?_))
  by_cases c1 : l[i] < 1
  ·have h : ¬ 1 ≤ l[i] := by omega
   exact Ev.ifp c1 (Ev.eq (Ev.now _) (by simp [h]))
  refine Ev.ifn c1 ?_
  have g : 1 ≤ l[i] := by omega
  by_cases c2 : l[i] ≥ t
  ·refine Ev.ifp c2 (Ev.eq (Ev.now _) ?_)
   symm
   rw [Bool.and_eq_false_iff]
   cases ha : (l.drop (i + 1)).all (fun x => decide (1 ≤ x))
   ·left; simp
   ·right
    have := csum_nn _ ha
    simp; omega
  ·refine Ev.ifn c2 ?_
   rw [w64 (x := l[i] + 1) (by omega) (by omega), w64 (by omega) (by omega)]
   refine Ev.eq (ih (i + 1) (t - (l[i] + 1)) (by omega) (by omega) (by omega)) ?_
   simp only [g, decide_true, Bool.true_and]
   congr 1
   rw [decide_eq_decide]; omega
theorem impl_clue (l : List Int) (n : Int) (hl : l.length ≤ 140737488351232) : Ev (fun k => impl_ClueValid.f k l n) (clueV l n) := by
 have no : ∀ b : Bool, b = true → ¬ (1 ≤ n ∧ n ≤ 8) → Ev (fun k => impl_ClueValid.j0 k l n b) (clueV l n) := by
  intro b hb h
  refine Ev.step (fun k => by rw [impl_ClueValid.j0]) (Ev.ifp hb (Ev.eq (Ev.now _) ?_))
  unfold clueV
  rw [decide_eq_false h]; simp
 unfold impl_ClueValid.f
 by_cases c1 : n < 1
 ·exact Ev.ifp c1 (no _ rfl (by omega))
 refine Ev.ifn c1 ?_
 by_cases c2 : n > 8
 ·exact no _ (by simpa using c2) (by omega)
 refine Ev.step (fun k => by rw [impl_ClueValid.j0]) (Ev.ifn (by simpa using c2) ?_)
 rw [w64 (by omega) (by omega)]
 refine Ev.eq (impl_clue_l l hl l.length 0 (n + 1) (by omega) (by omega) (by omega)) ?_
 unfold clueV
 rw [decide_eq_true (show 1 ≤ n ∧ n ≤ 8 by omega)]; simp
def isum : List Int → Int
 | [] => 0
 | n :: l => n + isum l
theorem csum_isum : ∀ c : List Int, csum c = isum c + c.length := by
 intro c
 induction c with
 | nil => rfl
 | cons x c ih => simp only [csum, isum, List.length_cons]; omega
theorem spec_clue_l (l : List Int) (n : Int) (hl : l.length ≤ 1000000000) : ∀ (d i : Nat) (t : Int), l.length = i + d → -1 ≤ t → t ≤ 1000000000 + 8 * i →
  Ev (fun k => spec_ClueValid.l0 k l n t i) ((l.drop i).all (fun x => decide (1 ≤ x ∧ x ≤ 8)) && (decide (1 ≤ n ∧ n ≤ 8) && decide (t + isum (l.drop i) ≤ n))) := by
 intro d
 induction d with
 | zero =>
  intro i t hi h0 h1
  refine Ev.step (fun k => by rw [spec_ClueValid.l0]) (Ev.ifn (by omega) (Ev.bindc (l1In_f _ _ _) ?_))
  rw [List.drop_eq_nil_of_le (by omega)]
  rw [show isum [] = 0 from rfl, Int.add_zero]
  simp only [List.all_nil, Bool.true_and]
  by_cases c : 1 ≤ n ∧ n ≤ 8
  ·exact Ev.ifp (by simpa using c) (Ev.eq (Ev.now _) (by simp [c]))
  ·refine Ev.ifn (by simpa using c) (Ev.eq (Ev.now _) ?_)
   rw [decide_eq_false c]; simp
 | succ d ih =>
  intro i t hi h0 h1
  have hlt : i < l.length := by omega
  have hw : wrap64 ((i : Int) + 1) = ((i + 1 : Nat) : Int) := by rw [w64 (by omega) (by omega)]; omega
  refine Ev.step (fun k => by rw [spec_ClueValid.l0]) ?_
  rw [rd_nat l i hlt, hw, List.drop_eq_getElem_cons hlt, List.all_cons]
  rw [show isum (l[i] :: l.drop (i + 1)) = l[i] + isum (l.drop (i + 1)) from rfl]
  refine Ev.ifp (by omega) (Ev.ifp (by omega) (Ev.bindc (l1In_f _ _ _) ?_))
  by_cases c1 : 1 ≤ l[i] ∧ l[i] ≤ 8
  ·refine Ev.ifp (by simpa using c1) ?_
   rw [w64 (by omega) (by omega)]
   refine Ev.eq (ih (i + 1) (t + l[i]) (by omega) (by omega) (by omega)) ?_
   simp only [c1, and_self, decide_true, Bool.true_and]
   congr 2
   rw [decide_eq_decide]; omega
  ·refine Ev.ifn (by simpa using c1) (Ev.eq (Ev.now _) ?_)
   rw [decide_eq_false c1]; simp
theorem spec_clue (l : List Int) (n : Int) (hl : l.length ≤ 1000000000) : Ev (fun k => spec_ClueValid.f k l n) (clueV l n) := by
 unfold spec_ClueValid.f
 rw [w64 (by omega) (by omega)]
 refine Ev.eq (spec_clue_l l n hl l.length 0 ((l.length : Int) - 1) (by omega) (by omega) (by omega)) ?_
 unfold clueV
 rw [List.drop_zero]
 by_cases c : 1 ≤ n ∧ n ≤ 8
 ·simp only [c, and_self, decide_true, Bool.true_and]
  have e := csum_isum l
  rw [Bool.eq_iff_iff]
  simp only [Bool.and_eq_true, decide_eq_true_eq]
  constructor
  ·rintro ⟨h1, h2⟩
   refine ⟨?_, by omega⟩
   rw [List.all_eq_true] at h1 ⊢
   intro x hx
   have := h1 x hx
   simp only [decide_eq_true_eq] at this ⊢
   exact this.1
  ·rintro ⟨h1, h2⟩
   refine ⟨?_, by omega⟩
   have h3 := csum_le l h1
   rw [List.all_eq_true] at h1 ⊢
   intro x hx
   have a := h1 x hx
   have b := h3 x hx
   simp only [decide_eq_true_eq] at a ⊢
   omega
 ·rw [decide_eq_false c]; simp
theorem rdL_nat (xs : List (List Int)) (i : Nat) (h : i < xs.length) : rd_L1 xs (i : Int) = xs[i] := by
 simp [rd_L1, List.getD_eq_getElem?_getD, h]
/-- What PictureValid answers. -/
def picV (a b : List (List Int)) : Bool := (decide (1 ≤ a.length ∧ a.length ≤ 5) && decide (1 ≤ b.length ∧ b.length ≤ 5)) && (a.all (fun c => clueV c b.length) && b.all (fun c => clueV c a.length))
theorem impl_pic_l1 (a b : List (List Int)) (hb : ∀ x ∈ b, x.length ≤ 1048576) (hl : b.length ≤ 1048576) : ∀ (d i : Nat), b.length = i + d →
  Ev (fun k => impl_PictureValid.l1 k b b.length i a b) ((b.drop i).all (fun c => clueV c a.length)) := by
 intro d
 induction d with
 | zero =>
  intro i hi
  refine Ev.step (fun k => by rw [impl_PictureValid.l1]) (Ev.ifn (by omega) (Ev.eq (Ev.now _) ?_))
  rw [List.drop_eq_nil_of_le (by omega)]; simp
 | succ d ih =>
  intro i hi
  have hw : wrap64 ((i : Int) + 1) = ((i + 1 : Nat) : Int) := by rw [w64 (by omega) (by omega)]; omega
  have hlt : i < b.length := by omega
  refine Ev.step (fun k => by rw [impl_PictureValid.l1]) ?_
  rw [rdL_nat b i hlt, hw, List.drop_eq_getElem_cons hlt, List.all_cons]
  refine Ev.ifp (by omega) (Ev.ifp (by omega) (Ev.ifp (by omega) (Ev.bind (impl_clue _ _ (by have := hb _ (List.getElem_mem hlt); omega)) ?_)))
  cases hc : clueV b[i] a.length
  ·exact Ev.ifn (by simp) (Ev.eq (Ev.now _) (by simp))
  ·exact Ev.ifp rfl (Ev.eq (ih (i + 1) (by omega)) (by simp))
theorem impl_pic_l0 (a b : List (List Int)) (ha : ∀ x ∈ a, x.length ≤ 1048576) (hal : a.length ≤ 1048576) (hb : ∀ x ∈ b, x.length ≤ 1048576) (hl : b.length ≤ 1048576) : ∀ (d i : Nat), a.length = i + d →
  Ev (fun k => impl_PictureValid.l0 k a a.length i a b) ((a.drop i).all (fun c => clueV c b.length) && b.all (fun c => clueV c a.length)) := by
 intro d
 induction d with
 | zero =>
  intro i hi
  have h1 : Ev (fun k => impl_PictureValid.l1 k b b.length 0 a b) _ := impl_pic_l1 a b hb hl b.length 0 (by omega)
  refine Ev.step (fun k => by rw [impl_PictureValid.l0]) (Ev.ifn (by omega) (Ev.eq h1 ?_))
  rw [List.drop_eq_nil_of_le (show a.length ≤ i by omega)]; simp
 | succ d ih =>
  intro i hi
  have hw : wrap64 ((i : Int) + 1) = ((i + 1 : Nat) : Int) := by rw [w64 (by omega) (by omega)]; omega
  have hlt : i < a.length := by omega
  refine Ev.step (fun k => by rw [impl_PictureValid.l0]) ?_
  rw [rdL_nat a i hlt, hw, List.drop_eq_getElem_cons hlt, List.all_cons]
  refine Ev.ifp (by omega) (Ev.ifp (by omega) (Ev.ifp (by omega) (Ev.bind (impl_clue _ _ (by have := ha _ (List.getElem_mem hlt); omega)) ?_)))
  cases hc : clueV a[i] b.length
  ·exact Ev.ifn (by simp) (Ev.eq (Ev.now _) (by simp))
  ·exact Ev.ifp rfl (Ev.eq (ih (i + 1) (by omega)) (by simp))
theorem impl_pic_j (a b : List (List Int)) (ha : ∀ x ∈ a, x.length ≤ 1048576) (hal : a.length ≤ 1048576) (hb : ∀ x ∈ b, x.length ≤ 1048576) (hl : b.length ≤ 1048576) (x : Bool) :
  Ev (fun k => impl_PictureValid.j0 k x a b) (!x && (a.all (fun c => clueV c b.length) && b.all (fun c => clueV c a.length))) := by
 refine Ev.step (fun k => by rw [impl_PictureValid.j0]) ?_
 cases x
 ·exact Ev.ifn (by simp) (Ev.eq (impl_pic_l0 a b ha hal hb hl a.length 0 (by omega)) (by simp))
 ·exact Ev.ifp rfl (Ev.eq (Ev.now _) (by simp))
theorem impl_pic (a b : List (List Int)) (ha : ∀ x ∈ a, x.length ≤ 1048576) (hal : a.length ≤ 1048576) (hb : ∀ x ∈ b, x.length ≤ 1048576) (hl : b.length ≤ 1048576) : Ev (fun k => impl_PictureValid.f k a b) (picV a b) := by
 unfold impl_PictureValid.f picV
 have hj := impl_pic_j a b ha hal hb hl
 by_cases c1 : (a.length : Int) < 1
 ·refine Ev.ifp c1 (Ev.eq (hj true) ?_)
  have h : ¬ (1 ≤ a.length ∧ a.length ≤ 5) := by omega
  simp [h]
 refine Ev.ifn c1 ?_
 by_cases c2 : (a.length : Int) > 5
 ·refine Ev.ifp c2 (Ev.eq (hj true) ?_)
  have h : ¬ (1 ≤ a.length ∧ a.length ≤ 5) := by omega
  simp [h]
 refine Ev.ifn c2 ?_
 have h : (1 ≤ a.length ∧ a.length ≤ 5) := by omega
 by_cases c3 : (b.length : Int) < 1
 ·refine Ev.ifp c3 (Ev.eq (hj true) ?_)
  have h : ¬ (1 ≤ b.length ∧ b.length ≤ 5) := by omega
  simp [h]
 refine Ev.ifn c3 (Ev.eq (hj _) ?_)
 by_cases c4 : (b.length : Int) > 5
 ·have h5 : ¬ (1 ≤ b.length ∧ b.length ≤ 5) := by omega
  simp [h5, c4]
 ·have h5 : (1 ≤ b.length ∧ b.length ≤ 5) := by omega
  simp [h5, h, c4]
theorem spec_pic_l1 (a b : List (List Int)) (hb : ∀ x ∈ b, x.length ≤ 1048576) (hl : b.length ≤ 1048576) : ∀ (d i : Nat), b.length = i + d →
  Ev (fun k => spec_PictureValid.l1 k i a b) ((b.drop i).all (fun c => clueV c a.length) && (decide (1 ≤ a.length ∧ a.length ≤ 5) && decide (1 ≤ b.length ∧ b.length ≤ 5))) := by
 intro d
 induction d with
 | zero =>
  intro i hi
  refine Ev.step (fun k => by rw [spec_PictureValid.l1]) (Ev.ifn (by omega) (Ev.bindc (l1In_f _ _ _) ?_))
  rw [List.drop_eq_nil_of_le (by omega)]
  by_cases c : 1 ≤ (a.length : Int) ∧ (a.length : Int) ≤ 5
  ·refine Ev.ifp (by simpa using c) (Ev.bindc (l1In_f _ _ _) (Ev.eq (Ev.now _) ?_))
   have h : 1 ≤ a.length ∧ a.length ≤ 5 := by omega
   rw [show decide (1 ≤ (b.length : Int) ∧ (b.length : Int) ≤ 5) = decide (1 ≤ b.length ∧ b.length ≤ 5) from by rw [decide_eq_decide]; omega]
   simp [h]
  ·refine Ev.ifn (by simpa using c) (Ev.eq (Ev.now _) ?_)
   have h : ¬ (1 ≤ a.length ∧ a.length ≤ 5) := by omega
   simp [h]
 | succ d ih =>
  intro i hi
  have hw : wrap64 ((i : Int) + 1) = ((i + 1 : Nat) : Int) := by rw [w64 (by omega) (by omega)]; omega
  have hlt : i < b.length := by omega
  refine Ev.step (fun k => by rw [spec_PictureValid.l1]) ?_
  rw [rdL_nat b i hlt, hw, List.drop_eq_getElem_cons hlt, List.all_cons]
  refine Ev.ifp (by omega) (Ev.ifp (by omega) (Ev.bind (spec_clue _ _ (by have := hb _ (List.getElem_mem hlt); omega)) ?_))
  cases hc : clueV b[i] a.length
  ·exact Ev.ifn (by simp) (Ev.eq (Ev.now _) (by simp))
  ·exact Ev.ifp rfl (Ev.eq (ih (i + 1) (by omega)) (by simp))
theorem spec_pic_l0 (a b : List (List Int)) (ha : ∀ x ∈ a, x.length ≤ 1048576) (hal : a.length ≤ 1048576) (hb : ∀ x ∈ b, x.length ≤ 1048576) (hl : b.length ≤ 1048576) : ∀ (d i : Nat), a.length = i + d →
  Ev (fun k => spec_PictureValid.l0 k i a b) ((a.drop i).all (fun c => clueV c b.length) && (b.all (fun c => clueV c a.length) && (decide (1 ≤ a.length ∧ a.length ≤ 5) && decide (1 ≤ b.length ∧ b.length ≤ 5)))) := by
 intro d
 induction d with
 | zero =>
  intro i hi
  have h1 : Ev (fun k => spec_PictureValid.l1 k 0 a b) _ := spec_pic_l1 a b hb hl b.length 0 (by omega)
  refine Ev.step (fun k => by rw [spec_PictureValid.l0]) (Ev.ifn (by omega) (Ev.eq h1 ?_))
  rw [List.drop_eq_nil_of_le (show a.length ≤ i by omega)]; simp
 | succ d ih =>
  intro i hi
  have hw : wrap64 ((i : Int) + 1) = ((i + 1 : Nat) : Int) := by rw [w64 (by omega) (by omega)]; omega
  have hlt : i < a.length := by omega
  refine Ev.step (fun k => by rw [spec_PictureValid.l0]) ?_
  rw [rdL_nat a i hlt, hw, List.drop_eq_getElem_cons hlt, List.all_cons]
  refine Ev.ifp (by omega) (Ev.ifp (by omega) (Ev.bind (spec_clue _ _ (by have := ha _ (List.getElem_mem hlt); omega)) ?_))
  cases hc : clueV a[i] b.length
  ·exact Ev.ifn (by simp) (Ev.eq (Ev.now _) (by simp))
  ·exact Ev.ifp rfl (Ev.eq (ih (i + 1) (by omega)) (by simp))
theorem spec_pic (a b : List (List Int)) (ha : ∀ x ∈ a, x.length ≤ 1048576) (hal : a.length ≤ 1048576) (hb : ∀ x ∈ b, x.length ≤ 1048576) (hl : b.length ≤ 1048576) : Ev (fun k => spec_PictureValid.f k a b) (picV a b) := by
 unfold spec_PictureValid.f
 refine Ev.eq (spec_pic_l0 a b ha hal hb hl a.length 0 (by omega)) ?_
 rw [List.drop_zero]; unfold picV
 ac_rfl
/-- The clue of a line, r cells being filled ahead of it. -/
def clueR : Int → List Bool → List Int
 | r, [] => if 0 < r then [r] else []
 | r, true :: l => clueR (r + 1) l
 | r, false :: l => if 0 < r then r :: clueR 0 l else clueR 0 l
/-- What ClueOf answers. -/
def clueL (l : List Bool) : List Int := if l.length ≤ 8 then clueR 0 l else []
theorem rdOf_nat (xs : List Bool) (i : Nat) (h : i < xs.length) : rdOf false xs (i : Int) = xs[i] := by
 simp [rdOf, List.getD_eq_getElem?_getD, h]
theorem clueR_f : ∀ (l : List Bool) (r : Int), clueR r (l ++ [false]) = clueR r l := by
 intro l
 induction l with
 | nil => intro r; simp [clueR]
 | cons b l ih =>
  intro r
  cases b
  ·simp only [List.cons_append, clueR, ih]
  ·simp only [List.cons_append, clueR, ih]
theorem clueR_ft : ∀ (l : List Bool) (r : Int), clueR r (l ++ [false] ++ [true]) = clueR r l ++ [1] := by
 intro l
 induction l with
 | nil =>
  intro r
  by_cases h : 0 < r <;> simp [clueR, h]
 | cons b l ih =>
  intro r
  cases b
  ·simp only [List.cons_append, clueR]
   rw [ih]
   by_cases h : 0 < r <;> simp [h]
  ·simp only [List.cons_append, clueR]
   exact ih _
theorem clueR_tt : ∀ (l : List Bool) (r : Int), 0 ≤ r → ∃ ys z, clueR r (l ++ [true]) = ys ++ [z] ∧ clueR r (l ++ [true] ++ [true]) = ys ++ [z + 1] := by
 intro l
 induction l with
 | nil =>
  intro r hr
  refine ⟨[], r + 1, ?_, ?_⟩
  ·simp [clueR]; omega
  ·simp [clueR]; omega
 | cons b l ih =>
  intro r hr
  cases b
  ·obtain ⟨ys, z, h1, h2⟩ := ih 0 (by omega)
   by_cases h : 0 < r
   ·refine ⟨r :: ys, z, ?_, ?_⟩
    ·simp only [List.cons_append, clueR, h, if_true, h1]
    ·simp only [List.cons_append, clueR, h, if_true]
     rw [h2]
   ·refine ⟨ys, z, ?_, ?_⟩
    ·simp only [List.cons_append, clueR, h, if_false, h1]
    ·simp only [List.cons_append, clueR, h, if_false]
     rw [h2]
  ·obtain ⟨ys, z, h1, h2⟩ := ih (r + 1) (by omega)
   exact ⟨ys, z, by simpa only [List.cons_append, clueR] using h1, by simpa only [List.cons_append, clueR] using h2⟩
theorem clueR_le : ∀ (l : List Bool) (r : Int), 0 ≤ r → ∀ x ∈ clueR r l, 1 ≤ x ∧ x ≤ r + l.length := by
 intro l
 induction l with
 | nil =>
  intro r hr x hx
  simp only [clueR] at hx
  split at hx
  ·simp at hx; simp; omega
  ·simp at hx
 | cons b l ih =>
  intro r hr x hx
  cases b
  ·simp only [clueR] at hx
   split at hx
   ·rcases List.mem_cons.1 hx with hx | hx
    ·simp; omega
    ·have := ih 0 (by omega) x hx; simp; omega
   ·have := ih 0 (by omega) x hx; simp; omega
  ·simp only [clueR] at hx
   have := ih (r + 1) (by omega) x hx; simp; omega
theorem clueR_len : ∀ (l : List Bool) (r : Int), (clueR r l).length ≤ l.length + 1 := by
 intro l
 induction l with
 | nil => intro r; simp only [clueR]; split <;> simp
 | cons b l ih =>
  intro r
  cases b
  ·simp only [clueR]
   have := ih 0
   split <;> (simp; omega)
  ·simp only [clueR]
   have := ih (r + 1)
   simp; omega
theorem clueL_len (l : List Bool) : (clueL l).length ≤ 9 := by
 unfold clueL
 split
 ·have := clueR_len l 0; omega
 ·simp
def onesL (l : List Bool) : Int := (l.countP id : Nat)
theorem sameInts_l (a b : List Int) (h : a.length = b.length) (hl : a.length ≤ 140737488351232) : ∀ (d i : Nat), a.length = i + d → Ev (fun k => laws_sameInts.l0 k a b i) (decide (a.drop i = b.drop i)) := by
 intro d
 induction d with
 | zero =>
  intro i hi
  refine Ev.step (f := fun _ => some (decide (a.drop i = b.drop i))) (fun k => ?_) (Ev.now _)
  rw [laws_sameInts.l0]; rw [if_neg (by omega), List.drop_eq_nil_of_le (by omega), List.drop_eq_nil_of_le (by omega)]; simp
 | succ d ih =>
  intro i hi
  have ha : i < a.length := by omega
  have hb : i < b.length := by omega
  have hw : wrap64 ((i : Int) + 1) = ((i + 1 : Nat) : Int) := by rw [w64 (by omega) (by omega)]; omega
  by_cases c : a[i] = b[i]
  ·refine Ev.step (f := fun k => laws_sameInts.l0 k a b ((i + 1 : Nat) : Int)) (fun k => ?_) ((ih (i + 1) (by omega)).eq ?_)
   ·rw [laws_sameInts.l0]; rw [if_pos (by omega), if_pos (by omega), if_pos (by omega), rd_nat a i ha, rd_nat b i hb, if_pos c, hw]
   ·rw [List.drop_eq_getElem_cons ha, List.drop_eq_getElem_cons hb, c]; simp only [List.cons.injEq, true_and]
  ·refine Ev.step (f := fun k => some false) (fun k => ?_) ((Ev.now _).eq ?_)
   ·rw [laws_sameInts.l0]; rw [if_pos (by omega), if_pos (by omega), if_pos (by omega), rd_nat a i ha, rd_nat b i hb, if_neg c]
   ·rw [List.drop_eq_getElem_cons ha, List.drop_eq_getElem_cons hb]; simp only [List.cons.injEq, c, false_and, decide_false]
theorem sameInts_ev (a b : List Int) (hl : a.length ≤ 140737488351232) : Ev (fun k => laws_sameInts.f k a b) (decide (a = b)) := by
 unfold laws_sameInts.f
 by_cases h : a.length = b.length
 ·exact Ev.ifp (by omega) ((sameInts_l a b h hl a.length 0 (by omega)).eq (by simp))
 ·refine Ev.ifn (by omega) ((Ev.now false).eq ?_)
  symm; simp; intro e; exact h (by rw [e])
theorem sameInts_self (a : List Int) (hl : a.length ≤ 140737488351232) : Ev (fun k => laws_sameInts.f k a a) true := (sameInts_ev a a hl).eq (by simp)
/-! The reader of draws: only that each number drawn lies in its range. -/
structure Byts (b : List Int) : Prop where
 len : b.length ≤ 2000
 val : ∀ x ∈ b, 0 ≤ x ∧ x ≤ 255
theorem xor_nn {a b : Int} (ha : 0 ≤ a) (ha1 : a < 4611686018427387904) (hb : 0 ≤ b) (hb1 : b < 4611686018427387904) : 0 ≤ Go.bits .xor .i64 a b := by
 obtain ⟨m, rfl⟩ := Int.eq_ofNat_of_zero_le ha
 obtain ⟨n, rfl⟩ := Int.eq_ofNat_of_zero_le hb
 have h : (m ^^^ n) < 2 ^ 62 := Nat.xor_lt_two_pow (by omega) (by omega)
 have hm : m % 2 ^ IntKind.i64.bits = m := Nat.mod_eq_of_lt (show m < 2 ^ 64 by omega)
 have hn : n % 2 ^ IntKind.i64.bits = n := Nat.mod_eq_of_lt (show n < 2 ^ 64 by omega)
 simp only [Go.bits, BitVec.ofInt_natCast, BitVec.toNat_xor, BitVec.toNat_ofNat, hm, hn]
 rw [IntKind.wrap_i64]
 omega
theorem open_ok (l : List Int) (h : l.length ≤ maxLen) (hb : ∀ x ∈ l, (Lit.int .u8 x).wf = true) : ∃ b, spec_l20Open.f l = some (b, 0) ∧ Byts b := by
 unfold spec_l20Open.f
 by_cases c : (l.length : Int) > 2000
 ·rw [if_pos c, if_pos (by omega)]
  exact ⟨_, rfl, by rw [List.length_take]; omega, fun x hx => wf_u8 (hb x (List.mem_of_mem_take hx))⟩
 ·rw [if_neg c]
  exact ⟨_, rfl, by omega, fun x hx => wf_u8 (hb x hx)⟩
theorem pick_any {b : List Int} (hb : Byts b) {p : Int} (hp : 0 ≤ p) (hp1 : p ≤ 1000000) (n : Int) (hn1 : n ≤ 9223372036854775807) :
  ∃ r, Ev (fun k => spec_l20Rd_pick.f k b p n) (r, p + 1) ∧ 0 ≤ r ∧ (1 ≤ n → r < n) ∧ (n < 1 → r = 0) := by
 have hw : wrap64 (p + 1) = p + 1 := w64 (by omega) (by omega)
 have hw2 : wrap64 (p + 1 - 1) = p := by rw [w64 (by omega) (by omega)]; omega
 have hl := hb.len
 unfold spec_l20Rd_pick.f
 by_cases c : n < 1
 ·refine ⟨0, Ev.ifp c (Ev.step (f := fun _ => some (0, p + 1)) (fun k => ?_) (Ev.now _)), by omega, by omega, fun _ => rfl⟩
  rw [spec_l20Rd_pick.j0]; rw [if_pos rfl, hw]
 ·by_cases c0 : b.length = 0
  ·refine ⟨0, Ev.ifn c (Ev.step (f := fun _ => some (0, p + 1)) (fun k => ?_) (Ev.now _)), by omega, by omega, fun _ => rfl⟩
   rw [spec_l20Rd_pick.j0]
   rw [c0, if_pos (by decide), hw]
  ·have c0' : ((b.length : Int) == 0) = false := by simp; intro h; simp [h] at c0
   by_cases c1 : p < (b.length : Int)
   ·have hm := hb.val _ (rd_mem b p hp c1)
    refine ⟨Int.tmod (rd b p) n, Ev.ifn c (Ev.step (f := fun _ => some (Int.tmod (rd b p) n, p + 1)) (fun k => ?_) (Ev.now _)), Int.tmod_nonneg _ hm.1, fun h => Int.tmod_lt_of_pos _ (by omega), fun h => absurd h c⟩
    rw [spec_l20Rd_pick.j0]
    rw [c0', if_neg (by decide), hw, hw2, if_pos c1, if_pos hp, if_neg (by omega), w64 (by omega) (by omega)]
   ·have hL : (0 : Int) < (b.length : Int) := by omega
    have e1 := Int.tmod_nonneg (b.length : Int) hp
    have e2 := Int.tmod_lt_of_pos p hL
    have k7 : wrap64 (p * 7) = p * 7 := w64 (by omega) (by omega)
    have k73 : wrap64 (p * 7 + 3) = p * 7 + 3 := w64 (by omega) (by omega)
    have e3 := Int.tmod_nonneg (b.length : Int) (show 0 ≤ p * 7 + 3 by omega)
    have e4 := Int.tmod_lt_of_pos (p * 7 + 3) hL
    have m1 := hb.val _ (rd_mem b _ e1 e2)
    have m2 := hb.val _ (rd_mem b _ e3 e4)
    have d0 : Int.tdiv p (b.length : Int) = p / (b.length : Int) := Int.tdiv_eq_ediv_of_nonneg hp
    have d1 : 0 ≤ p / (b.length : Int) := Int.ediv_nonneg hp (by omega)
    have d2 : p / (b.length : Int) ≤ p := Int.ediv_le_self _ hp
    generalize hx1 : rd b (Int.tmod p (b.length : Int)) = x1 at m1
    generalize hx2 : rd b (Int.tmod (p * 7 + 3) (b.length : Int)) = x2 at m2
    generalize hq : p / (b.length : Int) = q at d0 d1 d2
    have hX : 0 ≤ Go.bits .xor .i64 (x1 * 131 + x2 * 1117 + p * 29 + q * 53) ((x1 * 131 + x2 * 1117 + p * 29 + q * 53) / 64) := xor_nn (by omega) (by omega) (by omega) (by omega)
    generalize hR : Go.bits .xor .i64 (x1 * 131 + x2 * 1117 + p * 29 + q * 53) ((x1 * 131 + x2 * 1117 + p * 29 + q * 53) / 64) = X at hX
    refine ⟨Int.tmod X n, Ev.ifn c (Ev.step (f := fun _ => some (Int.tmod X n, p + 1)) (fun k => ?_) (Ev.now _)), Int.tmod_nonneg _ hX, fun h => Int.tmod_lt_of_pos _ (by omega), fun h => absurd h c⟩
    rw [spec_l20Rd_pick.j0]
    rw [c0', if_neg (by decide), hw, hw2, if_neg c1, if_neg (by omega), k7, k73, if_pos e1, if_pos e2, if_pos e3, if_pos e4, if_neg (by omega), hx1, hx2, d0]
    rw [w64 (x := x1) (by omega) (by omega), w64 (x := x2) (by omega) (by omega), w64 (x := q) (by omega) (by omega), w64 (x := x1 * 131) (by omega) (by omega), w64 (x := x2 * 1117) (by omega) (by omega), w64 (x := p * 29) (by omega) (by omega), w64 (x := q * 53) (by omega) (by omega)]
    rw [w64 (x := x1 * 131 + x2 * 1117) (by omega) (by omega), w64 (x := x1 * 131 + x2 * 1117 + p * 29) (by omega) (by omega), w64 (x := x1 * 131 + x2 * 1117 + p * 29 + q * 53) (by omega) (by omega)]
    rw [Int.tdiv_eq_ediv_of_nonneg (by omega), w64 (by omega) (by omega), hR]
theorem odd_any {b : List Int} (hb : Byts b) {p : Int} (hp : 0 ≤ p) (hp1 : p ≤ 1000000) (n : Int) (hn1 : n ≤ 9223372036854775807) :
  ∃ r q, Ev (fun k => spec_l20Rd_odd.f k b p n) (r, q) ∧ p ≤ q ∧ q ≤ p + 1 := by
 unfold spec_l20Rd_odd.f
 by_cases c : n > 0
 ·obtain ⟨r, e, _⟩ := pick_any hb hp hp1 n hn1
  exact ⟨_, _, Ev.ifp c (Ev.bind e (Ev.now _)), by omega, by omega⟩
 ·exact ⟨_, _, Ev.ifn c (Ev.now _), by omega, by omega⟩
theorem spec_clueof_end (l : List Bool) (out : List Int) (run : Int) (h8 : l.length ≤ 8) : Ev (fun k => spec_ClueOf.l0 k l out run ((l.length + 1 : Nat) : Int)) out := by
 refine Ev.step (fun k => by rw [spec_ClueOf.l0]) (Ev.ifn (by omega) ?_)
 exact Ev.step (fun k => by rw [spec_ClueOf.j1]) (Ev.ifn (by decide) (Ev.now _))
theorem spec_clueof_l (l : List Bool) (h8 : l.length ≤ 8) : ∀ (d i : Nat) (run : Int) (out : List Int), l.length = i + d → 0 ≤ run → run ≤ i → out.length ≤ i →
  Ev (fun k => spec_ClueOf.l0 k l out run i) (out ++ clueR run (l.drop i)) := by
 intro d
 induction d with
 | zero =>
  intro i run out hi h0 h1 h2
  have hw : wrap64 ((i : Int) + 1) = ((l.length + 1 : Nat) : Int) := by rw [w64 (by omega) (by omega)]; omega
  refine Ev.step (fun k => by rw [spec_ClueOf.l0]) (Ev.ifp (by omega) ?_)
  refine Ev.step (fun k => by rw [spec_ClueOf.j1]) (Ev.ifp (by simp; omega) (Ev.ifn (by omega) ?_))
  refine Ev.step (fun k => by rw [spec_ClueOf.j2]) (Ev.ifn (by decide) ?_)
  rw [hw, List.drop_eq_nil_of_le (by omega)]
  by_cases c : run > 0
  ·refine Ev.ifp c (Ev.ifp (by omega) (Ev.eq (spec_clueof_end l _ _ h8) ?_))
   simp [clueR, show 0 < run from c]
  ·refine Ev.ifn c (Ev.eq (spec_clueof_end l _ _ h8) ?_)
   have : ¬ 0 < run := c
   simp [clueR, this]
 | succ d ih =>
  intro i run out hi h0 h1 h2
  have hlt : i < l.length := by omega
  have hw : wrap64 ((i : Int) + 1) = ((i + 1 : Nat) : Int) := by rw [w64 (by omega) (by omega)]; omega
  refine Ev.step (fun k => by rw [spec_ClueOf.l0]) (Ev.ifp (by omega) ?_)
  refine Ev.step (fun k => by rw [spec_ClueOf.j1]) (Ev.ifp (by simp; omega) (Ev.ifp (by omega) (Ev.ifp (by omega) ?_)))
  refine Ev.step (fun k => by rw [spec_ClueOf.j2]) ?_
  rw [hw, rdOf_nat l i hlt, List.drop_eq_getElem_cons hlt]
  cases hb : l[i]
  ·refine Ev.ifn (by decide) ?_
   by_cases c : run > 0
   ·refine Ev.ifp c (Ev.ifp (by omega) (Ev.eq (ih (i + 1) 0 (out ++ [run]) (by omega) (by omega) (by omega) (by simp; omega)) ?_))
    simp [clueR, show 0 < run from c]
   ·have hr : run = 0 := by omega
    refine Ev.ifn c (Ev.eq (ih (i + 1) run out (by omega) (by omega) (by omega) (by omega)) ?_)
    simp [clueR, hr]
  ·refine Ev.ifp rfl ?_
   rw [w64 (x := run + 1) (by omega) (by omega)]
   refine Ev.eq (ih (i + 1) (run + 1) out (by omega) (by omega) (by omega) (by omega)) ?_
   simp [clueR]
theorem spec_clueof (l : List Bool) (hl : l.length ≤ 140737488351232) : Ev (fun k => spec_ClueOf.f k l) (clueL l) := by
 unfold spec_ClueOf.f clueL
 by_cases h8 : l.length ≤ 8
 ·exact Ev.eq (spec_clueof_l l h8 l.length 0 0 [] (by omega) (by omega) (by omega) (by simp)) (by rw [if_pos h8]; simp)
 ·refine Ev.step (fun k => by rw [spec_ClueOf.l0]) (Ev.ifp (by omega) ?_)
  exact Ev.step (fun k => by rw [spec_ClueOf.j1]) (Ev.ifn (by simp; omega) (Ev.eq (Ev.now _) (by rw [if_neg h8])))
theorem rdL3_nat (xs : List (List Bool)) (i : Nat) (h : i < xs.length) : rd_L3 xs (i : Int) = xs[i] := by
 simp [rd_L3, List.getD_eq_getElem?_getD, h]
theorem rows_l1 {b : List Int} (hb : Byts b) (x5 : List (List Bool)) (h5 : x5.length ≤ 100) (W : Nat) (hW : W ≤ 5) (x7 : Int) (P : List (List Bool) × Int → Prop) :
  ∀ (e j : Nat) (p : Int) (x8 : List Bool), W = j + e → x8.length = j → 0 ≤ p → p + e ≤ 1000 →
  (∀ (row : List Bool) (q : Int), row.length = W → p ≤ q → q ≤ p + e → ∃ r, Ev (fun k => spec_l20Rows.l0 k 0 (x5 ++ [row]) W (wrap64 (x7 - 1)) b q) r ∧ P r) →
  ∃ r, Ev (fun k => spec_l20Rows.l1 k 0 x5 W x7 x8 j b p) r ∧ P r := by
 intro e
 induction e with
 | zero =>
  intro j p x8 hj h8 hp hp1 K
  obtain ⟨r, hr, hP⟩ := K x8 p (by omega) (by omega) (by omega)
  exact ⟨r, Ev.step (fun k => by rw [spec_l20Rows.l1]) (Ev.ifn (by omega) (Ev.ifp (by omega) hr)), hP⟩
 | succ e ih =>
  intro j p x8 hj h8 hp hp1 K
  have hw : wrap64 ((j : Int) + 1) = ((j + 1 : Nat) : Int) := by rw [w64 (by omega) (by omega)]; omega
  obtain ⟨v, hv, _⟩ := pick_any hb hp (by omega) 2 (by omega)
  obtain ⟨r, hr, hP⟩ := ih (j + 1) (p + 1) (x8 ++ [v == 0]) (by omega) (by simp [h8]) (by omega) (by omega) (fun row q a1 a2 a3 => K row q a1 (by omega) (by omega))
  refine ⟨r, ?_, hP⟩
  refine Ev.step (fun k => by rw [spec_l20Rows.l1]) ?_
  rw [hw]
  refine Ev.ifp (by omega) ?_
  refine Ev.bind hv ?_
  exact Ev.ifp (by omega) hr
theorem rows_l0 {b : List Int} (hb : Byts b) (W : Nat) (hW : W ≤ 5) : ∀ (d : Nat) (p : Int) (x5 : List (List Bool)), d + x5.length ≤ 50 → (∀ x ∈ x5, x.length = W) → 0 ≤ p → p + 10 * d ≤ 500 →
  ∃ r : List (List Bool) × Int, Ev (fun k => spec_l20Rows.l0 k 0 x5 W d b p) r ∧ (r.1.length = x5.length + d ∧ (∀ x ∈ r.1, x.length = W) ∧ p ≤ r.2 ∧ r.2 ≤ p + 10 * d) := by
 intro d
 induction d with
 | zero =>
  intro p x5 h5 hl hp hp1
  have ho : Ev (fun k => spec_l20Rd_odd.f k b p 0) (false, p) := by
   unfold spec_l20Rd_odd.f
   exact Ev.ifn (by omega) (Ev.now _)
  have h : Ev (fun k => spec_l20Rows.l0 k 0 x5 W ((0 : Nat) : Int) b p) (x5, p) := by
   refine Ev.step (fun k => by rw [spec_l20Rows.l0]) ?_
   refine Ev.ifn (by omega) ?_
   refine Ev.bind ho ?_
   exact Ev.ifn (by simp) (Ev.now _)
  exact ⟨(x5, p), h, by simp, hl, by simp, by simp⟩
 | succ d ih =>
  intro p x5 h5 hl hp hp1
  have hw : wrap64 (((d + 1 : Nat) : Int) - 1) = (d : Int) := by rw [w64 (by omega) (by omega)]; omega
  obtain ⟨r, hr, hP⟩ := rows_l1 hb x5 (by omega) W hW ((d + 1 : Nat) : Int) (fun r => r.1.length = x5.length + (d + 1) ∧ (∀ x ∈ r.1, x.length = W) ∧ p ≤ r.2 ∧ r.2 ≤ p + 10 * ((d + 1 : Nat) : Int)) W 0 p [] (by omega) rfl hp (by omega) (fun row q h1 h2 h3 => by
   obtain ⟨r, hr, g1, g2, g3, g4⟩ := ih q (x5 ++ [row]) (by simp only [List.length_append, List.length_cons, List.length_nil]; omega) (by intro x hx; rcases List.mem_append.1 hx with hx | hx; exact hl x hx; simp at hx; rw [hx]; exact h1) (by omega) (by omega)
   refine ⟨r, by rw [hw]; exact hr, by rw [g1]; simp only [List.length_append, List.length_cons, List.length_nil]; omega, g2, by omega, by omega⟩)
  have hr' : Ev (fun k => spec_l20Rows.l1 k 0 x5 W ((d + 1 : Nat) : Int) [] 0 b p) r := hr
  have h : Ev (fun k => spec_l20Rows.l0 k 0 x5 W ((d + 1 : Nat) : Int) b p) r := by
   refine Ev.step (fun k => by rw [spec_l20Rows.l0]) ?_
   exact Ev.ifp (by omega) hr'
  exact ⟨r, h, hP⟩
theorem rows_any {b : List Int} (hb : Byts b) : ∃ (rows : List (List Bool)) (W : Nat) (q : Int), Ev (fun k => spec_l20Rows.f k b 0 0) (rows, q) ∧ 1 ≤ rows.length ∧ rows.length ≤ 5 ∧ (∀ x ∈ rows, x.length = W) ∧ 1 ≤ W ∧ W ≤ 5 ∧ 0 ≤ q ∧ q ≤ 100 := by
 obtain ⟨u, hu, u0, u1, _⟩ := pick_any hb (p := 0) (by omega) (by omega) 5 (by omega)
 have u1 := u1 (by omega)
 obtain ⟨v, hv, v0, v1, _⟩ := pick_any hb (p := 0 + 1) (by omega) (by omega) 5 (by omega)
 have v1 := v1 (by omega)
 have hwu : wrap64 (1 + u) = ((u.toNat + 1 : Nat) : Int) := by rw [w64 (by omega) (by omega)]; omega
 have hwv : wrap64 (1 + v) = ((v.toNat + 1 : Nat) : Int) := by rw [w64 (by omega) (by omega)]; omega
 obtain ⟨⟨rows, q⟩, hr, g1, g2, g3, g4⟩ := rows_l0 hb (u.toNat + 1) (by omega) (v.toNat + 1) (0 + 1 + 1) [] (by simp only [List.length_nil]; omega) (by simp) (by omega) (by omega)
 simp only [List.length_nil] at g1 g3 g4
 refine ⟨rows, u.toNat + 1, q, ?_, by omega, by omega, g2, by omega, by omega, by omega, by omega⟩
 unfold spec_l20Rows.f
 refine Ev.bind hu (Ev.bind hv ?_)
 rw [hwu, hwv]
 exact hr
theorem ownrows_l (l : List (List Bool)) (hl : l.length ≤ 100) (hx : ∀ x ∈ l, x.length ≤ 100) : ∀ (d i : Nat), l.length = i + d → Ev (fun k => spec_l1OwnRowsBool.l0 k l (l.take i) i) l := by
 intro d
 induction d with
 | zero =>
  intro i hi
  rw [List.take_of_length_le (by omega)]
  exact Ev.step (fun k => by rw [spec_l1OwnRowsBool.l0]) (Ev.ifn (by omega) (Ev.now _))
 | succ d ih =>
  intro i hi
  have hw : wrap64 ((i : Int) + 1) = ((i + 1 : Nat) : Int) := by rw [w64 (by omega) (by omega)]; omega
  have hlt : i < l.length := by omega
  have h1 := hx _ (List.getElem_mem hlt)
  have h := ih (i + 1) (by omega)
  rw [List.take_succ_eq_append_getElem hlt] at h
  refine Ev.step (fun k => by rw [spec_l1OwnRowsBool.l0]) ?_
  rw [rdL3_nat l i hlt, hw]
  refine Ev.ifp (by omega) ?_
  refine Ev.bindc rfl ?_
  refine Ev.ifp (by omega) (Ev.ifp (by simp only [List.length_nil]; omega) (Ev.ifp (by rw [List.length_take]; omega) ?_))
  rw [List.nil_append]
  exact h
theorem column_l (l : List (List Bool)) (hl : l.length ≤ 100) (c W : Nat) (hx : ∀ x ∈ l, x.length = W) (hc : c < W) : ∀ (d i : Nat) (out : List Bool), l.length = i + d → out.length = i → ∃ r : List Bool, Ev (fun k => spec_l13Column.l0 k l c out i) r ∧ r.length = l.length := by
 intro d
 induction d with
 | zero =>
  intro i out hi ho
  exact ⟨out, Ev.step (fun k => by rw [spec_l13Column.l0]) (Ev.ifn (by omega) (Ev.now _)), by omega⟩
 | succ d ih =>
  intro i out hi ho
  have hw : wrap64 ((i : Int) + 1) = ((i + 1 : Nat) : Int) := by rw [w64 (by omega) (by omega)]; omega
  have hlt : i < l.length := by omega
  have h1 := hx _ (List.getElem_mem hlt)
  obtain ⟨r, hr, hl2⟩ := ih (i + 1) (out ++ [rdOf false l[i] c]) (by omega) (by simp [ho])
  refine ⟨r, ?_, hl2⟩
  refine Ev.step (fun k => by rw [spec_l13Column.l0]) ?_
  rw [rdL3_nat l i hlt, hw]
  exact Ev.ifp (by omega) (Ev.ifp (by omega) (Ev.ifp (by omega) (Ev.ifp (by omega) (Ev.ifp (by omega) hr))))
theorem picof_l1 (l : List (List Bool)) (hl : l.length ≤ 5) (hl1 : 1 ≤ l.length) (W : Nat) (hx : ∀ x ∈ l, x.length = W) (hW : W ≤ 5) (A : List (List Int)) : ∀ (d c : Nat) (B : List (List Int)), W = c + d → B.length = c → (∀ x ∈ B, x.length ≤ 9) →
  ∃ B' : List (List Int), Ev (fun k => spec_PictureOf.l1 k l c A B) (A, B', true) ∧ B'.length = W ∧ ∀ x ∈ B', x.length ≤ 9 := by
 intro d
 induction d with
 | zero =>
  intro c B hc hB hB9
  refine ⟨B, ?_, by omega, hB9⟩
  have := hx _ (List.getElem_mem (show 0 < l.length by omega))
  refine Ev.step (fun k => by rw [spec_PictureOf.l1]) ?_
  rw [show rd_L3 l 0 = l[0] from rdL3_nat l 0 (by omega)]
  exact Ev.ifp (by omega) (Ev.ifn (by omega) (Ev.now _))
 | succ d ih =>
  intro c B hc hB hB9
  have hw : wrap64 ((c : Int) + 1) = ((c + 1 : Nat) : Int) := by rw [w64 (by omega) (by omega)]; omega
  obtain ⟨col, hcol, hcl⟩ := column_l l (by omega) c W hx (by omega) l.length 0 [] (by omega) rfl
  obtain ⟨B', hB', g1, g2⟩ := ih (c + 1) (B ++ [clueL col]) (by omega) (by simp [hB]) (by intro x hx2; rcases List.mem_append.1 hx2 with hx2 | hx2; exact hB9 x hx2; simp at hx2; rw [hx2]; exact clueL_len _)
  refine ⟨B', ?_, g1, g2⟩
  have := hx _ (List.getElem_mem (show 0 < l.length by omega))
  have hcf : Ev (fun k => spec_l13Column.f k l c) col := by unfold spec_l13Column.f; exact hcol
  refine Ev.step (fun k => by rw [spec_PictureOf.l1]) ?_
  rw [show rd_L3 l 0 = l[0] from rdL3_nat l 0 (by omega), hw]
  refine Ev.ifp (by omega) (Ev.ifp (by omega) ?_)
  refine Ev.bind hcf (Ev.bind (spec_clueof col (by omega)) ?_)
  exact Ev.ifp (by omega) hB'
theorem picof_l0 (l : List (List Bool)) (hl : l.length ≤ 5) (hl1 : 1 ≤ l.length) (W : Nat) (hx : ∀ x ∈ l, x.length = W) (hW : W ≤ 5) : ∀ (d i : Nat) (A : List (List Int)), l.length = i + d → A.length = i → (∀ x ∈ A, x.length ≤ 9) →
  ∃ A' B' : List (List Int), Ev (fun k => spec_PictureOf.l0 k l i A) (A', B', true) ∧ A'.length = l.length ∧ B'.length = W ∧ (∀ x ∈ A', x.length ≤ 9) ∧ ∀ x ∈ B', x.length ≤ 9 := by
 intro d
 induction d with
 | zero =>
  intro i A hi hA hA9
  obtain ⟨B', h, g1, g2⟩ := picof_l1 l hl hl1 W hx hW A W 0 [] (by omega) rfl (by simp)
  refine ⟨A, B', ?_, by omega, g1, hA9, g2⟩
  refine Ev.step (fun k => by rw [spec_PictureOf.l0]) ?_
  exact Ev.ifn (by omega) h
 | succ d ih =>
  intro i A hi hA hA9
  have hw : wrap64 ((i : Int) + 1) = ((i + 1 : Nat) : Int) := by rw [w64 (by omega) (by omega)]; omega
  have hlt : i < l.length := by omega
  have h0 := hx _ (List.getElem_mem hlt)
  have h1 := hx _ (List.getElem_mem (show 0 < l.length by omega))
  obtain ⟨A', B', h, g⟩ := ih (i + 1) (A ++ [clueL l[i]]) (by omega) (by simp [hA]) (by intro x hx2; rcases List.mem_append.1 hx2 with hx2 | hx2; exact hA9 x hx2; simp at hx2; rw [hx2]; exact clueL_len _)
  refine ⟨A', B', ?_, g⟩
  refine Ev.step (fun k => by rw [spec_PictureOf.l0]) ?_
  rw [rdL3_nat l i hlt, show rd_L3 l 0 = l[0] from rdL3_nat l 0 (by omega), hw]
  refine Ev.ifp (by omega) (Ev.ifp (by omega) (Ev.ifp (by omega) (Ev.ifp (by omega) ?_)))
  exact Ev.bind (spec_clueof l[i] (by omega)) (Ev.ifp (by omega) h)
theorem l1In_ff (x a b : Int) : spec_l1In.f x a b = some (decide (a ≤ x ∧ x ≤ b)) := by
 unfold spec_l1In.f
 by_cases c : x ≥ a
 ·rw [if_pos c]; simp [show a ≤ x from c]
 ·rw [if_neg c]; simp [show ¬ a ≤ x from c]
theorem picof_any (l : List (List Bool)) (hl : l.length ≤ 5) (hl1 : 1 ≤ l.length) (W : Nat) (hx : ∀ x ∈ l, x.length = W) (hW1 : 1 ≤ W) (hW : W ≤ 5) :
  ∃ A' B' : List (List Int), Ev (fun k => spec_PictureOf.f k l) (A', B', true) ∧ A'.length = l.length ∧ B'.length = W ∧ (∀ x ∈ A', x.length ≤ 9) ∧ ∀ x ∈ B', x.length ≤ 9 := by
 obtain ⟨A', B', h, g⟩ := picof_l0 l hl hl1 W hx hW l.length 0 [] (by omega) rfl (by simp)
 have h1 := hx _ (List.getElem_mem (show 0 < l.length by omega))
 refine ⟨A', B', ?_, g⟩
 unfold spec_PictureOf.f
 have ho : Ev (fun k => spec_l1OwnRowsBool.f k l) l := by
  unfold spec_l1OwnRowsBool.f
  exact ownrows_l l (by omega) (fun x hx2 => by rw [hx x hx2]; omega) l.length 0 (by omega)
 refine Ev.bind ho ?_
 refine Ev.bindc (l1In_ff _ _ _) ?_
 rw [show rd_L3 l 0 = l[0] from rdL3_nat l 0 (by omega)]
 have d1 : decide (1 ≤ (l.length : Int) ∧ (l.length : Int) ≤ 5) = true := decide_eq_true ⟨by omega, by omega⟩
 have d2 : decide ((1 : Int) ≤ ((l[0].length : Nat) : Int) ∧ ((l[0].length : Nat) : Int) ≤ (5 : Int)) = true := decide_eq_true ⟨by omega, by omega⟩
 refine Ev.ifp d1 (Ev.ifp (by omega) ?_)
 refine Ev.bindc (l1In_ff _ _ _) ?_
 rw [d2]
 refine Ev.step (fun k => by rw [spec_PictureOf.j0]) ?_
 exact Ev.ifn (by simp) h
theorem set_len9 {A : List (List Int)} (h : ∀ x ∈ A, x.length ≤ 9) (i : Nat) (v : List Int) (hv : v.length ≤ 9) : ∀ x ∈ A.set i v, x.length ≤ 9 := by
 intro x hx
 rcases List.mem_or_eq_of_mem_set hx with hx | hx
 ·exact h x hx
 ·rw [hx]; exact hv
theorem pic_j0 {b : List Int} (hb : Byts b) (n : Int) (hn : n ≤ 100) (A B : List (List Int)) (hA : 1 ≤ A.length) (hA5 : A.length ≤ 5) (hB : 1 ≤ B.length) (hB5 : B.length ≤ 5) (hA9 : ∀ x ∈ A, x.length ≤ 9) (hB9 : ∀ x ∈ B, x.length ≤ 9) (p : Int) (hp : 0 ≤ p) (hp1 : p ≤ 1000) :
  ∃ (A' B' : List (List Int)) (q : Int), Ev (fun k => spec_l20Picture.j0 k n b p A B) (A', B', q) ∧ A'.length ≤ 5 ∧ B'.length ≤ 5 ∧ (∀ x ∈ A', x.length ≤ 9) ∧ (∀ x ∈ B', x.length ≤ 9) ∧ p ≤ q ∧ q ≤ p + 2 := by
 obtain ⟨o, q, e, hq1, hq2⟩ := odd_any hb hp (by omega) n (by omega)
 cases o with
 | false =>
  refine ⟨A, B, q, ?_, hA5, hB5, hA9, hB9, by omega, by omega⟩
  refine Ev.step (fun k => by rw [spec_l20Picture.j0]) ?_
  exact Ev.bind e (Ev.ifn (by simp) (Ev.now _))
 | true =>
  obtain ⟨v, hv, v0, v1, _⟩ := pick_any hb (p := q) (by omega) (by omega) 3 (by omega)
  by_cases c0 : v = 0
  ·refine ⟨[], B, q + 1, ?_, by simp, hB5, by simp, hB9, by omega, by omega⟩
   refine Ev.step (fun k => by rw [spec_l20Picture.j0]) ?_
   exact Ev.bind e (Ev.ifp rfl (Ev.bind hv (Ev.ifp c0 (Ev.now _))))
  ·by_cases c1 : v = 1
   ·refine ⟨A, B.set 0 [6], q + 1, ?_, hA5, by simpa using hB5, hA9, set_len9 hB9 _ _ (by simp), by omega, by omega⟩
    refine Ev.step (fun k => by rw [spec_l20Picture.j0]) ?_
    exact Ev.bind e (Ev.ifp rfl (Ev.bind hv (Ev.ifn c0 (Ev.ifp c1 (Ev.ifp (by omega) (Ev.now _))))))
   ·refine ⟨A.set 0 [0], B, q + 1, ?_, by simpa using hA5, hB5, set_len9 hA9 _ _ (by simp), hB9, by omega, by omega⟩
    refine Ev.step (fun k => by rw [spec_l20Picture.j0]) ?_
    exact Ev.bind e (Ev.ifp rfl (Ev.bind hv (Ev.ifn c0 (Ev.ifn c1 (Ev.ifp (by omega) (Ev.now _))))))
theorem pic_any {b : List Int} (hb : Byts b) (n : Int) (hn : n ≤ 100) :
  ∃ (A' B' : List (List Int)) (q : Int), Ev (fun k => spec_l20Picture.f k b 0 n) (A', B', q) ∧ A'.length ≤ 5 ∧ B'.length ≤ 5 ∧ (∀ x ∈ A', x.length ≤ 9) ∧ (∀ x ∈ B', x.length ≤ 9) ∧ 0 ≤ q ∧ q ≤ 200 := by
 obtain ⟨rows, W, q, hr, r1, r5, rW, w1, w5, q0, q1⟩ := rows_any hb
 obtain ⟨A, B, hp, gA, gB, gA9, gB9⟩ := picof_any rows r5 r1 W rW w1 w5
 obtain ⟨o, q2, e, hq1, hq2⟩ := odd_any hb q0 (by omega) 5 (by omega)
 cases o with
 | false =>
  obtain ⟨A', B', q', h, h1, h2, h3, h4, h5, h6⟩ := pic_j0 hb n hn A B (by omega) (by omega) (by omega) (by omega) gA9 gB9 q2 (by omega) (by omega)
  exact ⟨A', B', q', by unfold spec_l20Picture.f; exact Ev.bind hr (Ev.bind hp (Ev.bind e (Ev.ifn (by simp) h))), h1, h2, h3, h4, by omega, by omega⟩
 | true =>
  obtain ⟨u, hu, u0, u1, _⟩ := pick_any hb (p := q2) (by omega) (by omega) (A.length : Int) (by omega)
  have u1 := u1 (by omega)
  obtain ⟨v, hv, v0, v1, _⟩ := pick_any hb (p := q2 + 1) (by omega) (by omega) 2 (by omega)
  have v1 := v1 (by omega)
  have hl2 : (lit2 v).length ≤ 9 := by unfold lit2; split <;> simp
  obtain ⟨A', B', q', h, h1, h2, h3, h4, h5, h6⟩ := pic_j0 hb n hn (A.set u.toNat (lit2 v)) B (by simp; omega) (by simp; omega) (by omega) (by omega) (set_len9 gA9 _ _ hl2) gB9 (q2 + 1 + 1) (by omega) (by omega)
  exact ⟨A', B', q', by unfold spec_l20Picture.f; exact Ev.bind hr (Ev.bind hp (Ev.bind e (Ev.ifp rfl (Ev.bind hu (Ev.bind hv (Ev.ifp ⟨u0, by omega⟩ (Ev.ifp (by omega) h))))))), h1, h2, h3, h4, by omega, by omega⟩
/-- What KnownValid answers. -/
def knownV (l : List Int) : Bool := l.all (fun x => decide (-1 ≤ x ∧ x ≤ 1)) && decide (1 ≤ (l.length : Int) ∧ (l.length : Int) ≤ 8)
theorem impl_known_l (l : List Int) (hl : l.length ≤ 140737488351232) : ∀ (d i : Nat), l.length = i + d →
  Ev (fun k => impl_KnownValid.l0 k l l l.length i) ((l.drop i).all (fun x => decide (-1 ≤ x ∧ x ≤ 1)) && decide (1 ≤ (l.length : Int) ∧ (l.length : Int) ≤ 8)) := by
 intro d
 induction d with
 | zero =>
  intro i hi
  refine Ev.step (fun k => by rw [impl_KnownValid.l0]) (Ev.ifn (by omega) ?_)
  rw [List.drop_eq_nil_of_le (by omega)]
  by_cases c : (l.length : Int) ≥ 1
  ·exact Ev.ifp c (Ev.eq (Ev.now _) (by simp; omega))
  ·exact Ev.ifn c (Ev.eq (Ev.now _) (by simp; omega))
 | succ d ih =>
  intro i hi
  have hlt : i < l.length := by omega
  have hw : wrap64 ((i : Int) + 1) = ((i + 1 : Nat) : Int) := by rw [w64 (by omega) (by omega)]; omega
  refine Ev.step (fun k => by rw [impl_KnownValid.l0]) ?_
  rw [rd_nat l i hlt, hw, List.drop_eq_getElem_cons hlt, List.all_cons]
  refine Ev.ifp (by omega) (Ev.ifp (by omega) (Ev.ifp (by omega) ?_))
  by_cases c1 : l[i] < -1
  ·exact Ev.ifp c1 (Ev.eq (Ev.now _) (by simp; omega))
  refine Ev.ifn c1 ?_
  by_cases c2 : l[i] > 1
  ·exact Ev.ifp c2 (Ev.eq (Ev.now _) (by simp; omega))
  ·have h : -1 ≤ l[i] ∧ l[i] ≤ 1 := by omega
   exact Ev.ifn c2 (Ev.eq (ih (i + 1) (by omega)) (by simp [h]))
theorem impl_known (l : List Int) (hl : l.length ≤ 140737488351232) : Ev (fun k => impl_KnownValid.f k l) (knownV l) := by
 unfold impl_KnownValid.f
 exact impl_known_l l hl l.length 0 (by omega)
/-! Binary digits. -/
def bit (m : Int) (d : Nat) : Int := m / 2 ^ d % 2
theorem shr_bit {m : Int} (h0 : 0 ≤ m) (d : Nat) (hd : d ≤ 64) : Int.tmod (shr .i64 m (d : Int)) 2 = bit m d := by
 have e : shr .i64 m (d : Int) = m / 2 ^ d := by
  unfold shr
  rw [show min (d : Int).toNat IntKind.i64.bits = d from by simp [IntKind.bits]; omega]
 rw [e, Int.tmod_eq_emod_of_nonneg (Int.ediv_nonneg h0 (Int.pow_nonneg (by decide)))]
 rfl
theorem shr_nat (m : Int) (d : Nat) (hd : d ≤ 64) : shr .i64 m (d : Int) = m / 2 ^ d := by
 unfold shr
 rw [show min (d : Int).toNat IntKind.i64.bits = d from by simp [IntKind.bits]; omega]
theorem and1_bit {x : Int} (h0 : 0 ≤ x) (h1 : x < 4611686018427387904) : Go.bits .and .i64 x 1 = x % 2 := by
 have := bits_mask .i64 62 (by decide) (fun n h h' => by rw [IntKind.wrap_i64]; omega) 1 (by decide) x h0 h1
 simpa using this
theorem bit_nat (a d : Nat) : bit (a : Int) d = if a.testBit d then 1 else 0 := by
 unfold bit
 rw [Nat.testBit_eq_decide_div_mod_eq]
 have e : ((a : Int) / 2 ^ d % 2) = ((a / 2 ^ d % 2 : Nat) : Int) := by push_cast; rfl
 rw [e]
 by_cases h : a / 2 ^ d % 2 = 1
 ·simp [h]
 ·have : a / 2 ^ d % 2 = 0 := by omega
  simp [this]
/-! The lines of a number of cells, by their numbers. -/
def lineN (m n : Nat) : List Bool := (List.range n).map (fun i => m.testBit i)
theorem lineN_length (m n : Nat) : (lineN m n).length = n := by simp [lineN]
theorem lineN_get (m n i : Nat) (h : i < (lineN m n).length) : (lineN m n)[i] = m.testBit i := by simp [lineN]
def bitI (m i : Nat) : Int := if m.testBit i then 1 else 0
/-- Does the line agree with what is known from cell i on? -/
def fitD (m : Nat) : Nat → List Int → Bool
 | _, [] => true
 | i, k :: ks => (decide (k < 0) || k == bitI m i) && fitD m (i + 1) ks
def isLine (clue kn : List Int) (m : Nat) : Bool := fitD m 0 kn && decide (clueL (lineN m kn.length) = clue)
def LFr (clue kn : List Int) (a d : Nat) : List Nat := (List.range' a d).filter (isLine clue kn)
def LF (clue kn : List Int) : List Nat := LFr clue kn 0 (2 ^ kn.length)
theorem LFr_cons (clue kn : List Int) (a d : Nat) : LFr clue kn a (d + 1) = if isLine clue kn a then a :: LFr clue kn (a + 1) d else LFr clue kn (a + 1) d := by
 unfold LFr
 rw [List.range'_succ, List.filter_cons]
theorem LFr_len (clue kn : List Int) (a d : Nat) : (LFr clue kn a d).length ≤ d := by
 have := List.length_filter_le (isLine clue kn) (List.range' a d)
 simpa [LFr] using this
theorem pow_le (n : Nat) (h : n ≤ 8) : 1 ≤ 2 ^ n ∧ 2 ^ n ≤ 256 := by
 have : n = 0 ∨ n = 1 ∨ n = 2 ∨ n = 3 ∨ n = 4 ∨ n = 5 ∨ n = 6 ∨ n = 7 ∨ n = 8 := by omega
 rcases this with rfl | rfl | rfl | rfl | rfl | rfl | rfl | rfl | rfl <;> decide
theorem shl_n (n : Nat) (h : n ≤ 8) : shl .i64 1 (n : Int) = ((2 ^ n : Nat) : Int) := by
 have : n = 0 ∨ n = 1 ∨ n = 2 ∨ n = 3 ∨ n = 4 ∨ n = 5 ∨ n = 6 ∨ n = 7 ∨ n = 8 := by omega
 rcases this with rfl | rfl | rfl | rfl | rfl | rfl | rfl | rfl | rfl <;> decide +kernel
theorem bit_eqI (m i : Nat) (hm : m < 4611686018427387904) (hi : i ≤ 64) : Go.bits .and .i64 (shr .i64 (m : Int) (i : Int)) 1 = bitI m i := by
 rw [shr_nat _ _ hi, and1_bit (Int.ediv_nonneg (by omega) (Int.pow_nonneg (by decide))) (by
  have : (m : Int) / 2 ^ i ≤ m := Int.ediv_le_self _ (by omega)
  omega)]
 exact bit_nat m i
theorem bitI_beq (m i : Nat) : (bitI m i == 1) = m.testBit i := by
 unfold bitI; cases m.testBit i <;> rfl
/-- What LineWays answers. -/
def waysV (clue kn : List Int) : Int := if knownV kn = true ∧ clueV clue kn.length = true then ((LF clue kn).length : Int) else -1
theorem knownV_ok {kn : List Int} (h : knownV kn = true) : 1 ≤ kn.length ∧ kn.length ≤ 8 ∧ ∀ x ∈ kn, -1 ≤ x ∧ x ≤ 1 := by
 unfold knownV at h
 simp only [Bool.and_eq_true, decide_eq_true_eq, List.all_eq_true] at h
 exact ⟨by omega, by omega, h.1⟩
/-- What is known of cell j, if these are all the lines. -/
def cls (L : List Nat) (j : Nat) : Int := if L.all (fun m => !m.testBit j) = true then 0 else if L.all (fun m => m.testBit j) = true then 1 else -1
/-- What LineForced answers. -/
def forcedV (clue kn : List Int) : List Int × Bool :=
 if knownV kn = true ∧ clueV clue kn.length = true then
  if LF clue kn = [] then (kn, false) else ((List.range kn.length).map (cls (LF clue kn)), true)
 else ([], false)
theorem LF_lt {clue kn : List Int} {m : Nat} (h8 : kn.length ≤ 8) (h : m ∈ LF clue kn) : m < 256 := by
 have hp := pow_le _ h8
 unfold LF LFr at h
 have := (List.mem_filter.1 h).1
 rw [List.mem_range'_1] at this
 omega
theorem impl_clueof_l (l : List Bool) (h8 : l.length ≤ 8) : ∀ (d i : Nat), l.length = i + d →
  Ev (fun k => impl_ClueOf.l0 k l (clueR 0 (l.take i)) l l.length i) (clueR 0 l) := by
 intro d
 induction d with
 | zero =>
  intro i hi
  refine Ev.step (fun k => by rw [impl_ClueOf.l0]) (Ev.ifn (by omega) (Ev.eq (Ev.now _) ?_))
  rw [List.take_of_length_le (by omega)]
 | succ d ih =>
  intro i hi
  have hlt : i < l.length := by omega
  have hw : wrap64 ((i : Int) + 1) = ((i + 1 : Nat) : Int) := by rw [w64 (by omega) (by omega)]; omega
  have hlen := clueR_len (l.take i) 0
  rw [List.length_take] at hlen
  have h1 := ih (i + 1) (by omega)
  have ht : l.take (i + 1) = l.take i ++ [l[i]] := by rw [List.take_succ_eq_append_getElem hlt]
  refine Ev.step (fun k => by rw [impl_ClueOf.l0]) (Ev.ifp (by omega) (Ev.ifp (by omega) (Ev.ifp (by omega) ?_)))
  rw [hw, rdOf_nat l i hlt]
  cases hb : l[i]
  ·refine Ev.ifn (by decide) ?_
   rw [ht, hb, clueR_f] at h1
   exact h1
  ·refine Ev.ifp rfl ?_
   by_cases c : (i : Int) > 0
   ·have hlt1 : i - 1 < l.length := by omega
    have hw1 : wrap64 ((i : Int) - 1) = ((i - 1 : Nat) : Int) := by rw [w64 (by omega) (by omega)]; omega
    have ht1 : l.take i = l.take (i - 1) ++ [l[i - 1]] := by
     have := List.take_succ_eq_append_getElem hlt1
     rw [show i - 1 + 1 = i by omega] at this
     exact this
    rw [hw1, rdOf_nat l (i - 1) hlt1]
    refine Ev.ifp c (Ev.ifp (by omega) (Ev.ifp (by omega) ?_))
    cases hb1 : l[i - 1]
    ·refine Ev.ifn (by decide) (Ev.ifp (by omega) ?_)
     rw [ht, hb, ht1, hb1, clueR_ft] at h1
     rw [ht1, hb1, clueR_f]
     exact h1
    ·obtain ⟨ys, z, g1, g2⟩ := clueR_tt (l.take (i - 1)) 0 (by omega)
     have e1 : clueR 0 (l.take i) = ys ++ [z] := by rw [ht1, hb1]; exact g1
     have e2 : clueR 0 (l.take (i + 1)) = ys ++ [z + 1] := by rw [ht, hb, ht1, hb1]; exact g2
     have hz := clueR_le (l.take i) 0 (by omega) z (by rw [e1]; simp)
     rw [List.length_take] at hz
     rw [e1] at hlen ⊢
     rw [e2] at h1
     have hyl : (ys ++ [z]).length = ys.length + 1 := by simp
     have hw2 : wrap64 (((ys ++ [z]).length : Int) - 1) = ((ys.length : Nat) : Int) := by rw [w64 (by omega) (by omega)]; omega
     have hr : rd (ys ++ [z]) ((ys.length : Nat) : Int) = z := by rw [rd_nat _ _ (by omega)]; simp
     rw [hw2, hr, w64 (x := z + 1) (by omega) (by omega)]
     refine Ev.ifp rfl (Ev.ifp (by omega) (Ev.ifp (by omega) ?_))
     have hs : (ys ++ [z]).set ((ys.length : Nat) : Int).toNat (z + 1) = ys ++ [z + 1] := by
      rw [Int.toNat_natCast, List.set_append_right _ _ (Nat.le_refl _)]; simp
     rw [hs]; exact h1
   ·have hi0 : i = 0 := by omega
    subst hi0
    refine Ev.ifn c (Ev.ifp (by omega) ?_)
    rw [ht, hb] at h1
    simpa [clueR] using h1
theorem impl_clueof (l : List Bool) (hl : l.length ≤ 140737488351232) : Ev (fun k => impl_ClueOf.f k l) (clueL l) := by
 unfold impl_ClueOf.f clueL
 by_cases h8 : l.length ≤ 8
 ·refine Ev.ifn (by omega) (Ev.eq (?_ : Ev _ (clueR 0 l)) (by rw [if_pos h8]))
  have := impl_clueof_l l h8 l.length 0 (by omega)
  simpa [clueR] using this
 ·exact Ev.ifp (by omega) (Ev.eq (Ev.now _) (by rw [if_neg h8]))
theorem impl_lineOf_l (m n : Nat) (hm : m < 4611686018427387904) (hn : n ≤ 60) : ∀ (d i : Nat) (ys : List Bool), ys.length = n → n = i + d →
  Ev (fun k => impl_lineOf.l0 k m ys n i) (ys.take i ++ (lineN m n).drop i) := by
 intro d
 induction d with
 | zero =>
  intro i ys hy hi
  refine Ev.step (fun k => by rw [impl_lineOf.l0]) (Ev.ifn (by omega) (Ev.eq (Ev.now _) ?_))
  rw [List.take_of_length_le (by omega), List.drop_eq_nil_of_le (by rw [lineN_length]; omega)]; simp
 | succ d ih =>
  intro i ys hy hi
  have hw : wrap64 ((i : Int) + 1) = ((i + 1 : Nat) : Int) := by rw [w64 (by omega) (by omega)]; omega
  refine Ev.step (fun k => by rw [impl_lineOf.l0]) (Ev.ifp (by omega) (Ev.ifp (by omega) (Ev.ifp (by omega) ?_)))
  rw [hw, bit_eqI m i hm (by omega), bitI_beq, Int.toNat_natCast]
  refine Ev.eq (ih (i + 1) (ys.set i (m.testBit i)) (by simp [hy]) (by omega)) ?_
  rw [List.take_add_one, List.take_set_of_le (Nat.le_refl i), List.drop_eq_getElem_cons (l := lineN m n) (i := i) (by rw [lineN_length]; omega), lineN_get]
  simp [show i < ys.length by omega]
theorem impl_lineOf_ev (m n : Nat) (hm : m < 4611686018427387904) (hn : n ≤ 60) : Ev (fun k => impl_lineOf.f k m n) (lineN m n) := by
 unfold impl_lineOf.f
 refine Ev.ifp (by omega) (Ev.ifp (by omega) (Ev.bindc rfl ?_))
 have := impl_lineOf_l m n hm hn n 0 (List.replicate n false) (by simp) (by omega)
 simpa using this
theorem equal_l (a b : List Int) (h : a.length = b.length) (hl : a.length ≤ 140737488351232) : ∀ (d i : Nat), a.length = i + d → Ev (fun k => slices_Equal_int_int.l0 k a b a.length i) (decide (a.drop i = b.drop i)) := by
 intro d
 induction d with
 | zero =>
  intro i hi
  refine Ev.step (fun k => by rw [slices_Equal_int_int.l0]) (Ev.ifn (by omega) (Ev.eq (Ev.now _) ?_))
  rw [List.drop_eq_nil_of_le (by omega), List.drop_eq_nil_of_le (by omega)]; simp
 | succ d ih =>
  intro i hi
  have ha : i < a.length := by omega
  have hb : i < b.length := by omega
  have hw : wrap64 ((i : Int) + 1) = ((i + 1 : Nat) : Int) := by rw [w64 (by omega) (by omega)]; omega
  refine Ev.step (fun k => by rw [slices_Equal_int_int.l0]) (Ev.ifp (by omega) (Ev.ifp (by omega) (Ev.ifp (by omega) (Ev.ifp (by omega) ?_))))
  rw [rd_nat a i ha, rd_nat b i hb, hw, List.drop_eq_getElem_cons ha, List.drop_eq_getElem_cons hb]
  by_cases c : a[i] = b[i]
  ·exact Ev.ifp c (Ev.eq (ih (i + 1) (by omega)) (by rw [c]; simp only [List.cons.injEq, true_and]))
  ·exact Ev.ifn c (Ev.eq (Ev.now _) (by simp only [List.cons.injEq, c, false_and, decide_false]))
theorem equal_ev (a b : List Int) (hl : a.length ≤ 140737488351232) : Ev (fun k => slices_Equal_int_int.f k a b) (decide (a = b)) := by
 unfold slices_Equal_int_int.f
 by_cases h : a.length = b.length
 ·exact Ev.ifp (by omega) (Ev.eq (equal_l a b h hl a.length 0 (by omega)) (by simp))
 ·refine Ev.ifn (by omega) (Ev.eq (Ev.now false) ?_)
  symm; simp; intro e; exact h (by rw [e])
theorem impl_fits (clue kn acc : List Int) (m N : Nat) (hm : m < 4611686018427387904) (hk : kn.length ≤ 60) (r : List Int) : ∀ (d i : Nat) (fl : Bool), kn.length = i + d →
  Ev (fun k => impl_linesFor.l1 k clue kn acc m (fl && fitD m i (kn.drop i)) N m kn kn.length kn.length) r →
  Ev (fun k => impl_linesFor.l1 k clue kn acc m fl N m kn kn.length i) r := by
 intro d
 induction d with
 | zero =>
  intro i fl hi H
  rw [List.drop_eq_nil_of_le (by omega)] at H
  have : kn.length = i := by omega
  rw [this] at H ⊢
  simpa [fitD] using H
 | succ d ih =>
  intro i fl hi H
  have hlt : i < kn.length := by omega
  have hw : wrap64 ((i : Int) + 1) = ((i + 1 : Nat) : Int) := by rw [w64 (by omega) (by omega)]; omega
  rw [List.drop_eq_getElem_cons hlt] at H
  refine Ev.step (fun k => by rw [impl_linesFor.l1]) (Ev.ifp (by omega) (Ev.ifp (by omega) (Ev.ifp (by omega) ?_)))
  rw [rd_nat kn i hlt, hw, bit_eqI m i hm (by omega)]
  cases fl
  ·refine Ev.ifn (by decide) (ih (i + 1) false (by omega) ?_)
   simpa using H
  ·refine Ev.ifp rfl ?_
   by_cases c : kn[i] < 0
   ·refine Ev.ifp c (ih (i + 1) true (by omega) ?_)
    simpa [fitD, c] using H
   ·refine Ev.ifn c (ih (i + 1) _ (by omega) ?_)
    simpa [fitD, c] using H
theorem impl_linesFor_l (clue kn : List Int) (hk : kn.length ≤ 8) : ∀ (d m : Nat) (acc : List Int), m + d = 2 ^ kn.length → acc.length + d ≤ 600 →
  Ev (fun k => impl_linesFor.l0 k clue kn acc ((2 ^ kn.length : Nat) : Int) m) (acc ++ (LFr clue kn m d).map (fun x : Nat => (x : Int))) := by
 have hp := pow_le _ hk
 intro d
 induction d with
 | zero =>
  intro m acc hm ha
  exact Ev.step (fun k => by rw [impl_linesFor.l0]) (Ev.ifn (by omega) (Ev.eq (Ev.now _) (by simp [LFr])))
 | succ d ih =>
  intro m acc hm ha
  have hw : wrap64 ((m : Int) + 1) = ((m + 1 : Nat) : Int) := by rw [w64 (by omega) (by omega)]; omega
  refine Ev.step (fun k => by rw [impl_linesFor.l0]) (Ev.ifp (by omega) ?_)
  refine impl_fits clue kn acc m (2 ^ kn.length) (by omega) (by omega) _ kn.length 0 true (by omega) ?_
  refine Ev.step (fun k => by rw [impl_linesFor.l1]) (Ev.ifn (by omega) ?_)
  rw [hw, LFr_cons, List.drop_zero, Bool.true_and]
  unfold isLine
  by_cases c : fitD m 0 kn = true
  ·rw [c, Bool.true_and]
   refine Ev.ifp rfl (Ev.bind (impl_lineOf_ev m kn.length (by omega) (by omega)) (Ev.bind (impl_clueof _ (by rw [lineN_length]; omega)) (Ev.bind (equal_ev _ _ (by have := clueL_len (lineN m kn.length); omega)) ?_)))
   by_cases c2 : clueL (lineN m kn.length) = clue
   ·refine Ev.ifp (by simpa using c2) (Ev.ifp (by omega) (Ev.eq (ih (m + 1) (acc ++ [(m : Int)]) (by omega) (by simp; omega)) ?_))
    simp [c2]
   ·refine Ev.ifn (by simpa using c2) (Ev.eq (ih (m + 1) acc (by omega) (by omega)) ?_)
    simp [c2]
  ·refine Ev.ifn c (Ev.eq (ih (m + 1) acc (by omega) (by omega)) ?_)
   simp [c]
theorem impl_linesFor_ev (clue kn : List Int) (hk : kn.length ≤ 8) : Ev (fun k => impl_linesFor.f k clue kn) ((LF clue kn).map (fun x : Nat => (x : Int))) := by
 have hp := pow_le _ hk
 unfold impl_linesFor.f
 rw [shl_n _ hk]
 have := impl_linesFor_l clue kn hk (2 ^ kn.length) 0 [] (by omega) (by simp; omega)
 simpa [LF] using this
theorem and_neg1 (m : Nat) (h : m < 1024) : Go.bits .and .i64 (-1) (m : Int) = (m : Int) := by
 show IntKind.i64.wrap (((BitVec.ofInt 64 (-1) &&& BitVec.ofInt 64 (m : Int)).toNat : Nat) : Int) = m
 rw [show BitVec.ofInt 64 (-1) = BitVec.allOnes 64 from by decide, BitVec.allOnes_and, BitVec.ofInt_natCast, BitVec.toNat_ofNat, Nat.mod_eq_of_lt (by omega), IntKind.wrap_i64]
 omega
theorem and_n (a b : Nat) (ha : a < 1024) (hb : b < 1024) : Go.bits .and .i64 (a : Int) (b : Int) = ((a &&& b : Nat) : Int) :=
 (bits_nat .i64 62 (by decide) (fun n h h' => by rw [IntKind.wrap_i64]; omega) a b (by omega) (by omega)).1
theorem or_n (a b : Nat) (ha : a < 1024) (hb : b < 1024) : Go.bits .or .i64 (a : Int) (b : Int) = ((a ||| b : Nat) : Int) :=
 (bits_nat .i64 62 (by decide) (fun n h h' => by rw [IntKind.wrap_i64]; omega) a b (by omega) (by omega)).2
theorem fold_and_bit : ∀ (L : List Nat) (a j : Nat), (L.foldl (fun x y => x &&& y) a).testBit j = (a.testBit j && L.all (fun m => m.testBit j)) := by
 intro L
 induction L with
 | nil => intro a j; simp
 | cons m L ih => intro a j; rw [List.foldl_cons, ih, Nat.testBit_and, List.all_cons, Bool.and_assoc]
theorem fold_or_bit : ∀ (L : List Nat) (a j : Nat), (L.foldl (fun x y => x ||| y) a).testBit j = (a.testBit j || L.any (fun m => m.testBit j)) := by
 intro L
 induction L with
 | nil => intro a j; simp
 | cons m L ih => intro a j; rw [List.foldl_cons, ih, Nat.testBit_or, List.any_cons, Bool.or_assoc]
theorem fold_lt : ∀ (L : List Nat) (a : Nat), a < 1024 → (∀ m ∈ L, m < 256) → L.foldl (fun x y => x &&& y) a < 1024 ∧ L.foldl (fun x y => x ||| y) a < 1024 := by
 intro L
 induction L with
 | nil => intro a h _; exact ⟨h, h⟩
 | cons m L ih =>
  intro a h hL
  have hm := hL m List.mem_cons_self
  have h1 := ih (a &&& m) (Nat.lt_of_le_of_lt Nat.and_le_left h) (fun x hx => hL x (List.mem_cons_of_mem _ hx))
  have h2 := ih (a ||| m) (Nat.or_lt_two_pow (n := 10) h (by omega)) (fun x hx => hL x (List.mem_cons_of_mem _ hx))
  exact ⟨h1.1, h2.2⟩
theorem impl_forced_fold (kn : List Int) (L : List Nat) (hL : ∀ m ∈ L, m < 256) (hlen : L.length ≤ 600) (r : List Int × Bool) : ∀ (d i a o : Nat), L.length = i + d → a < 1024 → o < 1024 →
  Ev (fun k => impl_LineForced.l0 k kn (((L.drop i).foldl (fun x y => x &&& y) a : Nat) : Int) (((L.drop i).foldl (fun x y => x ||| y) o : Nat) : Int) (L.map (fun x : Nat => (x : Int))) L.length L.length) r →
  Ev (fun k => impl_LineForced.l0 k kn (a : Int) (o : Int) (L.map (fun x : Nat => (x : Int))) L.length i) r := by
 intro d
 induction d with
 | zero =>
  intro i a o hi ha ho H
  have e : L.length = i := by omega
  rw [List.drop_eq_nil_of_le (by omega)] at H
  rw [e] at H ⊢
  exact H
 | succ d ih =>
  intro i a o hi ha ho H
  have hlt : i < L.length := by omega
  have hm := hL _ (List.getElem_mem hlt)
  have hw : wrap64 ((i : Int) + 1) = ((i + 1 : Nat) : Int) := by rw [w64 (by omega) (by omega)]; omega
  rw [List.drop_eq_getElem_cons hlt, List.foldl_cons, List.foldl_cons] at H
  refine Ev.step (fun k => by rw [impl_LineForced.l0]) (Ev.ifp (by omega) (Ev.ifp (by omega) (Ev.ifp (by simp; omega) ?_)))
  rw [rd_nat _ i (by simpa using hlt), List.getElem_map, hw, and_n a _ ha (by omega), or_n o _ ho (by omega)]
  exact ih (i + 1) _ _ (by omega) (Nat.lt_of_le_of_lt Nat.and_le_left ha) (Nat.or_lt_two_pow (n := 10) ho (by omega)) H
theorem impl_forced_out (n a o : Nat) (ha : a < 1024) (ho : o < 1024) (hn : n ≤ 60) (F : List Int) (hF : F.length = n)
  (hg : ∀ j (h : j < F.length), F[j] = if a.testBit j then 1 else if o.testBit j then -1 else 0) : ∀ (d i : Nat), n = i + d →
  Ev (fun k => impl_LineForced.l1 k a o (F.take i ++ List.replicate (n - i) 0) n i) (F, true) := by
 intro d
 induction d with
 | zero =>
  intro i hi
  refine Ev.step (fun k => by rw [impl_LineForced.l1]) (Ev.ifn (by omega) (Ev.eq (Ev.now _) ?_))
  rw [List.take_of_length_le (by omega), show n - i = 0 by omega]; simp
 | succ d ih =>
  intro i hi
  have hlt : i < F.length := by omega
  have hw : wrap64 ((i : Int) + 1) = ((i + 1 : Nat) : Int) := by rw [w64 (by omega) (by omega)]; omega
  have hlen : (F.take i ++ List.replicate (n - i) (0 : Int)).length = n := by simp; omega
  have hrep : List.replicate (n - i) (0 : Int) = 0 :: List.replicate (n - (i + 1)) 0 := by
   rw [show n - i = (n - (i + 1)) + 1 by omega]; rfl
  have hset : ∀ v : Int, (F.take i ++ List.replicate (n - i) (0 : Int)).set i v = F.take i ++ [v] ++ List.replicate (n - (i + 1)) 0 := by
   intro v
   rw [List.set_append_right _ _ (by rw [List.length_take]; omega), hrep]
   simp [show i - min i F.length = 0 by omega]
  have hnext := ih (i + 1) (by omega)
  rw [List.take_succ_eq_append_getElem hlt] at hnext
  have hgi := hg i hlt
  refine Ev.step (fun k => by rw [impl_LineForced.l1]) (Ev.ifp (by omega) (Ev.ifp (by omega) ?_))
  rw [bit_eqI a i (by omega) (by omega), bit_eqI o i (by omega) (by omega), hw, Int.toNat_natCast, hset, hset]
  unfold bitI
  cases ca : a.testBit i
  ·refine Ev.ifn (by simp) ?_
   cases co : o.testBit i
   ·refine Ev.ifn (by simp) ?_
    rw [ca, co] at hgi
    simp only [Bool.false_eq_true, if_false] at hgi
    rw [hgi] at hnext
    rw [hrep]
    simpa using hnext
   ·refine Ev.ifp (by simp) (Ev.ifp (by omega) ?_)
    rw [ca, co] at hgi
    simp only [Bool.false_eq_true, if_false, if_true] at hgi
    rw [hgi] at hnext
    exact hnext
  ·refine Ev.ifp (by simp) (Ev.ifp (by omega) ?_)
   rw [ca] at hgi
   simp only [if_true] at hgi
   rw [hgi] at hnext
   exact hnext
theorem impl_forced (clue kn : List Int) (h1 : clue.length ≤ 1000000000) (h2 : kn.length ≤ 1000000000) : Ev (fun k => impl_LineForced.f k clue kn) (forcedV clue kn) := by
 have no : ∀ b : Bool, b = true → ¬ (knownV kn = true ∧ clueV clue kn.length = true) → Ev (fun k => impl_LineForced.j0 k clue kn b) (forcedV clue kn) := by
  intro b hb h
  exact Ev.step (fun k => by rw [impl_LineForced.j0]) (Ev.ifp hb (Ev.eq (Ev.now _) (by unfold forcedV; rw [if_neg h])))
 unfold impl_LineForced.f
 refine Ev.bind (impl_known kn (by omega)) ?_
 by_cases c1 : knownV kn = true
 ·refine Ev.ifp c1 (Ev.bind (impl_clue clue _ (by omega)) ?_)
  by_cases c2 : clueV clue kn.length = true
  ·have hv := knownV_ok c1
   have hp := pow_le _ hv.2.1
   have hl : (LF clue kn).length ≤ 256 := by have := LFr_len clue kn 0 (2 ^ kn.length); unfold LF; omega
   refine Ev.step (fun k => by rw [impl_LineForced.j0]) (Ev.ifn (by rw [c2]; decide) (Ev.bind (impl_linesFor_ev clue kn hv.2.1) ?_))
   unfold forcedV
   rw [if_pos ⟨c1, c2⟩]
   by_cases c3 : LF clue kn = []
   ·rw [if_pos c3]
    refine Ev.ifp (by rw [c3]; rfl) (Ev.bindc (a := kn) ?_ (Ev.now _))
    unfold slices_Clone_int_int.f
    simp only [Option.bind_some, List.length_nil, List.nil_append]
    rw [if_pos (by omega)]
   ·rw [if_neg c3]
    obtain ⟨m0, ms, hms⟩ := List.exists_cons_of_ne_nil c3
    have hlt : ∀ m ∈ LF clue kn, m < 256 := fun m hm => LF_lt hv.2.1 hm
    refine Ev.ifn (by simp [hms]; omega) ?_
    generalize hL : LF clue kn = L at hms hlt hl
    have hm0 : m0 < 256 := hlt m0 (by rw [hms]; exact List.mem_cons_self)
    have hpos : 0 < L.length := by rw [hms]; simp
    have h0 : L[0] = m0 := by simp [hms]
    rw [List.length_map]
    refine Ev.step (fun k => by rw [impl_LineForced.l0]) (Ev.ifp (by omega) (Ev.ifp (by omega) (Ev.ifp (by simp; omega) ?_)))
    have e0 : rd (L.map (fun x : Nat => (x : Int))) 0 = (m0 : Int) := by
     have := rd_nat (L.map (fun x : Nat => (x : Int))) 0 (by simpa using hpos)
     rw [List.getElem_map, h0] at this
     exact this
    rw [e0, and_neg1 m0 (by omega), show Go.bits .or .i64 0 (m0 : Int) = (m0 : Int) from by have := or_n 0 m0 (by omega) (by omega); simpa using this,
     show wrap64 ((0 : Int) + 1) = ((1 : Nat) : Int) from by rw [w64 (by omega) (by omega)]; rfl]
    refine impl_forced_fold kn L hlt (by omega) _ (L.length - 1) 1 m0 m0 (by omega) (by omega) (by omega) ?_
    have hfl := fold_lt (L.drop 1) m0 (by omega) (fun m hm => hlt m (List.mem_of_mem_drop hm))
    refine Ev.step (fun k => by rw [impl_LineForced.l0]) (Ev.ifn (by omega) (Ev.ifp (by omega) (Ev.ifp (by omega) (Ev.bindc rfl ?_))))
    have hd : L.drop 1 = ms := by rw [hms]; rfl
    rw [hd] at hfl ⊢
    have := impl_forced_out kn.length _ _ hfl.1 hfl.2 (by omega) ((List.range kn.length).map (cls L)) (by simp) (fun j hj => by
     rw [List.getElem_map, List.getElem_range, fold_and_bit, fold_or_bit]
     unfold cls
     rw [hms, List.all_cons, List.all_cons]
     have hna : ∀ l : List Nat, l.all (fun m => !m.testBit j) = !l.any (fun m => m.testBit j) := fun l => by
      induction l with
      | nil => rfl
      | cons x l ih => rw [List.all_cons, List.any_cons, ih, Bool.not_or]
     rw [hna]
     cases m0.testBit j <;> cases hA : ms.all (fun m => m.testBit j) <;> cases hB : ms.any (fun m => m.testBit j) <;> simp) kn.length 0 (by omega)
    simpa using this
  ·exact no _ (by simpa using c2) (fun h => c2 h.2)
 ·exact Ev.ifn c1 (no _ rfl (fun h => c1 h.1))
theorem spec_known_l (l : List Int) (hl : l.length ≤ 140737488351232) : ∀ (d i : Nat), l.length = i + d →
  Ev (fun k => spec_KnownValid.l0 k l i) ((l.drop i).all (fun x => decide (-1 ≤ x ∧ x ≤ 1)) && decide (1 ≤ (l.length : Int) ∧ (l.length : Int) ≤ 8)) := by
 intro d
 induction d with
 | zero =>
  intro i hi
  refine Ev.step (fun k => by rw [spec_KnownValid.l0]) (Ev.ifn (by omega) (Ev.bindc (l1In_f _ _ _) (Ev.eq (Ev.now _) ?_)))
  rw [List.drop_eq_nil_of_le (by omega)]; simp
 | succ d ih =>
  intro i hi
  have hlt : i < l.length := by omega
  have hw : wrap64 ((i : Int) + 1) = ((i + 1 : Nat) : Int) := by rw [w64 (by omega) (by omega)]; omega
  refine Ev.step (fun k => by rw [spec_KnownValid.l0]) ?_
  rw [rd_nat l i hlt, hw, List.drop_eq_getElem_cons hlt, List.all_cons]
  refine Ev.ifp (by omega) (Ev.ifp (by omega) (Ev.bindc (l1In_f _ _ _) ?_))
  by_cases c : -1 ≤ l[i] ∧ l[i] ≤ 1
  ·exact Ev.ifp (by simpa using c) (Ev.eq (ih (i + 1) (by omega)) (by simp [c]))
  ·exact Ev.ifn (by simpa using c) (Ev.eq (Ev.now _) (by simp [c]))
theorem spec_known (l : List Int) (hl : l.length ≤ 140737488351232) : Ev (fun k => spec_KnownValid.f k l) (knownV l) := by
 unfold spec_KnownValid.f
 exact spec_known_l l hl l.length 0 (by omega)
theorem spec_line_l (m n : Nat) (hm : m < 4611686018427387904) (hn : n ≤ 60) : ∀ (d i : Nat) (out : List Bool), n = i + d → out.length ≤ i →
  Ev (fun k => spec_l12Line.l0 k m n out i) (out ++ (lineN m n).drop i) := by
 intro d
 induction d with
 | zero =>
  intro i out hi ho
  refine Ev.step (fun k => by rw [spec_l12Line.l0]) (Ev.ifn (by omega) (Ev.eq (Ev.now _) ?_))
  rw [List.drop_eq_nil_of_le (by rw [lineN_length]; omega)]; simp
 | succ d ih =>
  intro i out hi ho
  have hw : wrap64 ((i : Int) + 1) = ((i + 1 : Nat) : Int) := by rw [w64 (by omega) (by omega)]; omega
  refine Ev.step (fun k => by rw [spec_l12Line.l0]) (Ev.ifp (by omega) (Ev.ifp (by omega) (Ev.ifp (by omega) ?_)))
  have e : (Int.tmod (shr .i64 (m : Int) (i : Int)) 2 == 1) = m.testBit i := by
   rw [shr_bit (by omega) i (by omega), bit_nat]; cases m.testBit i <;> rfl
  rw [hw, e]
  refine Ev.eq (ih (i + 1) (out ++ [m.testBit i]) (by omega) (by simp; omega)) ?_
  rw [List.drop_eq_getElem_cons (l := lineN m n) (i := i) (by rw [lineN_length]; omega), lineN_get]; simp
theorem spec_line_ev (m n : Nat) (hm : m < 4611686018427387904) (hn : n ≤ 60) : Ev (fun k => spec_l12Line.f k m n) (lineN m n) := by
 unfold spec_l12Line.f
 have := spec_line_l m n hm hn n 0 [] (by omega) (by simp)
 simpa using this
theorem spec_fits_l (kn : List Int) (m : Nat) (hk : kn.length ≤ 60) (hv : ∀ x ∈ kn, -1 ≤ x ∧ x ≤ 1) : ∀ (d i : Nat), kn.length = i + d →
  Ev (fun k => spec_l12Fits.l0 k (lineN m kn.length) kn i) (fitD m i (kn.drop i)) := by
 intro d
 induction d with
 | zero =>
  intro i hi
  refine Ev.step (fun k => by rw [spec_l12Fits.l0]) (Ev.ifn (by rw [lineN_length]; omega) (Ev.eq (Ev.now _) ?_))
  rw [List.drop_eq_nil_of_le (by omega)]; rfl
 | succ d ih =>
  intro i hi
  have hlt : i < kn.length := by omega
  have hw : wrap64 ((i : Int) + 1) = ((i + 1 : Nat) : Int) := by rw [w64 (by omega) (by omega)]; omega
  have hx := hv _ (List.getElem_mem hlt)
  have h1 := ih (i + 1) (by omega)
  refine Ev.step (fun k => by rw [spec_l12Fits.l0]) (Ev.ifp (by rw [lineN_length]; omega) (Ev.ifp (by omega) (Ev.ifp (by omega) ?_)))
  rw [rd_nat kn i hlt, hw, rdOf_nat (lineN m kn.length) i (by rw [lineN_length]; exact hlt), lineN_get, List.drop_eq_getElem_cons hlt]
  have hf : fitD m i (kn[i] :: kn.drop (i + 1)) = ((decide (kn[i] < 0) || kn[i] == bitI m i) && fitD m (i + 1) (kn.drop (i + 1))) := rfl
  rw [hf]
  unfold bitI
  have h3 : kn[i] = -1 ∨ kn[i] = 0 ∨ kn[i] = 1 := by omega
  rcases h3 with h3 | h3 | h3 <;> rw [h3]
  ·exact Ev.ifn (by decide) (Ev.ifn (by decide) (Ev.eq h1 (by simp)))
  ·refine Ev.ifp rfl ?_
   cases hb : m.testBit i
   ·exact Ev.ifn (by decide) (Ev.ifn (by decide) (Ev.eq h1 (by simp)))
   ·exact Ev.ifp rfl (Ev.eq (Ev.now _) (by simp))
  ·refine Ev.ifn (by decide) (Ev.ifp rfl ?_)
   cases hb : m.testBit i
   ·exact Ev.ifn (by decide) (Ev.eq (Ev.now _) (by simp))
   ·exact Ev.ifp rfl (Ev.eq h1 (by simp))
theorem spec_fits_ev (kn : List Int) (m : Nat) (hk : kn.length ≤ 60) (hv : ∀ x ∈ kn, -1 ≤ x ∧ x ≤ 1) : Ev (fun k => spec_l12Fits.f k (lineN m kn.length) kn) (fitD m 0 kn) := by
 unfold spec_l12Fits.f
 have := spec_fits_l kn m hk hv kn.length 0 (by omega)
 simpa using this
theorem l8Same_l (a b : List Int) (h : a.length = b.length) (hl : a.length ≤ 140737488351232) : ∀ (d i : Nat), a.length = i + d → Ev (fun k => spec_l8Same.l0 k a b i) (decide (a.drop i = b.drop i)) := by
 intro d
 induction d with
 | zero =>
  intro i hi
  refine Ev.step (fun k => by rw [spec_l8Same.l0]) (Ev.ifn (by omega) (Ev.eq (Ev.now _) ?_))
  rw [List.drop_eq_nil_of_le (by omega), List.drop_eq_nil_of_le (by omega)]; simp
 | succ d ih =>
  intro i hi
  have ha : i < a.length := by omega
  have hb : i < b.length := by omega
  have hw : wrap64 ((i : Int) + 1) = ((i + 1 : Nat) : Int) := by rw [w64 (by omega) (by omega)]; omega
  refine Ev.step (fun k => by rw [spec_l8Same.l0]) (Ev.ifp (by omega) (Ev.ifp (by omega) (Ev.ifp (by omega) ?_)))
  rw [rd_nat a i ha, rd_nat b i hb, hw, List.drop_eq_getElem_cons ha, List.drop_eq_getElem_cons hb]
  by_cases c : a[i] = b[i]
  ·exact Ev.ifp c (Ev.eq (ih (i + 1) (by omega)) (by rw [c]; simp only [List.cons.injEq, true_and]))
  ·exact Ev.ifn c (Ev.eq (Ev.now _) (by simp only [List.cons.injEq, c, false_and, decide_false]))
theorem l8Same_ev (a b : List Int) (hl : a.length ≤ 140737488351232) : Ev (fun k => spec_l8Same.f k a b) (decide (a = b)) := by
 unfold spec_l8Same.f
 by_cases h : a.length = b.length
 ·exact Ev.ifp (by omega) (Ev.eq (l8Same_l a b h hl a.length 0 (by omega)) (by simp))
 ·refine Ev.ifn (by omega) (Ev.eq (Ev.now false) ?_)
  symm; simp; intro e; exact h (by rw [e])
theorem l12Same_ev (l : List Bool) (clue : List Int) (hl : l.length ≤ 140737488351232) : Ev (fun k => spec_l12Same.f k l clue) (decide (clueL l = clue)) := by
 unfold spec_l12Same.f
 exact Ev.bind (spec_clueof l hl) (Ev.bind (l8Same_ev _ _ (by have := clueL_len l; omega)) (Ev.now _))
def cntL (L : List Nat) (j : Nat) : Int := (L.countP (fun m => m.testBit j) : Nat)
theorem spec_forced_add (clue kn : List Int) (m : Nat) (ways x8 : Int) (hk : kn.length ≤ 8) (r : List Int × Bool) (f : Nat → Int) (hf : ∀ j, 0 ≤ f j ∧ f j ≤ 1000)
  (H : Ev (fun k => spec_LineForced.l0 k clue kn ((List.range kn.length).map (fun j => f j + bitI m j)) ways (wrap64 (x8 + 1))) r) : ∀ (d i : Nat), kn.length = i + d →
  Ev (fun k => spec_LineForced.l1 k clue kn ((List.range kn.length).map (fun j => f j + if j < i then bitI m j else 0)) ways x8 (lineN m kn.length) i) r := by
 intro d
 induction d with
 | zero =>
  intro i hi
  refine Ev.step (fun k => by rw [spec_LineForced.l1]) (Ev.ifn (by rw [lineN_length]; omega) ?_)
  have e : (List.range kn.length).map (fun j => f j + if j < i then bitI m j else 0) = (List.range kn.length).map (fun j => f j + bitI m j) := by
   apply List.map_congr_left
   intro j hj
   rw [List.mem_range] at hj
   rw [if_pos (by omega)]
  rw [e]
  exact H
 | succ d ih =>
  intro i hi
  have hlt : i < kn.length := by omega
  have hw : wrap64 ((i : Int) + 1) = ((i + 1 : Nat) : Int) := by rw [w64 (by omega) (by omega)]; omega
  have h1 := ih (i + 1) (by omega)
  refine Ev.step (fun k => by rw [spec_LineForced.l1]) (Ev.ifp (by rw [lineN_length]; omega) (Ev.ifp (by omega) ?_))
  rw [rdOf_nat _ i (by rw [lineN_length]; exact hlt), lineN_get, hw]
  cases hb : m.testBit i
  ·refine Ev.ifn (by decide) ?_
   have e : (List.range kn.length).map (fun j => f j + if j < i then bitI m j else 0) = (List.range kn.length).map (fun j => f j + if j < i + 1 then bitI m j else 0) := by
    apply List.map_congr_left
    intro j hj
    by_cases c : j < i
    ·rw [if_pos c, if_pos (by omega)]
    ·rw [if_neg c]
     by_cases c2 : j = i
     ·subst c2
      rw [if_pos (by omega)]; unfold bitI; rw [hb]; simp
     ·rw [if_neg (by omega)]
   rw [e]
   exact h1
  ·refine Ev.ifp rfl (Ev.ifp (by simp; omega) ?_)
   have e : ((List.range kn.length).map (fun j => f j + if j < i then bitI m j else 0)).set ((i : Nat) : Int).toNat (wrap64 (rd ((List.range kn.length).map (fun j => f j + if j < i then bitI m j else 0)) i + 1)) = (List.range kn.length).map (fun j => f j + if j < i + 1 then bitI m j else 0) := by
    have hfi := hf i
    rw [rd_nat _ i (by simpa using hlt), List.getElem_map, List.getElem_range, if_neg (by omega), w64 (by omega) (by omega), Int.toNat_natCast]
    apply List.ext_getElem
    ·simp
    ·intro j h3 h4
     rw [List.getElem_set, List.getElem_map, List.getElem_map, List.getElem_range]
     by_cases c : i = j
     ·subst c
      rw [if_pos rfl, if_pos (by omega)]; unfold bitI; rw [hb]; simp
     ·rw [if_neg c]
      by_cases c2 : j < i
      ·rw [if_pos c2, if_pos (by omega)]
      ·rw [if_neg c2, if_neg (by omega)]
   rw [e]
   exact h1
theorem spec_forced_l (clue kn : List Int) (hk : knownV kn = true) (r : List Int × Bool) : ∀ (d m : Nat) (f : Nat → Int) (c : Int), m + d = 2 ^ kn.length → (∀ j, 0 ≤ f j ∧ f j + d ≤ 600) → 0 ≤ c → c + d ≤ 600 →
  Ev (fun k => spec_LineForced.l0 k clue kn ((List.range kn.length).map (fun j => f j + cntL (LFr clue kn m d) j)) (c + ((LFr clue kn m d).length : Int)) ((2 ^ kn.length : Nat) : Int)) r →
  Ev (fun k => spec_LineForced.l0 k clue kn ((List.range kn.length).map f) c m) r := by
 have hv := knownV_ok hk
 have hp := pow_le _ hv.2.1
 intro d
 induction d with
 | zero =>
  intro m f c hm hf h0 h1 H
  have e : m = 2 ^ kn.length := by omega
  rw [e]
  simpa [LFr, cntL] using H
 | succ d ih =>
  intro m f c hm hf h0 h1 H
  have hw : wrap64 ((m : Int) + 1) = ((m + 1 : Nat) : Int) := by rw [w64 (by omega) (by omega)]; omega
  rw [LFr_cons] at H
  refine Ev.step (fun k => by rw [spec_LineForced.l0]) ?_
  rw [shl_n _ hv.2.1]
  refine Ev.ifp (by omega) (Ev.bind (spec_line_ev m kn.length (by omega) (by omega)) (Ev.bind (spec_fits_ev kn m (by omega) hv.2.2) ?_))
  have skip : isLine clue kn m = false → ∀ b : Bool, b = true → Ev (fun k => spec_LineForced.j2 k clue kn ((List.range kn.length).map f) c m (lineN m kn.length) b) r := by
   intro hn b hb
   refine Ev.step (fun k => by rw [spec_LineForced.j2]) (Ev.ifp hb ?_)
   rw [hw]
   rw [hn] at H
   exact ih (m + 1) f c (by omega) (fun j => by have := hf j; omega) h0 (by omega) (by simpa using H)
  by_cases c1 : fitD m 0 kn = true
  ·refine Ev.ifp c1 (Ev.bind (l12Same_ev _ clue (by rw [lineN_length]; omega)) ?_)
   by_cases c2 : clueL (lineN m kn.length) = clue
   ·have hi : isLine clue kn m = true := by unfold isLine; rw [c1]; simp [c2]
    refine Ev.step (fun k => by rw [spec_LineForced.j2]) (Ev.ifn (by simp [c2]) ?_)
    rw [w64 (x := c + 1) (by omega) (by omega)]
    have hb01 : ∀ j, 0 ≤ bitI m j ∧ bitI m j ≤ 1 := fun j => by unfold bitI; split <;> simp
    have := spec_forced_add clue kn m (c + 1) m hv.2.1 r f (fun j => by have := hf j; omega) (by
     rw [hw]
     refine ih (m + 1) (fun j => f j + bitI m j) (c + 1) (by omega) (fun j => by have := hf j; have := hb01 j; omega) (by omega) (by omega) ?_
     rw [hi] at H
     simp only [if_true] at H
     have e1 : (fun j => f j + cntL (m :: LFr clue kn (m + 1) d) j) = (fun j => f j + bitI m j + cntL (LFr clue kn (m + 1) d) j) := by
      funext j
      unfold cntL bitI
      rw [List.countP_cons]
      cases m.testBit j <;> simp <;> omega
     have e2 : c + ((m :: LFr clue kn (m + 1) d).length : Int) = c + 1 + ((LFr clue kn (m + 1) d).length : Int) := by simp; omega
     rw [e1, e2] at H
     exact H) kn.length 0 (by omega)
    simpa using this
   ·exact skip (by unfold isLine; simp [c2]) _ (by simp [c2])
  ·exact Ev.ifn c1 (skip (by unfold isLine; simp [c1]) _ rfl)
theorem spec_forced_out (full : List Int) (ways : Int) (hl : full.length ≤ 60) : ∀ (d i : Nat) (out : List Int), full.length = i + d → out.length ≤ i →
  Ev (fun k => spec_LineForced.l2 k full ways out i) (out ++ (full.drop i).map (fun c => if c = 0 then 0 else if c = ways then 1 else -1), true) := by
 intro d
 induction d with
 | zero =>
  intro i out hi ho
  refine Ev.step (fun k => by rw [spec_LineForced.l2]) (Ev.ifn (by omega) (Ev.eq (Ev.now _) ?_))
  rw [List.drop_eq_nil_of_le (by omega)]; simp
 | succ d ih =>
  intro i out hi ho
  have hlt : i < full.length := by omega
  have hw : wrap64 ((i : Int) + 1) = ((i + 1 : Nat) : Int) := by rw [w64 (by omega) (by omega)]; omega
  have h1 : ∀ v : Int, Ev (fun k => spec_LineForced.l2 k full ways (out ++ [v]) ((i + 1 : Nat) : Int)) (out ++ [v] ++ (full.drop (i + 1)).map (fun c => if c = 0 then 0 else if c = ways then 1 else -1), true) := fun v => ih (i + 1) (out ++ [v]) (by omega) (by simp; omega)
  refine Ev.step (fun k => by rw [spec_LineForced.l2]) (Ev.ifp (by omega) (Ev.ifp (by omega) ?_))
  rw [rd_nat full i hlt, hw, List.drop_eq_getElem_cons hlt, List.map_cons]
  by_cases c1 : full[i] = 0
  ·exact Ev.ifp c1 (Ev.ifp (by omega) (Ev.eq (h1 0) (by simp [c1])))
  ·refine Ev.ifn c1 ?_
   by_cases c2 : full[i] = ways
   ·exact Ev.ifp c2 (Ev.ifp (by omega) (Ev.eq (h1 1) (by rw [if_neg c1, if_pos c2]; simp)))
   ·exact Ev.ifn c2 (Ev.ifp (by omega) (Ev.eq (h1 (-1)) (by rw [if_neg c1, if_neg c2]; simp)))
theorem cnt_cls (L : List Nat) (j : Nat) (h : L ≠ []) : (if cntL L j = 0 then 0 else if cntL L j = (L.length : Int) then 1 else -1) = cls L j := by
 unfold cls cntL
 have hle := List.countP_le_length (p := fun m : Nat => m.testBit j) (l := L)
 by_cases c1 : L.countP (fun m => m.testBit j) = 0
 ·rw [if_pos (by omega), if_pos]
  rw [List.countP_eq_zero] at c1
  rw [List.all_eq_true]
  intro m hm
  simpa using c1 m hm
 ·have hA1 : ¬ (L.all (fun m => !m.testBit j) = true) := fun hA => c1 (List.countP_eq_zero.2 (fun m hm => by have := List.all_eq_true.1 hA m hm; simpa using this))
  rw [if_neg (by omega), if_neg hA1]
  by_cases c2 : L.countP (fun m => m.testBit j) = L.length
  ·rw [if_pos (by omega), if_pos]
   rw [List.countP_eq_length] at c2
   rw [List.all_eq_true]
   exact c2
  ·have hA2 : ¬ (L.all (fun m => m.testBit j) = true) := fun hA => c2 (List.countP_eq_length.2 (fun m hm => List.all_eq_true.1 hA m hm))
   rw [if_neg (by omega), if_neg hA2]
theorem spec_forced (clue kn : List Int) (h1 : clue.length ≤ 1000000000) (h2 : kn.length ≤ 1000000000) : Ev (fun k => spec_LineForced.f k clue kn) (forcedV clue kn) := by
 have no : ∀ b : Bool, b = true → ¬ (knownV kn = true ∧ clueV clue kn.length = true) → Ev (fun k => spec_LineForced.j0 k clue kn b) (forcedV clue kn) := by
  intro b hb h
  exact Ev.step (fun k => by rw [spec_LineForced.j0]) (Ev.ifp hb (Ev.eq (Ev.now _) (by unfold forcedV; rw [if_neg h])))
 unfold spec_LineForced.f
 refine Ev.bind (spec_known kn (by omega)) ?_
 by_cases c1 : knownV kn = true
 ·refine Ev.ifp c1 (Ev.bind (spec_clue clue _ (by omega)) ?_)
  by_cases c2 : clueV clue kn.length = true
  ·have hv := knownV_ok c1
   have hp := pow_le _ hv.2.1
   refine Ev.step (fun k => by rw [spec_LineForced.j0]) (Ev.ifn (by rw [c2]; decide) (Ev.ifp (by omega) (Ev.ifp (by omega) ?_)))
   have e0 : List.replicate ((kn.length : Int)).toNat (0 : Int) = (List.range kn.length).map (fun _ => 0) := by
    apply List.ext_getElem
    ·simp
    ·intro j h3 h4; simp
   rw [e0]
   refine spec_forced_l clue kn c1 _ (2 ^ kn.length) 0 (fun _ => 0) 0 (by omega) (fun j => by omega) (by omega) (by omega) ?_
   refine Ev.step (fun k => by rw [spec_LineForced.l0]) ?_
   rw [shl_n _ hv.2.1]
   refine Ev.ifn (by omega) ?_
   unfold forcedV
   rw [if_pos ⟨c1, c2⟩]
   show Ev _ (if LFr clue kn 0 (2 ^ kn.length) = [] then _ else _)
   by_cases c3 : LFr clue kn 0 (2 ^ kn.length) = []
   ·rw [if_pos c3]
    refine Ev.ifp (by rw [c3]; rfl) (Ev.bindc rfl (Ev.ifp (by simp; omega) (Ev.eq (Ev.now _) (by simp))))
   ·rw [if_neg c3]
    have hpos := List.length_pos_iff.2 c3
    refine Ev.ifn (by omega) ?_
    refine Ev.eq (spec_forced_out _ _ (by simp; omega) kn.length 0 [] (by simp) (by simp)) ?_
    simp only [List.drop_zero, List.nil_append, List.map_map, Prod.mk.injEq, and_true]
    apply List.map_congr_left
    intro j _
    have := cnt_cls _ j c3
    simp only [Function.comp, Int.zero_add]
    exact this
  ·exact no _ (by simpa using c2) (fun h => c2 h.2)
 ·exact Ev.ifn c1 (no _ rfl (fun h => c1 h.1))
theorem fitD_iff (m : Nat) : ∀ (ks : List Int) (a : Nat), fitD m a ks = true ↔ ∀ j (h : j < ks.length), ks[j] < 0 ∨ ks[j] = bitI m (a + j) := by
 intro ks
 induction ks with
 | nil => intro a; simp [fitD]
 | cons k ks ih =>
  intro a
  simp only [fitD, Bool.and_eq_true, Bool.or_eq_true, decide_eq_true_eq, beq_iff_eq]
  rw [ih]
  constructor
  ·rintro ⟨h0, h1⟩ j hj
   cases j with
   | zero => simpa using h0
   | succ j =>
    have := h1 j (by simpa using hj)
    simpa [Nat.add_assoc, Nat.add_comm 1 j] using this
  ·intro h
   refine ⟨by have h0 := h 0 (by simp); rw [Nat.add_zero] at h0; exact h0, fun j hj => ?_⟩
   have := h (j + 1) (by simpa using hj)
   simpa [Nat.add_assoc, Nat.add_comm 1 j] using this
theorem bitI_01 (m j : Nat) : bitI m j = 0 ∨ bitI m j = 1 := by unfold bitI; split <;> simp
theorem LF_mem {clue kn : List Int} {m : Nat} : m ∈ LF clue kn ↔ m < 2 ^ kn.length ∧ isLine clue kn m = true := by
 unfold LF LFr
 rw [List.mem_filter, List.mem_range'_1]
 constructor
 ·rintro ⟨⟨_, h⟩, h2⟩; exact ⟨by omega, h2⟩
 ·rintro ⟨h, h2⟩; exact ⟨⟨by omega, by omega⟩, h2⟩
theorem LF_nodup (clue kn : List Int) : (LF clue kn).Nodup := by
 unfold LF LFr
 exact List.Pairwise.filter _ List.nodup_range'
theorem forcedV_len (clue kn : List Int) : (forcedV clue kn).1.length ≤ kn.length := by
 unfold forcedV
 split
 ·split <;> simp
 ·simp
theorem cls_range (L : List Nat) (j : Nat) : -1 ≤ cls L j ∧ cls L j ≤ 1 := by
 unfold cls; split
 ·omega
 ·split <;> omega
theorem cls_fits {L : List Nat} {m : Nat} (hm : m ∈ L) (j : Nat) : cls L j < 0 ∨ cls L j = bitI m j := by
 unfold cls
 by_cases c1 : L.all (fun m => !m.testBit j) = true
 ·rw [if_pos c1]
  have := List.all_eq_true.1 c1 m hm
  right; unfold bitI
  cases hb : m.testBit j <;> simp [hb] at this ⊢
 ·rw [if_neg c1]
  by_cases c2 : L.all (fun m => m.testBit j) = true
  ·rw [if_pos c2]
   have := List.all_eq_true.1 c2 m hm
   right; unfold bitI; simp [this]
  ·rw [if_neg c2]; left; omega
/-- What was known stays known. -/
theorem cls_keeps {clue kn : List Int} (hne : LF clue kn ≠ []) (j : Nat) (hj : j < kn.length) (hx : 0 ≤ kn[j]) : cls (LF clue kn) j = kn[j] := by
 have hb : ∀ m ∈ LF clue kn, kn[j] = bitI m j := fun m hm => by
  rw [LF_mem] at hm
  unfold isLine at hm
  simp only [Bool.and_eq_true] at hm
  have := (fitD_iff m kn 0).1 hm.2.1 j hj
  rw [Nat.zero_add] at this
  omega
 obtain ⟨m0, ms, hms⟩ := List.exists_cons_of_ne_nil hne
 have h0 := hb m0 (by rw [hms]; exact List.mem_cons_self)
 have := cls_fits (L := LF clue kn) (m := m0) (by rw [hms]; exact List.mem_cons_self) j
 rcases this with h1 | h1
 ·exfalso
  unfold cls at h1
  rcases bitI_01 m0 j with hz | hz
  ·have : (LF clue kn).all (fun m => !m.testBit j) = true := List.all_eq_true.2 (fun m hm => by
    have := hb m hm
    rw [h0, hz] at this
    unfold bitI at this
    cases hB : m.testBit j <;> simp [hB] at this ⊢)
   rw [if_pos this] at h1; omega
  ·have h2 : (LF clue kn).all (fun m => m.testBit j) = true := List.all_eq_true.2 (fun m hm => by
    have := hb m hm
    rw [h0, hz] at this
    unfold bitI at this
    cases hB : m.testBit j <;> simp [hB] at this ⊢)
   split at h1 <;> omega
 ·rw [h1, h0]
/-! PictureLines: rounds over rows and columns. -/
def rowsPass (A : List (List Int)) : Nat → Nat → List (List Int) → Bool → Option (List (List Int) × Bool)
 | 0, _, kn, ag => some (kn, ag)
 | d + 1, i, kn, ag => if (forcedV (A.getD i []) (kn.getD i [])).2 = true then rowsPass A d (i + 1) (kn.set i (forcedV (A.getD i []) (kn.getD i [])).1) (ag || decide ((forcedV (A.getD i []) (kn.getD i [])).1 ≠ kn.getD i [])) else none
def colP (kn : List (List Int)) (j : Nat) : List Int := kn.map fun r => r.getD j 0
def setCol (kn : List (List Int)) (j : Nat) (x : List Int) : List (List Int) := (List.range kn.length).map fun i => (kn.getD i []).set j (x.getD i 0)
def colsPass (B : List (List Int)) : Nat → Nat → List (List Int) → Bool → Option (List (List Int) × Bool)
 | 0, _, kn, ag => some (kn, ag)
 | d + 1, j, kn, ag => if (forcedV (B.getD j []) (colP kn j)).2 = true then colsPass B d (j + 1) (setCol kn j (forcedV (B.getD j []) (colP kn j)).1) (ag || decide ((forcedV (B.getD j []) (colP kn j)).1 ≠ colP kn j)) else none
def roundPass (A B kn : List (List Int)) : Option (List (List Int) × Bool) := (rowsPass A A.length 0 kn false).bind fun z => colsPass B B.length 0 z.1 z.2
def linesP (A B : List (List Int)) : Nat → List (List Int) → List (List Int) × Bool
 | 0, kn => (kn, true)
 | n + 1, kn => match roundPass A B kn with
  | none => ([], false)
  | some z => if z.2 = true then linesP A B n z.1 else (z.1, true)
theorem rdL_getD (xs : List (List Int)) (i : Nat) : rd_L1 xs (i : Int) = xs.getD i [] := by simp [rd_L1]
/-- The rows' pass of the program: what comes behind it is K. -/
theorem implRows (A B : List (List Int)) (hA : A.length ≤ 1000) (ha : ∀ x ∈ A, x.length ≤ 1048576) (r : List (List Int) × Bool)
  (hE : ∀ x y : List Int, x.length ≤ 1000 → Ev (fun k => slices_Equal_int_int.f k x y) (decide (x = y))) :
  ∀ (d i : Nat) (kn : List (List Int)) (ag : Bool), A.length = i + d → kn.length = A.length → (∀ x ∈ kn, x.length ≤ 1000) →
  (∀ z, rowsPass A d i kn ag = some z → Ev (fun k => impl_PictureLines.l4 k z.1 z.2 B (B.length : Int) 0 A B) r) → (rowsPass A d i kn ag = none → r = ([], false)) →
  Ev (fun k => impl_PictureLines.l3 k kn ag A (A.length : Int) i A B) r := by
 intro d
 induction d with
 | zero =>
  intro i kn ag hi hk hx hK hN
  refine Ev.step (fun k => by rw [impl_PictureLines.l3]) (Ev.ifn (by omega) ?_)
  exact hK (kn, ag) rfl
 | succ d ih =>
  intro i kn ag hi hk hx hK hN
  have hlt : i < A.length := by omega
  have hlk : i < kn.length := by omega
  have hw : wrap64 ((i : Int) + 1) = ((i + 1 : Nat) : Int) := by rw [w64 (by omega) (by omega)]; omega
  have e1 : A.getD i [] = A[i] := by rw [List.getD_eq_getElem?_getD, List.getElem?_eq_getElem hlt]; rfl
  have e2 : kn.getD i [] = kn[i] := by rw [List.getD_eq_getElem?_getD, List.getElem?_eq_getElem hlk]; rfl
  have b1 : (A.getD i []).length ≤ 1048576 := by rw [e1]; exact ha _ (List.getElem_mem hlt)
  have b2 : (kn.getD i []).length ≤ 1000 := by rw [e2]; exact hx _ (List.getElem_mem hlk)
  have hf := impl_forced (A.getD i []) (kn.getD i []) (by omega) (by omega)
  have hl := forcedV_len (A.getD i []) (kn.getD i [])
  refine Ev.step (fun k => by rw [impl_PictureLines.l3]) ?_
  rw [rdL_getD, rdL_getD, hw, Int.toNat_natCast]
  refine Ev.ifp (by omega) (Ev.ifp (by omega) (Ev.ifp (by omega) (Ev.ifp (by omega) (Ev.bind hf ?_))))
  by_cases c : (forcedV (A.getD i []) (kn.getD i [])).2 = true
  ·refine Ev.ifp c ?_
   have hset : ∀ x ∈ kn.set i (forcedV (A.getD i []) (kn.getD i [])).1, x.length ≤ 1000 := by
    intro x hxm
    rcases List.mem_or_eq_of_mem_set hxm with h | h
    ·exact hx x h
    ·rw [h]; omega
   have R : rowsPass A (d + 1) i kn ag = rowsPass A d (i + 1) (kn.set i (forcedV (A.getD i []) (kn.getD i [])).1) (ag || decide ((forcedV (A.getD i []) (kn.getD i [])).1 ≠ kn.getD i [])) := by
    rw [rowsPass, if_pos c]
   rw [R] at hK hN
   cases ag with
   | true =>
    refine Ev.ifp rfl ?_
    exact ih (i + 1) _ true (by omega) (by simp [hk]) hset (by simpa using hK) (by simpa using hN)
   | false =>
    refine Ev.ifn (by decide) (Ev.bind (hE _ _ (by omega)) ?_)
    have e3 : (!decide ((forcedV (A.getD i []) (kn.getD i [])).1 = kn.getD i [])) = decide ((forcedV (A.getD i []) (kn.getD i [])).1 ≠ kn.getD i []) := by simp
    rw [e3]
    exact ih (i + 1) _ _ (by omega) (by simp [hk]) hset (by simpa using hK) (by simpa using hN)
  ·refine Ev.ifn c (Ev.eq (Ev.now _) ?_)
   exact (hN (by rw [rowsPass, if_neg c])).symm
/-- The rows' pass of the reference: what comes behind it is K. -/
theorem specRows (A B : List (List Int)) (hA : A.length ≤ 1000) (ha : ∀ x ∈ A, x.length ≤ 1048576) (r : List (List Int) × Bool)
  (hE : ∀ x y : List Int, x.length ≤ 1000 → Ev (fun k => spec_l8Same.f k x y) (decide (x = y))) :
  ∀ (d i : Nat) (kn : List (List Int)) (ag : Bool), A.length = i + d → kn.length = A.length → (∀ x ∈ kn, x.length ≤ 1000) →
  (∀ z, rowsPass A d i kn ag = some z → Ev (fun k => spec_PictureLines.l2 k z.1 z.2 0 A B) r) → (rowsPass A d i kn ag = none → r = ([], false)) →
  Ev (fun k => spec_PictureLines.l1 k kn ag i A B) r := by
 intro d
 induction d with
 | zero =>
  intro i kn ag hi hk hx hK hN
  refine Ev.step (fun k => by rw [spec_PictureLines.l1]) (Ev.ifn (by omega) ?_)
  exact hK (kn, ag) rfl
 | succ d ih =>
  intro i kn ag hi hk hx hK hN
  have hlt : i < A.length := by omega
  have hlk : i < kn.length := by omega
  have hw : wrap64 ((i : Int) + 1) = ((i + 1 : Nat) : Int) := by rw [w64 (by omega) (by omega)]; omega
  have e1 : A.getD i [] = A[i] := by rw [List.getD_eq_getElem?_getD, List.getElem?_eq_getElem hlt]; rfl
  have e2 : kn.getD i [] = kn[i] := by rw [List.getD_eq_getElem?_getD, List.getElem?_eq_getElem hlk]; rfl
  have b1 : (A.getD i []).length ≤ 1048576 := by rw [e1]; exact ha _ (List.getElem_mem hlt)
  have b2 : (kn.getD i []).length ≤ 1000 := by rw [e2]; exact hx _ (List.getElem_mem hlk)
  have hf := spec_forced (A.getD i []) (kn.getD i []) (by omega) (by omega)
  have hl := forcedV_len (A.getD i []) (kn.getD i [])
  refine Ev.step (fun k => by rw [spec_PictureLines.l1]) ?_
  rw [rdL_getD, rdL_getD, hw, Int.toNat_natCast]
  refine Ev.ifp (by omega) (Ev.ifp (by omega) (Ev.ifp (by omega) (Ev.bind hf ?_)))
  by_cases c : (forcedV (A.getD i []) (kn.getD i [])).2 = true
  ·refine Ev.ifp c ?_
   have hset : ∀ x ∈ kn.set i (forcedV (A.getD i []) (kn.getD i [])).1, x.length ≤ 1000 := by
    intro x hxm
    rcases List.mem_or_eq_of_mem_set hxm with h | h
    ·exact hx x h
    ·rw [h]; omega
   have R : rowsPass A (d + 1) i kn ag = rowsPass A d (i + 1) (kn.set i (forcedV (A.getD i []) (kn.getD i [])).1) (ag || decide ((forcedV (A.getD i []) (kn.getD i [])).1 ≠ kn.getD i [])) := by
    rw [rowsPass, if_pos c]
   rw [R] at hK hN
   cases ag with
   | true =>
    refine Ev.ifp rfl ?_
    exact ih (i + 1) _ true (by omega) (by simp [hk]) hset (by simpa using hK) (by simpa using hN)
   | false =>
    refine Ev.ifn (by decide) (Ev.bind (hE _ _ (by omega)) ?_)
    have e3 : (!decide ((forcedV (A.getD i []) (kn.getD i [])).1 = kn.getD i [])) = decide ((forcedV (A.getD i []) (kn.getD i [])).1 ≠ kn.getD i []) := by simp
    rw [e3]
    exact ih (i + 1) _ _ (by omega) (by simp [hk]) hset (by simpa using hK) (by simpa using hN)
  ·refine Ev.ifn c (Ev.eq (Ev.now _) ?_)
   exact (hN (by rw [rowsPass, if_neg c])).symm

theorem colP_len (kn : List (List Int)) (j : Nat) : (colP kn j).length = kn.length := by simp [colP]
theorem setCol_len (kn : List (List Int)) (j : Nat) (x : List Int) : (setCol kn j x).length = kn.length := by simp [setCol]
/-- The column, cell by cell, in the program. -/
theorem implCol (A B kn : List (List Int)) (ag : Bool) (j : Nat) (hk : kn.length ≤ 1000) (hj : ∀ x ∈ kn, j < x.length) (clue : List Int) (n : Int) (r : List (List Int) × Bool)
  (K : Ev (fun k => (impl_LineForced.f k clue (colP kn j)).bind fun bt => (if bt.2 = true then (impl_PictureLines.l6 k kn ag j B n j bt.1 (bt.1.length : Int) 0 A B) else (some (([] : List (List Int)), false)))) r) :
  ∀ (d i : Nat), kn.length = i + d → Ev (fun k => impl_PictureLines.l5 k kn ag j clue ((colP kn j).take i) B n j (kn.length : Int) i A B) r := by
 intro d
 induction d with
 | zero =>
  intro i hi
  refine Ev.step (fun k => by rw [impl_PictureLines.l5]) (Ev.ifn (by omega) ?_)
  rw [List.take_of_length_le (by rw [colP_len]; omega)]
  exact K
 | succ d ih =>
  intro i hi
  have hlk : i < kn.length := by omega
  have hw : wrap64 ((i : Int) + 1) = ((i + 1 : Nat) : Int) := by rw [w64 (by omega) (by omega)]; omega
  have e2 : rd_L1 kn (i : Int) = kn[i] := rdL_nat kn i hlk
  have hjl := hj _ (List.getElem_mem hlk)
  refine Ev.step (fun k => by rw [impl_PictureLines.l5]) ?_
  rw [e2, hw, rd_nat kn[i] j hjl]
  refine Ev.ifp (by omega) (Ev.ifp (by omega) (Ev.ifp (by omega) (Ev.ifp (by omega) (Ev.ifp (by omega) (Ev.ifp (by rw [List.length_take, colP_len]; omega) ?_)))))
  have h := ih (i + 1) (by omega)
  have hc : i < (colP kn j).length := by rw [colP_len]; exact hlk
  rw [List.take_succ_eq_append_getElem hc] at h
  have e3 : (colP kn j)[i] = kn[i][j] := by simp [colP, List.getD_eq_getElem?_getD, hjl]
  rw [e3] at h
  exact h
/-! What the passes keep: the form of the grid; what is known; a change fills a cell. -/
def cellP (kn : List (List Int)) (i j : Nat) : Int := (kn.getD i []).getD j 0
structure ShapeP (R C : Nat) (kn : List (List Int)) : Prop where
 len : kn.length = R
 row : ∀ x ∈ kn, x.length = C
 rng : ∀ x ∈ kn, ∀ v ∈ x, -1 ≤ v ∧ v ≤ 1
def KeepsP (R C : Nat) (kn kn' : List (List Int)) : Prop := ∀ i j, i < R → j < C → 0 ≤ cellP kn i j → cellP kn' i j = cellP kn i j
def FillsP (R C : Nat) (kn kn' : List (List Int)) : Prop := ∃ i j, i < R ∧ j < C ∧ cellP kn i j < 0 ∧ 0 ≤ cellP kn' i j
theorem getD_lt {α : Type} (l : List α) (i : Nat) (d : α) (h : i < l.length) : l.getD i d = l[i] := by
 rw [List.getD_eq_getElem?_getD, List.getElem?_eq_getElem h]; rfl
theorem KeepsP.refl (R C : Nat) (kn : List (List Int)) : KeepsP R C kn kn := fun _ _ _ _ _ => rfl
theorem KeepsP.trans {R C : Nat} {a b c : List (List Int)} (h : KeepsP R C a b) (h2 : KeepsP R C b c) : KeepsP R C a c := fun i j hi hj h0 => by
 have e := h i j hi hj h0
 rw [← e]; exact h2 i j hi hj (by rw [e]; exact h0)
theorem FillsP.left {R C : Nat} {a b c : List (List Int)} (h : FillsP R C a b) (h2 : KeepsP R C b c) : FillsP R C a c := by
 obtain ⟨i, j, hi, hj, h0, h1⟩ := h
 exact ⟨i, j, hi, hj, h0, by rw [h2 i j hi hj h1]; exact h1⟩
theorem FillsP.right {R C : Nat} {a b c : List (List Int)} (h : KeepsP R C a b) (h2 : FillsP R C b c) : FillsP R C a c := by
 obtain ⟨i, j, hi, hj, h0, h1⟩ := h2
 refine ⟨i, j, hi, hj, ?_, h1⟩
 by_cases c0 : cellP a i j < 0
 ·exact c0
 ·have := h i j hi hj (by omega); omega
theorem forced_facts {clue l : List Int} (h : (forcedV clue l).2 = true) : (forcedV clue l).1.length = l.length ∧ (∀ v ∈ (forcedV clue l).1, -1 ≤ v ∧ v ≤ 1) ∧ (∀ j, j < l.length → 0 ≤ l.getD j 0 → (forcedV clue l).1.getD j 0 = l.getD j 0) ∧ (∀ j, j < l.length → -1 ≤ l.getD j 0) := by
 unfold forcedV at h ⊢
 split at h
 case isFalse => cases h
 rename_i hv
 split at h
 case isTrue => cases h
 rename_i hne
 rw [if_pos hv, if_neg hne]
 refine ⟨by simp, fun v hv2 => ?_, fun j hj h0 => ?_, fun j hj => ?_⟩
 ·obtain ⟨j, _, rfl⟩ := List.mem_map.1 hv2
  exact cls_range _ j
 ·rw [getD_lt l j 0 hj] at h0 ⊢
  rw [getD_lt _ j 0 (by simpa using hj)]
  rw [List.getElem_map, List.getElem_range]
  exact cls_keeps hne j hj h0
 ·rw [getD_lt l j 0 hj]
  exact ((knownV_ok hv.1).2.2 _ (List.getElem_mem hj)).1
theorem forced_fill {clue l : List Int} (h : (forcedV clue l).2 = true) (hne : (forcedV clue l).1 ≠ l) : ∃ j, j < l.length ∧ l.getD j 0 < 0 ∧ 0 ≤ (forcedV clue l).1.getD j 0 := by
 obtain ⟨h1, h2, h3, h4⟩ := forced_facts h
 refine Classical.byContradiction fun hc => hne ?_
 apply List.ext_getElem h1
 intro j hj hj'
 have a1 := h3 j hj'
 have a2 := h4 j hj'
 have a3 := h2 _ (List.getElem_mem hj)
 rw [getD_lt l j 0 hj'] at a1 a2
 rw [getD_lt _ j 0 hj] at a1
 by_cases c : 0 ≤ l[j]
 ·exact a1 c
 ·have : ¬ 0 ≤ (forcedV clue l).1[j] := fun hx => hc ⟨j, hj', by rw [getD_lt l j 0 hj']; omega, by rw [getD_lt _ j 0 hj]; exact hx⟩
  omega
theorem cell_set (kn : List (List Int)) (i : Nat) (y : List Int) (hi : i < kn.length) (q j : Nat) : cellP (kn.set i y) q j = if q = i then y.getD j 0 else cellP kn q j := by
 unfold cellP
 by_cases c : q = i
 ·subst c; rw [if_pos rfl, getD_lt _ q [] (by simpa using hi), List.getElem_set_self]
 ·rw [if_neg c, List.getD_eq_getElem?_getD (l := kn.set i y), List.getElem?_set_ne (by omega), ← List.getD_eq_getElem?_getD]
theorem row_getD {R C : Nat} {kn : List (List Int)} (h : ShapeP R C kn) (i : Nat) (hi : i < R) : (kn.getD i []) ∈ kn ∧ (kn.getD i []).length = C := by
 have hl : i < kn.length := by rw [h.len]; exact hi
 rw [getD_lt kn i [] hl]
 exact ⟨List.getElem_mem hl, h.row _ (List.getElem_mem hl)⟩
theorem row_step {R C : Nat} {kn : List (List Int)} (h : ShapeP R C kn) (clue : List Int) (i : Nat) (hi : i < R) (hf : (forcedV clue (kn.getD i [])).2 = true) :
  ShapeP R C (kn.set i (forcedV clue (kn.getD i [])).1) ∧ KeepsP R C kn (kn.set i (forcedV clue (kn.getD i [])).1) ∧ ((forcedV clue (kn.getD i [])).1 ≠ kn.getD i [] → FillsP R C kn (kn.set i (forcedV clue (kn.getD i [])).1)) := by
 obtain ⟨h1, h2, h3, h4⟩ := forced_facts hf
 obtain ⟨r1, r2⟩ := row_getD h i hi
 have hl : i < kn.length := by rw [h.len]; exact hi
 refine ⟨⟨by rw [List.length_set]; exact h.len, fun x hx => ?_, fun x hx => ?_⟩, fun q j hq hj h0 => ?_, fun hne => ?_⟩
 ·rcases List.mem_or_eq_of_mem_set hx with hx | hx
  ·exact h.row x hx
  ·rw [hx, h1, r2]
 ·rcases List.mem_or_eq_of_mem_set hx with hx | hx
  ·exact h.rng x hx
  ·rw [hx]; exact h2
 ·rw [cell_set kn i _ hl]
  by_cases c : q = i
  ·subst c; rw [if_pos rfl]; exact h3 j (by rw [r2]; exact hj) h0
  ·rw [if_neg c]
 ·obtain ⟨j, hj, h0, hx⟩ := forced_fill hf hne
  refine ⟨i, j, hi, by rw [← r2]; exact hj, h0, ?_⟩
  rw [cell_set kn i _ hl, if_pos rfl]; exact hx
theorem colP_get (kn : List (List Int)) (j i : Nat) (hi : i < kn.length) : (colP kn j).getD i 0 = cellP kn i j := by
 unfold colP cellP
 rw [getD_lt _ i 0 (by simpa using hi), getD_lt kn i [] hi, List.getElem_map]
theorem cell_setCol {R C : Nat} {kn : List (List Int)} (h : ShapeP R C kn) (j : Nat) (x : List Int) (i q : Nat) (hi : i < R) (hj : j < C) : cellP (setCol kn j x) i q = if q = j then x.getD i 0 else cellP kn i q := by
 obtain ⟨r1, r2⟩ := row_getD h i hi
 have hl : i < kn.length := by rw [h.len]; exact hi
 unfold setCol
 show (((List.range kn.length).map fun i => (kn.getD i []).set j (x.getD i 0)).getD i []).getD q 0 = _
 rw [getD_lt _ i [] (by simpa using hl), List.getElem_map, List.getElem_range]
 by_cases c : q = j
 ·subst c; rw [if_pos rfl, getD_lt _ q 0 (by rw [List.length_set, r2]; exact hj), List.getElem_set_self]
 ·rw [if_neg c]; unfold cellP
  rw [List.getD_eq_getElem?_getD, List.getElem?_set_ne (by omega), ← List.getD_eq_getElem?_getD]
theorem col_step {R C : Nat} {kn : List (List Int)} (h : ShapeP R C kn) (clue : List Int) (j : Nat) (hj : j < C) (hf : (forcedV clue (colP kn j)).2 = true) :
  ShapeP R C (setCol kn j (forcedV clue (colP kn j)).1) ∧ KeepsP R C kn (setCol kn j (forcedV clue (colP kn j)).1) ∧ ((forcedV clue (colP kn j)).1 ≠ colP kn j → FillsP R C kn (setCol kn j (forcedV clue (colP kn j)).1)) := by
 obtain ⟨h1, h2, h3, h4⟩ := forced_facts hf
 have cl : (colP kn j).length = R := by rw [colP_len, h.len]
 have hc : ∀ i, i < R → (colP kn j).getD i 0 = cellP kn i j := fun i hi => colP_get kn j i (by rw [h.len]; exact hi)
 have hmem : ∀ x ∈ setCol kn j (forcedV clue (colP kn j)).1, ∃ i, i < R ∧ x = (kn.getD i []).set j ((forcedV clue (colP kn j)).1.getD i 0) := by
  intro x hx
  unfold setCol at hx
  obtain ⟨i, hi, rfl⟩ := List.mem_map.1 hx
  exact ⟨i, by rw [← h.len]; exact List.mem_range.1 hi, rfl⟩
 refine ⟨⟨by rw [setCol_len]; exact h.len, fun x hx => ?_, fun x hx v hv => ?_⟩, fun q i hq hi h0 => ?_, fun hne => ?_⟩
 ·obtain ⟨i, hi, rfl⟩ := hmem x hx
  rw [List.length_set]; exact (row_getD h i hi).2
 ·obtain ⟨i, hi, rfl⟩ := hmem x hx
  rcases List.mem_or_eq_of_mem_set hv with hv | hv
  ·exact h.rng _ (row_getD h i hi).1 v hv
  ·rw [hv, getD_lt _ i 0 (by omega)]
   exact h2 _ (List.getElem_mem _)
 ·rw [cell_setCol h j _ q i hq hj]
  by_cases c : i = j
  ·subst c; rw [if_pos rfl, h3 q (by omega) (by rw [hc q hq]; exact h0), hc q hq]
  ·rw [if_neg c]
 ·obtain ⟨i, hi, h0, hx⟩ := forced_fill hf hne
  have hi' : i < R := by omega
  refine ⟨i, j, hi', hj, by rw [← hc i hi']; exact h0, ?_⟩
  rw [cell_setCol h j _ i j hi' hj, if_pos rfl]; exact hx
/-- The pass over the rows. -/
theorem rows_keep (A : List (List Int)) (C : Nat) : ∀ (d i : Nat) (kn : List (List Int)) (ag : Bool) (z : List (List Int) × Bool), A.length = i + d → ShapeP A.length C kn → rowsPass A d i kn ag = some z →
  ShapeP A.length C z.1 ∧ KeepsP A.length C kn z.1 ∧ (z.2 = true → ag = true ∨ FillsP A.length C kn z.1) := by
 intro d
 induction d with
 | zero => intro i kn ag z hi hs h; obtain rfl := Option.some.inj h; exact ⟨hs, KeepsP.refl _ _ _, fun e => .inl e⟩
 | succ d ih =>
  intro i kn ag z hi hs h
  rw [rowsPass] at h
  split at h
  case isFalse => cases h
  rename_i hf
  obtain ⟨a1, a2, a3⟩ := row_step hs (A.getD i []) i (by omega) hf
  obtain ⟨b1, b2, b3⟩ := ih (i + 1) _ _ z (by omega) a1 h
  refine ⟨b1, a2.trans b2, fun e => ?_⟩
  rcases b3 e with h1 | h1
  ·rw [Bool.or_eq_true, decide_eq_true_eq] at h1
   rcases h1 with h1 | h1
   ·exact .inl h1
   ·exact .inr ((a3 h1).left b2)
  ·exact .inr (FillsP.right a2 h1)
theorem cols_keep (B : List (List Int)) (R : Nat) : ∀ (d j : Nat) (kn : List (List Int)) (ag : Bool) (z : List (List Int) × Bool), B.length = j + d → ShapeP R B.length kn → colsPass B d j kn ag = some z →
  ShapeP R B.length z.1 ∧ KeepsP R B.length kn z.1 ∧ (z.2 = true → ag = true ∨ FillsP R B.length kn z.1) := by
 intro d
 induction d with
 | zero => intro j kn ag z hj hs h; obtain rfl := Option.some.inj h; exact ⟨hs, KeepsP.refl _ _ _, fun e => .inl e⟩
 | succ d ih =>
  intro j kn ag z hj hs h
  rw [colsPass] at h
  split at h
  case isFalse => cases h
  rename_i hf
  obtain ⟨a1, a2, a3⟩ := col_step hs (B.getD j []) j (by omega) hf
  obtain ⟨b1, b2, b3⟩ := ih (j + 1) _ _ z (by omega) a1 h
  refine ⟨b1, a2.trans b2, fun e => ?_⟩
  rcases b3 e with h1 | h1
  ·rw [Bool.or_eq_true, decide_eq_true_eq] at h1
   rcases h1 with h1 | h1
   ·exact .inl h1
   ·exact .inr ((a3 h1).left b2)
  ·exact .inr (FillsP.right a2 h1)
theorem round_keep (A B : List (List Int)) (kn : List (List Int)) (z : List (List Int) × Bool) (hs : ShapeP A.length B.length kn) (h : roundPass A B kn = some z) :
  ShapeP A.length B.length z.1 ∧ KeepsP A.length B.length kn z.1 ∧ (z.2 = true → FillsP A.length B.length kn z.1) := by
 obtain ⟨y, hy, hz⟩ := Option.bind_eq_some_iff.mp h
 obtain ⟨a1, a2, a3⟩ := rows_keep A B.length A.length 0 kn false y (by omega) hs hy
 obtain ⟨b1, b2, b3⟩ := cols_keep B A.length B.length 0 y.1 y.2 z (by omega) a1 hz
 refine ⟨b1, a2.trans b2, fun e => ?_⟩
 rcases b3 e with h1 | h1
 ·rcases a3 h1 with h2 | h2
  ·cases h2
  ·exact h2.left b2
 ·exact FillsP.right a2 h1
/-- The cells that are not known. -/
def unkP (R C : Nat) (kn : List (List Int)) : Nat := ((List.range R).flatMap fun i => (List.range C).map fun j => (i, j)).countP fun p => decide (cellP kn p.1 p.2 < 0)
theorem countP_lt {α : Type} (p q : α → Bool) : ∀ (l : List α), (∀ x ∈ l, q x = true → p x = true) → (∃ x ∈ l, p x = true ∧ q x = false) → l.countP q < l.countP p := by
 intro l
 induction l with
 | nil => intro _ h; obtain ⟨x, hx, _⟩ := h; cases hx
 | cons a l ih =>
  intro h1 h2
  have hm : l.countP q ≤ l.countP p := List.countP_mono_left (fun x hx => h1 x (by simp [hx]))
  rw [List.countP_cons, List.countP_cons]
  obtain ⟨x, hx, hp, hq⟩ := h2
  have ha := h1 a (by simp)
  rcases List.mem_cons.1 hx with rfl | hx
  ·rw [hp, hq]; simp; omega
  ·have := ih (fun x hx => h1 x (by simp [hx])) ⟨x, hx, hp, hq⟩
   cases hqa : q a
   ·cases hpa : p a <;> simp <;> omega
   ·rw [ha hqa]; simp; omega
theorem unk_lt {R C : Nat} {a b : List (List Int)} (h : KeepsP R C a b) (h2 : FillsP R C a b) : unkP R C b < unkP R C a := by
 have hm : ∀ p : Nat × Nat, p ∈ ((List.range R).flatMap fun i => (List.range C).map fun j => (i, j)) ↔ p.1 < R ∧ p.2 < C := by
  intro p
  simp only [List.mem_flatMap, List.mem_map, List.mem_range]
  constructor
  ·rintro ⟨i, hi, j, hj, rfl⟩; exact ⟨hi, hj⟩
  ·rintro ⟨h1, h2⟩; exact ⟨p.1, h1, p.2, h2, rfl⟩
 apply countP_lt
 ·intro p hp hq
  rw [decide_eq_true_eq] at hq ⊢
  obtain ⟨h3, h4⟩ := (hm p).1 hp
  by_cases c : cellP a p.1 p.2 < 0
  ·exact c
  ·have := h p.1 p.2 h3 h4 (by omega); omega
 ·obtain ⟨i, j, hi, hj, h3, h4⟩ := h2
  exact ⟨(i, j), (hm _).2 ⟨hi, hj⟩, decide_eq_true h3, decide_eq_false (by show ¬ cellP b i j < 0; omega)⟩
theorem unk_le (R C : Nat) (kn : List (List Int)) : unkP R C kn ≤ R * C := by
 refine Nat.le_trans List.countP_le_length ?_
 rw [List.length_flatMap]
 simp [List.map_const', List.sum_replicate_nat]
/-! PictureLines of both: rounds. -/
theorem specCol (A B kn : List (List Int)) (ag : Bool) (j : Nat) (hB : j < B.length) (hk : kn.length ≤ 1000) (hj : ∀ x ∈ kn, j < x.length) (r : List (List Int) × Bool)
  (K : Ev (fun k => (spec_LineForced.f k (B.getD j []) (colP kn j)).bind fun bt => (if bt.2 = true then (if ag = true then (spec_PictureLines.j4 k kn true j bt.1 A B) else ((spec_l8Same.f k bt.1 (colP kn j)).bind fun t => (spec_PictureLines.j4 k kn (!t) j bt.1 A B))) else (some (([] : List (List Int)), false)))) r) :
  ∀ (d i : Nat), kn.length = i + d → Ev (fun k => spec_PictureLines.l3 k kn ag j ((colP kn j).take i) i A B) r := by
 intro d
 induction d with
 | zero =>
  intro i hi
  refine Ev.step (fun k => by rw [spec_PictureLines.l3, rdL_getD]) (Ev.ifn (by omega) (Ev.ifp (by omega) (Ev.ifp (by omega) ?_)))
  rw [List.take_of_length_le (by rw [colP_len]; omega)]
  exact K
 | succ d ih =>
  intro i hi
  have hlk : i < kn.length := by omega
  have hw : wrap64 ((i : Int) + 1) = ((i + 1 : Nat) : Int) := by rw [w64 (by omega) (by omega)]; omega
  have e2 : rd_L1 kn (i : Int) = kn[i] := rdL_nat kn i hlk
  have hjl := hj _ (List.getElem_mem hlk)
  refine Ev.step (fun k => by rw [spec_PictureLines.l3]) ?_
  rw [e2, hw, rd_nat kn[i] j hjl]
  refine Ev.ifp (by omega) (Ev.ifp (by omega) (Ev.ifp (by omega) (Ev.ifp (by omega) (Ev.ifp (by rw [List.length_take, colP_len]; omega) ?_))))
  have h := ih (i + 1) (by omega)
  have hc : i < (colP kn j).length := by rw [colP_len]; exact hlk
  rw [List.take_succ_eq_append_getElem hc] at h
  have e3 : (colP kn j)[i] = kn[i][j] := by simp [colP, List.getD_eq_getElem?_getD, hjl]
  rw [e3] at h
  exact h
/-- The column's first cells are stored. -/
def putCol (kn : List (List Int)) (j : Nat) (x : List Int) (i : Nat) : List (List Int) := (List.range kn.length).map fun q => if q < i then (kn.getD q []).set j (x.getD q 0) else kn.getD q []
theorem putCol_len (kn : List (List Int)) (j : Nat) (x : List Int) (i : Nat) : (putCol kn j x i).length = kn.length := by simp [putCol]
theorem putCol_zero (kn : List (List Int)) (j : Nat) (x : List Int) : putCol kn j x 0 = kn := by
 apply List.ext_getElem (putCol_len _ _ _ _)
 intro q h1 h2
 simp only [putCol, List.getElem_map, List.getElem_range]
 rw [if_neg (by omega), getD_lt kn q [] h2]
theorem putCol_full (kn : List (List Int)) (j : Nat) (x : List Int) : putCol kn j x kn.length = setCol kn j x := by
 unfold putCol setCol
 apply List.map_congr_left
 intro q hq
 rw [if_pos (List.mem_range.1 hq)]
theorem putCol_get (kn : List (List Int)) (j : Nat) (x : List Int) (i q : Nat) (hq : q < kn.length) : (putCol kn j x i)[q]'(by rw [putCol_len]; exact hq) = if q < i then kn[q].set j (x.getD q 0) else kn[q] := by
 simp only [putCol, List.getElem_map, List.getElem_range]
 rw [getD_lt kn q [] hq]
theorem putCol_step (kn : List (List Int)) (j : Nat) (x : List Int) (i : Nat) (hi : i < kn.length) : (putCol kn j x i).set i (kn[i].set j (x.getD i 0)) = putCol kn j x (i + 1) := by
 apply List.ext_getElem (by rw [List.length_set, putCol_len, putCol_len])
 intro q h1 h2
 have hq : q < kn.length := by rw [putCol_len] at h2; exact h2
 rw [putCol_get kn j x (i + 1) q hq]
 by_cases c : q = i
 ·subst c; rw [List.getElem_set_self, if_pos (by omega)]
 ·rw [List.getElem_set_ne (by omega), putCol_get kn j x i q hq]
  by_cases c2 : q < i
  ·rw [if_pos c2, if_pos (by omega)]
  ·rw [if_neg c2, if_neg (by omega)]
theorem specStore (A B kn : List (List Int)) (ag : Bool) (j : Nat) (hk : kn.length ≤ 1000) (hj : ∀ x ∈ kn, j < x.length) (x : List Int) (hx : x.length = kn.length) (r : List (List Int) × Bool)
  (K : Ev (fun k => spec_PictureLines.l2 k (setCol kn j x) ag (wrap64 ((j : Int) + 1)) A B) r) :
  ∀ (d i : Nat), kn.length = i + d → Ev (fun k => spec_PictureLines.l4 k (putCol kn j x i) ag j x i A B) r := by
 intro d
 induction d with
 | zero =>
  intro i hi
  refine Ev.step (fun k => by rw [spec_PictureLines.l4]) (Ev.ifn (by rw [putCol_len]; omega) ?_)
  have e : i = kn.length := by omega
  subst e
  rw [putCol_full]
  exact K
 | succ d ih =>
  intro i hi
  have hlk : i < kn.length := by omega
  have hw : wrap64 ((i : Int) + 1) = ((i + 1 : Nat) : Int) := by rw [w64 (by omega) (by omega)]; omega
  have e2 : rd_L1 (putCol kn j x i) (i : Int) = kn[i] := by
   rw [rdL_nat _ i (by rw [putCol_len]; exact hlk), putCol_get kn j x i i hlk, if_neg (by omega)]
  have hjl := hj _ (List.getElem_mem hlk)
  have hxl : i < x.length := by omega
  refine Ev.step (fun k => by rw [spec_PictureLines.l4]) ?_
  rw [e2, hw, rd_nat x i hxl, Int.toNat_natCast, Int.toNat_natCast, putCol_len]
  refine Ev.ifp (by omega) (Ev.ifp (by omega) (Ev.ifp (by omega) (Ev.ifp (by omega) (Ev.ifp (by omega) ?_))))
  have h := ih (i + 1) (by omega)
  rw [← putCol_step kn j x i hlk, getD_lt x i 0 hxl] at h
  exact h
theorem implStore (A B kn : List (List Int)) (ag : Bool) (j : Nat) (n : Int) (hk : kn.length ≤ 1000) (hj : ∀ x ∈ kn, j < x.length) (x : List Int) (hx : x.length = kn.length) (r : List (List Int) × Bool)
  (K : Ev (fun k => impl_PictureLines.l4 k (setCol kn j x) (ag || decide (x ≠ colP kn j)) B n (wrap64 ((j : Int) + 1)) A B) r) :
  ∀ (d i : Nat), kn.length = i + d → Ev (fun k => impl_PictureLines.l6 k (putCol kn j x i) (ag || decide (x.take i ≠ (colP kn j).take i)) j B n j x (x.length : Int) i A B) r := by
 intro d
 induction d with
 | zero =>
  intro i hi
  refine Ev.step (fun k => by rw [impl_PictureLines.l6]) (Ev.ifn (by omega) ?_)
  have e : i = kn.length := by omega
  subst e
  rw [putCol_full, List.take_of_length_le (by omega), List.take_of_length_le (by rw [colP_len]; omega)]
  exact K
 | succ d ih =>
  intro i hi
  have hlk : i < kn.length := by omega
  have hw : wrap64 ((i : Int) + 1) = ((i + 1 : Nat) : Int) := by rw [w64 (by omega) (by omega)]; omega
  have e2 : rd_L1 (putCol kn j x i) (i : Int) = kn[i] := by
   rw [rdL_nat _ i (by rw [putCol_len]; exact hlk), putCol_get kn j x i i hlk, if_neg (by omega)]
  have hjl := hj _ (List.getElem_mem hlk)
  have hxl : i < x.length := by omega
  have hcl : i < (colP kn j).length := by rw [colP_len]; exact hlk
  have e3 : (colP kn j)[i] = kn[i][j] := by simp [colP, List.getD_eq_getElem?_getD, hjl]
  have h := ih (i + 1) (by omega)
  rw [← putCol_step kn j x i hlk, getD_lt x i 0 hxl] at h
  have hag : (ag || decide (x.take (i + 1) ≠ (colP kn j).take (i + 1))) = ((ag || decide (x.take i ≠ (colP kn j).take i)) || (kn[i][j] != x[i])) := by
   rw [List.take_succ_eq_append_getElem hxl, List.take_succ_eq_append_getElem hcl, e3, Bool.or_assoc]
   congr 1
   rw [Bool.eq_iff_iff]
   simp only [decide_eq_true_eq, Bool.or_eq_true, bne_iff_ne, ne_eq]
   constructor
   ·intro hne
    by_cases c1 : x.take i = (colP kn j).take i
    ·right; intro e; exact hne (by rw [c1, e])
    ·exact .inl c1
   ·intro ho he
    obtain ⟨p1, p2⟩ := List.append_inj he (by rw [List.length_take, List.length_take, colP_len]; omega)
    rcases ho with ho | ho
    ·exact ho p1
    ·exact ho (by simpa using p2.symm)
  rw [hag] at h
  refine Ev.step (fun k => by rw [impl_PictureLines.l6]) ?_
  rw [e2, hw, rd_nat x i hxl, rd_nat kn[i] j hjl, Int.toNat_natCast, Int.toNat_natCast, putCol_len]
  cases hb : (ag || decide (x.take i ≠ (colP kn j).take i)) with
  | true =>
   rw [hb, Bool.true_or] at h
   exact Ev.ifp (by omega) (Ev.ifp (by omega) (Ev.ifp (by omega) (Ev.ifp rfl (Ev.ifp (by omega) (Ev.ifp (by omega) (Ev.ifp (by omega) h))))))
  | false =>
   rw [hb, Bool.false_or] at h
   exact Ev.ifp (by omega) (Ev.ifp (by omega) (Ev.ifp (by omega) (Ev.ifn (by decide) (Ev.ifp (by omega) (Ev.ifp (by omega) (Ev.ifp (by omega) h))))))
/-- The columns' pass of the program. -/
theorem implCols (A B : List (List Int)) (hA : A.length ≤ 1000) (hB : B.length ≤ 1000) (hb : ∀ x ∈ B, x.length ≤ 1048576) (r : List (List Int) × Bool) :
  ∀ (d j : Nat) (kn : List (List Int)) (ag : Bool), B.length = j + d → ShapeP A.length B.length kn →
  (∀ z, colsPass B d j kn ag = some z → Ev (fun k => impl_PictureLines.l2 k z.1 z.2 A B) r) → (colsPass B d j kn ag = none → r = ([], false)) →
  Ev (fun k => impl_PictureLines.l4 k kn ag B (B.length : Int) j A B) r := by
 intro d
 induction d with
 | zero =>
  intro j kn ag hj hs hK hN
  refine Ev.step (fun k => by rw [impl_PictureLines.l4]) (Ev.ifn (by omega) ?_)
  exact hK (kn, ag) rfl
 | succ d ih =>
  intro j kn ag hj hs hK hN
  have hlt : j < B.length := by omega
  have hw : wrap64 ((j : Int) + 1) = ((j + 1 : Nat) : Int) := by rw [w64 (by omega) (by omega)]; omega
  have b1 : (B.getD j []).length ≤ 1048576 := by rw [getD_lt B j [] hlt]; exact hb _ (List.getElem_mem hlt)
  have kl := hs.len
  have cl := colP_len kn j
  have hf := impl_forced (B.getD j []) (colP kn j) (by omega) (by omega)
  have hjx : ∀ x ∈ kn, j < x.length := fun x hx => by rw [hs.row x hx]; exact hlt
  refine Ev.step (fun k => by rw [impl_PictureLines.l4, rdL_getD]) (Ev.ifp (by omega) (Ev.ifp (by omega) (Ev.ifp (by omega) ?_)))
  refine implCol A B kn ag j (by omega) hjx (B.getD j []) (B.length : Int) r (Ev.bind hf ?_) kn.length 0 (by omega)
  by_cases c : (forcedV (B.getD j []) (colP kn j)).2 = true
  ·refine Ev.ifp c ?_
   obtain ⟨a1, a2, a3⟩ := col_step hs (B.getD j []) j hlt c
   obtain ⟨f1, _⟩ := forced_facts c
   have R : colsPass B (d + 1) j kn ag = colsPass B d (j + 1) (setCol kn j (forcedV (B.getD j []) (colP kn j)).1) (ag || decide ((forcedV (B.getD j []) (colP kn j)).1 ≠ colP kn j)) := by
    rw [colsPass, if_pos c]
   rw [R] at hK hN
   have h := implStore A B kn ag j (B.length : Int) (by omega) hjx (forcedV (B.getD j []) (colP kn j)).1 (by omega) r (by rw [hw]; exact ih (j + 1) _ _ (by omega) a1 hK hN) kn.length 0 (by omega)
   rw [putCol_zero, List.take_zero, List.take_zero] at h
   simpa using h
  ·refine Ev.ifn c (Ev.eq (Ev.now _) ?_)
   exact (hN (by rw [colsPass, if_neg c])).symm
/-- The columns' pass of the reference. -/
theorem specCols (A B : List (List Int)) (hA : A.length ≤ 1000) (hB : B.length ≤ 1000) (hb : ∀ x ∈ B, x.length ≤ 1048576) (r : List (List Int) × Bool) :
  ∀ (d j : Nat) (kn : List (List Int)) (ag : Bool), B.length = j + d → ShapeP A.length B.length kn →
  (∀ z, colsPass B d j kn ag = some z → Ev (fun k => spec_PictureLines.l0 k z.1 z.2 A B) r) → (colsPass B d j kn ag = none → r = ([], false)) →
  Ev (fun k => spec_PictureLines.l2 k kn ag j A B) r := by
 intro d
 induction d with
 | zero =>
  intro j kn ag hj hs hK hN
  refine Ev.step (fun k => by rw [spec_PictureLines.l2]) (Ev.ifn (by omega) ?_)
  exact hK (kn, ag) rfl
 | succ d ih =>
  intro j kn ag hj hs hK hN
  have hlt : j < B.length := by omega
  have hw : wrap64 ((j : Int) + 1) = ((j + 1 : Nat) : Int) := by rw [w64 (by omega) (by omega)]; omega
  have b1 : (B.getD j []).length ≤ 1048576 := by rw [getD_lt B j [] hlt]; exact hb _ (List.getElem_mem hlt)
  have kl := hs.len
  have cl := colP_len kn j
  have hf := spec_forced (B.getD j []) (colP kn j) (by omega) (by omega)
  have hjx : ∀ x ∈ kn, j < x.length := fun x hx => by rw [hs.row x hx]; exact hlt
  refine Ev.step (fun k => by rw [spec_PictureLines.l2]) (Ev.ifp (by omega) ?_)
  refine specCol A B kn ag j hlt (by omega) hjx r (Ev.bind hf ?_) kn.length 0 (by omega)
  by_cases c : (forcedV (B.getD j []) (colP kn j)).2 = true
  ·refine Ev.ifp c ?_
   obtain ⟨a1, a2, a3⟩ := col_step hs (B.getD j []) j hlt c
   obtain ⟨f1, _⟩ := forced_facts c
   have R : colsPass B (d + 1) j kn ag = colsPass B d (j + 1) (setCol kn j (forcedV (B.getD j []) (colP kn j)).1) (ag || decide ((forcedV (B.getD j []) (colP kn j)).1 ≠ colP kn j)) := by
    rw [colsPass, if_pos c]
   rw [R] at hK hN
   have h := fun ag2 hh => specStore A B kn ag2 j (by omega) hjx (forcedV (B.getD j []) (colP kn j)).1 (by omega) r hh kn.length 0 (by omega)
   rw [putCol_zero, hw] at h
   cases ag with
   | true =>
    refine Ev.ifp rfl (Ev.step (fun k => by rw [spec_PictureLines.j4]; rfl) (h true ?_))
    exact ih (j + 1) _ true (by omega) a1 (by simpa using hK) (by simpa using hN)
   | false =>
    refine Ev.ifn (by decide) (Ev.bind (l8Same_ev _ _ (by omega)) (Ev.step (fun k => by rw [spec_PictureLines.j4]; rfl) (h _ ?_)))
    have e3 : (!decide ((forcedV (B.getD j []) (colP kn j)).1 = colP kn j)) = decide ((forcedV (B.getD j []) (colP kn j)).1 ≠ colP kn j) := by simp
    rw [e3]
    exact ih (j + 1) _ _ (by omega) a1 (by simpa using hK) (by simpa using hN)
  ·refine Ev.ifn c (Ev.eq (Ev.now _) ?_)
   exact (hN (by rw [colsPass, if_neg c])).symm
theorem implRounds (A B : List (List Int)) (hA : A.length ≤ 1000) (hB : B.length ≤ 1000) (ha : ∀ x ∈ A, x.length ≤ 1048576) (hb : ∀ x ∈ B, x.length ≤ 1048576) :
  ∀ (n : Nat) (kn : List (List Int)), ShapeP A.length B.length kn → unkP A.length B.length kn < n → Ev (fun k => impl_PictureLines.l2 k kn true A B) (linesP A B n kn) := by
 intro n
 induction n with
 | zero => intro kn _ h; omega
 | succ n ih =>
  intro kn hs hu
  have hx : ∀ x ∈ kn, x.length ≤ 1000 := fun x hx => by rw [hs.row x hx]; omega
  refine Ev.step (fun k => by rw [impl_PictureLines.l2]) (Ev.ifp rfl ?_)
  refine implRows A B hA ha _ (fun x y h => equal_ev x y (by omega)) A.length 0 kn false (by omega) hs.len hx (fun y hy => ?_) (fun hn => ?_)
  ·obtain ⟨s1, _, _⟩ := rows_keep A B.length A.length 0 kn false y (by omega) hs hy
   refine implCols A B hA hB hb _ B.length 0 y.1 y.2 (by omega) s1 (fun z hz => ?_) (fun hn => ?_)
   ·have hr : roundPass A B kn = some z := by rw [roundPass, hy]; exact hz
    obtain ⟨t1, t2, t3⟩ := round_keep A B kn z hs hr
    rw [linesP, hr]
    by_cases c : z.2 = true
    ·have := unk_lt t2 (t3 c)
     rw [c]
     have h := ih z.1 t1 (by omega)
     simpa [c] using h
    ·have c' : z.2 = false := by simpa using c
     rw [c']
     refine Ev.step (fun k => by rw [impl_PictureLines.l2]) (Ev.ifn (by decide) (Ev.eq (Ev.now _) ?_))
     simp [c']
   ·have hr : roundPass A B kn = none := by rw [roundPass, hy]; exact hn
    rw [linesP, hr]
  ·have hr : roundPass A B kn = none := by rw [roundPass, hn]; rfl
   rw [linesP, hr]
theorem specRounds (A B : List (List Int)) (hA : A.length ≤ 1000) (hB : B.length ≤ 1000) (ha : ∀ x ∈ A, x.length ≤ 1048576) (hb : ∀ x ∈ B, x.length ≤ 1048576) :
  ∀ (n : Nat) (kn : List (List Int)), ShapeP A.length B.length kn → unkP A.length B.length kn < n → Ev (fun k => spec_PictureLines.l0 k kn true A B) (linesP A B n kn) := by
 intro n
 induction n with
 | zero => intro kn _ h; omega
 | succ n ih =>
  intro kn hs hu
  have hx : ∀ x ∈ kn, x.length ≤ 1000 := fun x hx => by rw [hs.row x hx]; omega
  refine Ev.step (fun k => by rw [spec_PictureLines.l0]) (Ev.ifp rfl ?_)
  refine specRows A B hA ha _ (fun x y h => l8Same_ev x y (by omega)) A.length 0 kn false (by omega) hs.len hx (fun y hy => ?_) (fun hn => ?_)
  ·obtain ⟨s1, _, _⟩ := rows_keep A B.length A.length 0 kn false y (by omega) hs hy
   refine specCols A B hA hB hb _ B.length 0 y.1 y.2 (by omega) s1 (fun z hz => ?_) (fun hn => ?_)
   ·have hr : roundPass A B kn = some z := by rw [roundPass, hy]; exact hz
    obtain ⟨t1, t2, t3⟩ := round_keep A B kn z hs hr
    rw [linesP, hr]
    by_cases c : z.2 = true
    ·have := unk_lt t2 (t3 c)
     rw [c]
     have h := ih z.1 t1 (by omega)
     simpa [c] using h
    ·have c' : z.2 = false := by simpa using c
     rw [c']
     refine Ev.step (fun k => by rw [spec_PictureLines.l0]) (Ev.ifn (by decide) (Ev.eq (Ev.now _) ?_))
     simp [c']
   ·have hr : roundPass A B kn = none := by rw [roundPass, hy]; exact hn
    rw [linesP, hr]
  ·have hr : roundPass A B kn = none := by rw [roundPass, hn]; rfl
   rw [linesP, hr]
/-! PictureLines of both: the whole. -/
theorem picV_len {A B : List (List Int)} (h : picV A B = true) : 1 ≤ A.length ∧ A.length ≤ 5 ∧ 1 ≤ B.length ∧ B.length ≤ 5 := by
 unfold picV at h
 simp only [Bool.and_eq_true, decide_eq_true_eq] at h
 omega
def blankP (R C : Nat) : List (List Int) := List.replicate R (List.replicate C (-1))
theorem blank_shape (R C : Nat) : ShapeP R C (blankP R C) := by
 refine ⟨by simp [blankP], fun x hx => ?_, fun x hx v hv => ?_⟩
 ·rw [List.eq_of_mem_replicate hx]; simp
 ·rw [List.eq_of_mem_replicate hx] at hv
  rw [List.eq_of_mem_replicate hv]; omega
def linesV (A B : List (List Int)) : List (List Int) × Bool := if picV A B = true then linesP A B (A.length * B.length + 1) (blankP A.length B.length) else ([], false)
theorem rep_snoc {α : Type} (n : Nat) (x : α) : List.replicate n x ++ [x] = List.replicate (n + 1) x := by rw [List.replicate_succ']
theorem impl_line_blank (A B kn : List (List Int)) (n i0 : Int) (hB : B.length ≤ 1000) (hk : kn.length ≤ 1000) (r : List (List Int) × Bool)
  (K : Ev (fun k => impl_PictureLines.l0 k (kn ++ [List.replicate B.length (-1)]) n (wrap64 (i0 + 1)) A B) r) : ∀ (d i : Nat), B.length = i + d →
  Ev (fun k => impl_PictureLines.l1 k kn (List.replicate i (-1)) n i0 (B.length : Int) i A B) r := by
 intro d
 induction d with
 | zero =>
  intro i hi
  refine Ev.step (fun k => by rw [impl_PictureLines.l1]) (Ev.ifn (by omega) (Ev.ifp (by omega) ?_))
  have e : i = B.length := by omega
  subst e
  exact K
 | succ d ih =>
  intro i hi
  have hw : wrap64 ((i : Int) + 1) = ((i + 1 : Nat) : Int) := by rw [w64 (by omega) (by omega)]; omega
  refine Ev.step (fun k => by rw [impl_PictureLines.l1, hw, rep_snoc]) (Ev.ifp (by omega) (Ev.ifp (by rw [List.length_replicate]; omega) (ih (i + 1) (by omega))))
theorem impl_blank (A B : List (List Int)) (hA : A.length ≤ 1000) (hB : B.length ≤ 1000) (r : List (List Int) × Bool)
  (K : Ev (fun k => impl_PictureLines.l2 k (blankP A.length B.length) true A B) r) : ∀ (d i : Nat), A.length = i + d →
  Ev (fun k => impl_PictureLines.l0 k (blankP i B.length) (A.length : Int) i A B) r := by
 intro d
 induction d with
 | zero =>
  intro i hi
  refine Ev.step (fun k => by rw [impl_PictureLines.l0]) (Ev.ifn (by omega) ?_)
  have e : i = A.length := by omega
  rw [e]
  exact K
 | succ d ih =>
  intro i hi
  have hw : wrap64 ((i : Int) + 1) = ((i + 1 : Nat) : Int) := by rw [w64 (by omega) (by omega)]; omega
  have h := ih (i + 1) (by omega)
  unfold blankP at h
  rw [← rep_snoc, ← hw] at h
  refine Ev.step (fun k => by rw [impl_PictureLines.l0]) (Ev.ifp (by omega) ?_)
  exact impl_line_blank A B (blankP i B.length) (A.length : Int) i hB (by simp [blankP]; omega) r h B.length 0 (by omega)
theorem spec_line_blank (A B kn : List (List Int)) (i0 : Int) (hB : B.length ≤ 1000) (hk : kn.length ≤ 1000) (r : List (List Int))
  (K : Ev (fun k => spec_l13Blank.l0 k (kn ++ [List.replicate B.length (-1)]) (wrap64 (i0 + 1)) A B) r) : ∀ (d i : Nat), B.length = i + d →
  Ev (fun k => spec_l13Blank.l1 k kn i0 (List.replicate i (-1)) i A B) r := by
 intro d
 induction d with
 | zero =>
  intro i hi
  refine Ev.step (fun k => by rw [spec_l13Blank.l1]) (Ev.ifn (by omega) (Ev.ifp (by omega) ?_))
  have e : i = B.length := by omega
  subst e
  exact K
 | succ d ih =>
  intro i hi
  have hw : wrap64 ((i : Int) + 1) = ((i + 1 : Nat) : Int) := by rw [w64 (by omega) (by omega)]; omega
  refine Ev.step (fun k => by rw [spec_l13Blank.l1, hw, rep_snoc]) (Ev.ifp (by omega) (Ev.ifp (by rw [List.length_replicate]; omega) (ih (i + 1) (by omega))))
theorem spec_blank (A B : List (List Int)) (hA : A.length ≤ 1000) (hB : B.length ≤ 1000) : ∀ (d i : Nat), A.length = i + d →
  Ev (fun k => spec_l13Blank.l0 k (blankP i B.length) i A B) (blankP A.length B.length) := by
 intro d
 induction d with
 | zero =>
  intro i hi
  refine Ev.step (fun k => by rw [spec_l13Blank.l0]) (Ev.ifn (by omega) ?_)
  have e : i = A.length := by omega
  rw [e]
  exact Ev.now _
 | succ d ih =>
  intro i hi
  have hw : wrap64 ((i : Int) + 1) = ((i + 1 : Nat) : Int) := by rw [w64 (by omega) (by omega)]; omega
  have h := ih (i + 1) (by omega)
  have e1 : blankP (i + 1) B.length = blankP i B.length ++ [List.replicate B.length (-1)] := (rep_snoc i _).symm
  rw [e1, ← hw] at h
  refine Ev.step (fun k => by rw [spec_l13Blank.l0]) (Ev.ifp (by omega) ?_)
  exact spec_line_blank A B (blankP i B.length) i hB (by simp [blankP]; omega) _ h B.length 0 (by omega)
theorem impl_lines_ev {A B : List (List Int)} (al : ∀ x ∈ A, x.length ≤ 1048576) (all : A.length ≤ 1048576) (bl : ∀ x ∈ B, x.length ≤ 1048576) (bll : B.length ≤ 1048576) : Ev (fun k => impl_PictureLines.f k A B) (linesV A B) := by
 unfold impl_PictureLines.f linesV
 refine Ev.bind (impl_pic A B al all bl bll) ?_
 by_cases c : picV A B = true
 ·rw [if_pos c]
  obtain ⟨a1, a5, b1, b5⟩ := picV_len c
  refine Ev.ifp c (impl_blank A B (by omega) (by omega) _ ?_ A.length 0 (by omega))
  exact implRounds A B (by omega) (by omega) al bl _ _ (blank_shape _ _) (Nat.lt_succ_of_le (unk_le _ _ _))
 ·rw [if_neg c]; exact Ev.ifn c (Ev.now _)
theorem spec_lines_ev {A B : List (List Int)} (al : ∀ x ∈ A, x.length ≤ 1048576) (all : A.length ≤ 1048576) (bl : ∀ x ∈ B, x.length ≤ 1048576) (bll : B.length ≤ 1048576) : Ev (fun k => spec_PictureLines.f k A B) (linesV A B) := by
 unfold spec_PictureLines.f linesV
 refine Ev.bind (spec_pic A B al all bl bll) ?_
 by_cases c : picV A B = true
 ·rw [if_pos c]
  obtain ⟨a1, a5, b1, b5⟩ := picV_len c
  refine Ev.ifp c (Ev.bind ?_ (specRounds A B (by omega) (by omega) al bl _ _ (blank_shape _ _) (Nat.lt_succ_of_le (unk_le _ _ _))))
  unfold spec_l13Blank.f
  exact spec_blank A B (by omega) (by omega) A.length 0 (by omega)
 ·rw [if_neg c]; exact Ev.ifn c (Ev.now _)
theorem impl_ways (clue kn : List Int) (h1 : clue.length ≤ 1000000000) (h2 : kn.length ≤ 1000000000) : Ev (fun k => impl_LineWays.f k clue kn) (waysV clue kn) := by
 unfold impl_LineWays.f waysV
 refine Ev.bind (impl_known kn (by omega)) ?_
 by_cases c1 : knownV kn = true
 ·refine Ev.ifp c1 (Ev.bind (impl_clue clue _ (by omega)) ?_)
  by_cases c2 : clueV clue kn.length = true
  ·exact Ev.ifp c2 (Ev.bind (impl_linesFor_ev clue kn (knownV_ok c1).2.1) (Ev.eq (Ev.now _) (by rw [if_pos ⟨c1, c2⟩]; simp)))
  ·exact Ev.ifn c2 (Ev.eq (Ev.now _) (by rw [if_neg (fun h => c2 h.2)]))
 ·exact Ev.ifn c1 (Ev.eq (Ev.now _) (by rw [if_neg (fun h => c1 h.1)]))
/-- A line with a clue. -/
def mkLine : List Int → Nat → List Bool
 | [], n => List.replicate n false
 | c :: cs, n => List.replicate c.toNat true ++ (if c.toNat < n then false :: mkLine cs (n - c.toNat - 1) else [])
/-- The number of a line. -/
def toN : List Bool → Nat
 | [] => 0
 | b :: l => 2 * toN l + (if b then 1 else 0)
theorem toN_bit : ∀ (l : List Bool) (i : Nat) (h : i < l.length), (toN l).testBit i = l[i] := by
 intro l
 induction l with
 | nil => intro i h; simp at h
 | cons b l ih =>
  intro i h
  cases i with
  | zero =>
   rw [Nat.testBit_zero]
   cases b <;> simp [toN] <;> omega
  | succ i =>
   rw [Nat.testBit_succ]
   have e : toN (b :: l) / 2 = toN l := by cases b <;> simp [toN] <;> omega
   rw [e]
   simpa using ih i (by simpa using h)
theorem toN_lt : ∀ (l : List Bool), toN l < 2 ^ l.length := by
 intro l
 induction l with
 | nil => simp [toN]
 | cons b l ih =>
  simp only [toN, List.length_cons, Nat.pow_succ]
  cases b <;> simp <;> omega
theorem lineN_toN (l : List Bool) : lineN (toN l) l.length = l := by
 apply List.ext_getElem
 ·exact lineN_length _ _
 ·intro i h1 h2
  rw [lineN_get, toN_bit l i h2]
theorem fit_free (m n : Nat) : fitD m 0 (List.replicate n (-1)) = true := by
 rw [fitD_iff]
 intro j hj
 left
 simp
/-! Picture puzzles: rows by their numbers. -/
def colN (ns : List Nat) (c : Nat) : List Bool := ns.map (fun m => m.testBit c)
/-- What is known of column c, when the first rows are ns. -/
def knC (R : Nat) (ns : List Nat) (c : Nat) : List Int := ns.map (fun m => bitI m c) ++ List.replicate (R - ns.length) (-1)
def badP (B : List (List Int)) (R : Nat) (ns : List Nat) : Bool := (List.range B.length).any (fun c => decide (LF (B.getD c []) (knC R ns c) = []))
def okG (B : List (List Int)) (ns : List Nat) : Bool := (List.range B.length).all (fun c => decide (clueL (colN ns c) = B.getD c []))
def rowsP (A : List (List Int)) (C r : Nat) : List Nat := LF (A.getD r []) (List.replicate C (-1))
def solsP (A B : List (List Int)) : Nat → List Nat → List (List Nat)
 | 0, ns => if badP B A.length ns = true then [] else [ns]
 | d + 1, ns => if badP B A.length ns = true then [] else (rowsP A B.length ns.length).flatMap (fun m => solsP A B d (ns ++ [m]))
def allP (A : List (List Int)) (C : Nat) : Nat → List Nat → List (List Nat)
 | 0, ns => [ns]
 | d + 1, ns => (rowsP A C ns.length).flatMap (fun m => allP A C d (ns ++ [m]))
theorem knC_length (R : Nat) (ns : List Nat) (c : Nat) (h : ns.length ≤ R) : (knC R ns c).length = R := by simp [knC]; omega
theorem allP_ext (A : List (List Int)) (C : Nat) : ∀ (d : Nat) (ns g : List Nat), g ∈ allP A C d ns → ∃ t, g = ns ++ t ∧ t.length = d := by
 intro d
 induction d with
 | zero => intro ns g h; simp [allP] at h; exact ⟨[], by simp [h], rfl⟩
 | succ d ih =>
  intro ns g h
  simp only [allP, List.mem_flatMap] at h
  obtain ⟨m, _, hg⟩ := h
  obtain ⟨t, ht, hl⟩ := ih _ _ hg
  exact ⟨m :: t, by rw [ht]; simp, by simp [hl]⟩
theorem colN_length (ns : List Nat) (c : Nat) : (colN ns c).length = ns.length := by simp [colN]
/-- The column of a grid with its clue is among the lines for what is known of it. -/
theorem col_mem (R : Nat) (ns t : List Nat) (c : Nat) (hR : ns.length + t.length = R) (clue : List Int) (h : clueL (colN (ns ++ t) c) = clue) : toN (colN (ns ++ t) c) ∈ LF clue (knC R ns c) := by
 have hl : (colN (ns ++ t) c).length = R := by rw [colN_length, List.length_append]; exact hR
 rw [LF_mem, knC_length R ns c (by omega)]
 refine ⟨by have := toN_lt (colN (ns ++ t) c); rw [hl] at this; exact this, ?_⟩
 unfold isLine
 rw [Bool.and_eq_true, decide_eq_true_eq, knC_length R ns c (by omega)]
 constructor
 ·rw [fitD_iff]
  intro j hj
  rw [knC_length R ns c (by omega)] at hj
  rw [Nat.zero_add]
  by_cases c1 : j < ns.length
  ·right
   have hj2 : j < (colN (ns ++ t) c).length := by omega
   unfold bitI
   rw [toN_bit _ j hj2]
   simp [knC, colN, List.getElem_append, c1, bitI]
  ·left
   simp [knC, List.getElem_append, c1]
 ·have h2 := lineN_toN (colN (ns ++ t) c)
  rw [hl] at h2
  rw [h2]
  exact h
theorem bad_no (B : List (List Int)) (R : Nat) (ns t : List Nat) (hR : ns.length + t.length = R) (h : badP B R ns = true) : okG B (ns ++ t) = false := by
 rw [Bool.eq_false_iff]
 intro ho
 simp only [badP, List.any_eq_true, List.mem_range, decide_eq_true_eq] at h
 simp only [okG, List.all_eq_true, List.mem_range, decide_eq_true_eq] at ho
 obtain ⟨c, hc, hb⟩ := h
 have := col_mem R ns t c hR _ (ho c hc)
 rw [hb] at this
 simp at this
theorem bad_full (B : List (List Int)) (ns : List Nat) : badP B ns.length ns = !okG B ns := by
 cases hb : badP B ns.length ns with
 | true =>
  have := bad_no B ns.length ns [] (by simp) hb
  rw [List.append_nil] at this
  rw [this]; rfl
 | false =>
  have : okG B ns = true := by
   simp only [okG, List.all_eq_true, List.mem_range, decide_eq_true_eq]
   intro c hc
   have h1 : LF (B.getD c []) (knC ns.length ns c) ≠ [] := by
    intro e
    rw [Bool.eq_false_iff] at hb
    exact hb (List.any_eq_true.2 ⟨c, by simpa using hc, by simpa using e⟩)
   obtain ⟨m, hm⟩ := List.exists_mem_of_ne_nil _ h1
   rw [LF_mem, knC_length _ _ _ (Nat.le_refl _)] at hm
   obtain ⟨hm0, hm1⟩ := hm
   unfold isLine at hm1
   rw [Bool.and_eq_true, decide_eq_true_eq, knC_length _ _ _ (Nat.le_refl _), fitD_iff] at hm1
   have e : lineN m ns.length = colN ns c := by
    apply List.ext_getElem
    ·rw [lineN_length, colN_length]
    ·intro j h1 h2
     rw [lineN_get]
     have hj : j < ns.length := by rw [colN_length] at h2; exact h2
     have := hm1.1 j (by rw [knC_length _ _ _ (Nat.le_refl _)]; exact hj)
     rw [Nat.zero_add] at this
     have e2 : (knC ns.length ns c)[j]'(by rw [knC_length _ _ _ (Nat.le_refl _)]; exact hj) = bitI ns[j] c := by simp [knC, List.getElem_append, hj]
     rw [e2] at this
     have e3 : (colN ns c)[j] = ns[j].testBit c := by simp [colN]
     rw [e3]
     rcases this with h | h
     ·unfold bitI at h; split at h <;> omega
     ·unfold bitI at h
      cases ha : ns[j].testBit c <;> cases hb : m.testBit j <;> simp [ha, hb] at h ⊢
   rw [← e]; exact hm1.2
  rw [this]; rfl
theorem sols_filter (A B : List (List Int)) : ∀ (d : Nat) (ns : List Nat), ns.length + d = A.length → solsP A B d ns = (allP A B.length d ns).filter (okG B) := by
 intro d
 induction d with
 | zero =>
  intro ns h
  have h' : A.length = ns.length := by omega
  simp only [solsP, allP, h', bad_full]
  cases hh : okG B ns <;> simp [hh]
 | succ d ih =>
  intro ns h
  simp only [solsP]
  by_cases c : badP B A.length ns = true
  ·rw [if_pos c]
   symm
   rw [List.filter_eq_nil_iff]
   intro g hg
   obtain ⟨t, e, ht⟩ := allP_ext A B.length (d + 1) ns g hg
   rw [e, bad_no B A.length ns t (by omega) c]
   simp
  ·rw [if_neg c]
   simp only [allP]
   rw [List.filter_flatMap]
   congr 1
   funext m
   exact ih (ns ++ [m]) (by simp; omega)
theorem rdB_nat (xs : List (List Bool)) (i : Nat) (h : i < xs.length) : rd_L3 xs (i : Int) = xs[i] := by
 simp [rd_L3, List.getD_eq_getElem?_getD, h]
/-! PictureOf, exactly. -/
def colB (l : List (List Bool)) (c : Nat) : List Bool := l.map (fun r => r.getD c false)
def colsV (l : List (List Bool)) (W : Nat) : List (List Int) := (List.range W).map (fun c => clueL (colB l c))
def picOfV (l : List (List Bool)) : List (List Int) × List (List Int) × Bool :=
 if 1 ≤ l.length ∧ l.length ≤ 5 ∧ 1 ≤ (l.getD 0 []).length ∧ (l.getD 0 []).length ≤ 5 ∧ ∀ x ∈ l, x.length = (l.getD 0 []).length then (l.map clueL, colsV l (l.getD 0 []).length, true) else ([], [], false)
theorem colsV_length (l : List (List Bool)) (W : Nat) : (colsV l W).length = W := by simp [colsV]
def LB (C : Nat) (ns : List Nat) : List (List Bool) := ns.map (fun m => lineN m C)
theorem LB_length (C : Nat) (ns : List Nat) : (LB C ns).length = ns.length := by simp [LB]
theorem LB_row (C : Nat) (ns : List Nat) : ∀ x ∈ LB C ns, x.length = C := by
 intro x hx
 obtain ⟨m, _, rfl⟩ := List.mem_map.1 hx
 exact lineN_length m C
theorem LB_snoc (C : Nat) (ns : List Nat) (m : Nat) : LB C ns ++ [lineN m C] = LB C (ns ++ [m]) := by simp [LB]
theorem int_of_lt {a b : Nat} (h : a < b) : (a : Int) < (b : Int) := Int.ofNat_lt.2 h
def I1 (ns : List Nat) : List Int := ns.map (fun x : Nat => (x : Int))
def I2 (z : List (List Nat)) : List (List Int) := z.map I1
theorem I1_length (ns : List Nat) : (I1 ns).length = ns.length := by simp [I1]
theorem I2_length (z : List (List Nat)) : (I2 z).length = z.length := by simp [I2]
theorem I1_get (ns : List Nat) (i : Nat) (h : i < (I1 ns).length) : (I1 ns)[i] = ((ns[i]'(by simpa [I1] using h) : Nat) : Int) := by simp [I1]
theorem rd_I1 (ns : List Nat) (i : Nat) (h : i < ns.length) : rd (I1 ns) (i : Int) = ((ns[i] : Nat) : Int) := by
 rw [rd_nat _ _ (by rw [I1_length]; exact h), I1_get]
theorem I1_snoc (ns : List Nat) (m : Nat) : I1 ns ++ [((m : Nat) : Int)] = I1 (ns ++ [m]) := by simp [I1]
theorem I2_snoc (z : List (List Nat)) (ns : List Nat) : I2 z ++ [I1 ns] = I2 (z ++ [ns]) := by simp [I2]
theorem take_app {α : Type} (m : Nat) (x y : List α) : (x.take m ++ y).take m = (x ++ y).take m := by
 rw [List.take_append, List.take_append, List.take_take, Nat.min_self, List.length_take]
 congr 1
 by_cases c : x.length ≤ m
 ·rw [Nat.min_eq_right c]
 ·rw [Nat.min_eq_left (by omega)]
  have e1 : m - m = 0 := by omega
  have e2 : m - x.length = 0 := by omega
  rw [e1, e2]
theorem take_full {α : Type} (m : Nat) (x y : List α) (h : x.length = m) : (x ++ y).take m = x := by
 subst h; simp
theorem first_line (A : List (List Int)) (hA : A.length ≤ 1000) (ns : List Nat) (hns : ∀ m ∈ ns, m < 4611686018427387904) (hn : ns.length ≤ A.length) (c : Nat) (hc : c ≤ 60) : ∀ (d i : Nat) (ln : List Int), A.length = i + d → ln = (knC A.length ns c).take i →
  Ev (fun k => impl_firstPictures_1.l1 k A (I1 ns) c ln i) (knC A.length ns c) := by
 intro d
 induction d with
 | zero =>
  intro i ln hi hl
  have e : ln = knC A.length ns c := by rw [hl]; exact List.take_of_length_le (by rw [knC_length _ _ _ hn]; omega)
  exact Ev.step (fun k => by rw [impl_firstPictures_1.l1]) (Ev.ifn (by omega) (Ev.eq (Ev.now _) e))
 | succ d ih =>
  intro i ln hi hl
  have hw : wrap64 ((i : Int) + 1) = ((i + 1 : Nat) : Int) := by rw [w64 (by omega) (by omega)]; omega
  have hk : (knC A.length ns c).length = A.length := knC_length _ _ _ hn
  have hll : ln.length < 17592186044416 := by rw [hl, List.length_take]; omega
  have ht : (knC A.length ns c).take (i + 1) = ln ++ [(knC A.length ns c)[i]'(by omega)] := by rw [hl, ← List.take_append_getElem (by omega)]
  refine Ev.step (fun k => by rw [impl_firstPictures_1.l1, hw]) (Ev.ifp (by omega) ?_)
  by_cases c1 : i < ns.length
  ·have e1 : (knC A.length ns c)[i]'(by omega) = bitI ns[i] c := by simp [knC, List.getElem_append, c1]
   refine Ev.ifp (by rw [I1_length]; omega) (Ev.ifp (by omega) (Ev.ifp hll ?_))
   rw [rd_I1 ns i c1, bit_eqI _ _ (hns _ (List.getElem_mem _)) (by omega), ← e1, ← ht]
   exact ih (i + 1) _ (by omega) rfl
  ·have e1 : (knC A.length ns c)[i]'(by omega) = -1 := by simp [knC, List.getElem_append, c1]
   refine Ev.ifn (by rw [I1_length]; omega) (Ev.ifp hll ?_)
   rw [← e1, ← ht]
   exact ih (i + 1) _ (by omega) rfl
theorem knC_known (R : Nat) (ns : List Nat) (c : Nat) (h : ns.length ≤ R) (h1 : 1 ≤ R) (h8 : R ≤ 8) : knownV (knC R ns c) = true := by
 unfold knownV
 rw [knC_length _ _ _ h]
 simp only [Bool.and_eq_true, decide_eq_true_eq, List.all_eq_true]
 refine ⟨fun x hx => ?_, by omega⟩
 simp only [knC, List.mem_append, List.mem_map] at hx
 rcases hx with ⟨m, _, rfl⟩ | hx
 ·rcases bitI_01 m c with h | h <;> rw [h] <;> omega
 ·have := List.eq_of_mem_replicate hx; rw [this]; omega
structure PicOK (A B : List (List Int)) : Prop where
 a1 : 1 ≤ A.length
 a5 : A.length ≤ 5
 b1 : 1 ≤ B.length
 b5 : B.length ≤ 5
 av : ∀ x ∈ A, clueV x B.length = true
 bv : ∀ x ∈ B, clueV x A.length = true
 al : ∀ x ∈ A, x.length ≤ 1048576
 bl : ∀ x ∈ B, x.length ≤ 1048576
theorem PicOK.of {A B : List (List Int)} (h : picV A B = true) (al : ∀ x ∈ A, x.length ≤ 1048576) (bl : ∀ x ∈ B, x.length ≤ 1048576) : PicOK A B := by
 unfold picV at h
 simp only [Bool.and_eq_true, decide_eq_true_eq, List.all_eq_true] at h
 exact ⟨h.1.1.1, h.1.1.2, h.1.2.1, h.1.2.2, h.2.1, h.2.2, al, bl⟩
theorem getD_mem {α : Type} (l : List α) (i : Nat) (d : α) (h : i < l.length) : l.getD i d ∈ l := by
 rw [List.getD_eq_getElem?_getD, List.getElem?_eq_getElem h]; exact List.getElem_mem h
theorem first_prune {A B : List (List Int)} (hP : PicOK A B) (ns : List Nat) (hns : ∀ m ∈ ns, m < 4611686018427387904) (hn : ns.length ≤ A.length) : ∀ (d i : Nat), B.length = i + d →
  Ev (fun k => impl_firstPictures_1.l0 k A B (I1 ns) i) ((List.range' i d).any (fun c => decide (LF (B.getD c []) (knC A.length ns c) = []))) := by
 have a5 := hP.a5
 have b5 := hP.b5
 intro d
 induction d with
 | zero =>
  intro i hi
  exact Ev.step (fun k => by rw [impl_firstPictures_1.l0]) (Ev.ifn (by omega) (Ev.eq (Ev.now _) (by simp)))
 | succ d ih =>
  intro i hi
  have hw : wrap64 ((i : Int) + 1) = ((i + 1 : Nat) : Int) := by rw [w64 (by omega) (by omega)]; omega
  have hb : i < B.length := by omega
  have e0 : rd_L1 B (i : Int) = B.getD i [] := by rw [rdL_nat B i hb, List.getD_eq_getElem?_getD, List.getElem?_eq_getElem hb]; rfl
  have hm := getD_mem B i [] hb
  have hl := hP.bl _ hm
  have hk := knC_length A.length ns i hn
  refine Ev.step (fun k => by rw [impl_firstPictures_1.l0, hw, e0]) ?_
  have hfl := first_line A (by omega) ns hns hn i (by omega) A.length 0 [] (by omega) rfl
  refine Ev.ifp (by omega) (Ev.ifp (by omega) (Ev.bind hfl (Ev.bind (impl_ways (B.getD i []) (knC A.length ns i) (by omega) (by omega)) ?_)))
  have ew : waysV (B.getD i []) (knC A.length ns i) = ((LF (B.getD i []) (knC A.length ns i)).length : Int) := by
   unfold waysV
   rw [if_pos ⟨knC_known _ _ _ hn hP.a1 (by omega), by rw [hk]; exact hP.bv _ hm⟩]
  rw [List.range'_succ, List.any_cons, ew]
  by_cases c : LF (B.getD i []) (knC A.length ns i) = []
  ·exact Ev.ifp (by rw [c]; rfl) (Ev.eq (Ev.now _) (by simp only [c, decide_true, Bool.true_or]))
  ·refine Ev.ifn (fun h => c (List.eq_nil_of_length_eq_zero (by omega))) (Ev.eq (ih (i + 1) (by omega)) ?_)
   rw [decide_eq_false c, Bool.false_or]
theorem rowsP_lt (A : List (List Int)) (C r m : Nat) (hC : C ≤ 8) (h : m ∈ rowsP A C r) : m < 4611686018427387904 := by
 unfold rowsP at h
 rw [LF_mem, List.length_replicate] at h
 have := pow_le C hC
 omega
theorem nat_nn (i : Nat) : (0 : Int) ≤ (i : Int) := Int.natCast_nonneg i
theorem first_search {A B : List (List Int)} (hP : PicOK A B) (most : Nat) (hm : most ≤ 1000) : ∀ (d : Nat) (ns : List Nat) (out : List (List Nat)), ns.length + d = A.length → (∀ m ∈ ns, m < 4611686018427387904) → out.length < most →
  Ev (fun k => impl_firstPictures_1.f k A B (List.replicate B.length (-1)) most (I1 ns) (I2 out)) (I2 ((out ++ solsP A B d ns).take most)) := by
 have a5 := hP.a5
 have b5 := hP.b5
 intro d
 induction d with
 | zero =>
  intro ns out hd hns ho
  have h1 : ns.length = A.length := by omega
  have hp := first_prune hP ns hns (by omega) B.length 0 (by omega)
  rw [← List.range_eq_range'] at hp
  replace hp : Ev (fun k => impl_firstPictures_1.l0 k A B (I1 ns) 0) (badP B A.length ns) := hp
  refine Ev.step (fun k => by rw [impl_firstPictures_1.f]) ?_
  refine Ev.bind hp ?_
  simp only [solsP]
  by_cases c : badP B A.length ns = true
  ·rw [if_pos c]
   exact Ev.ifp c (Ev.eq (Ev.now _) (by rw [List.append_nil, List.take_of_length_le (by omega)]))
  ·rw [if_neg c]
   refine Ev.ifn c (Ev.ifp (by rw [I1_length]; omega) (Ev.ifp (by rw [I2_length]; omega) (Ev.eq (Ev.now _) ?_)))
   rw [I2_snoc, List.take_of_length_le (by simp; omega)]
 | succ d ih =>
  intro ns out hd hns ho
  have hp := first_prune hP ns hns (by omega) B.length 0 (by omega)
  rw [← List.range_eq_range'] at hp
  replace hp : Ev (fun k => impl_firstPictures_1.l0 k A B (I1 ns) 0) (badP B A.length ns) := hp
  have hlt : ns.length < A.length := by omega
  have e0 : rd_L1 A (((I1 ns).length : Nat) : Int) = A.getD ns.length [] := by rw [I1_length, rdL_nat A _ hlt, List.getD_eq_getElem?_getD, List.getElem?_eq_getElem hlt]; rfl
  refine Ev.step (fun k => by rw [impl_firstPictures_1.f, e0]) ?_
  refine Ev.bind hp ?_
  simp only [solsP]
  by_cases c : badP B A.length ns = true
  ·rw [if_pos c]
   exact Ev.ifp c (Ev.eq (Ev.now _) (by rw [List.append_nil, List.take_of_length_le (by omega)]))
  ·rw [if_neg c]
   refine Ev.ifn c (Ev.ifn (by rw [I1_length]; omega) (Ev.ifp (by rw [I1_length]; omega) (Ev.bind (impl_linesFor_ev _ _ (by simp; omega)) ?_)))
   have hL : ∀ m ∈ rowsP A B.length ns.length, m < 4611686018427387904 := fun m h => rowsP_lt _ _ _ _ (by omega) h
   have hLl : (rowsP A B.length ns.length).length ≤ 1000 := by
    have h1 := LFr_len (A.getD ns.length []) (List.replicate B.length (-1)) 0 (2 ^ (List.replicate B.length (-1 : Int)).length)
    have h2 := pow_le B.length (by omega)
    rw [List.length_replicate] at h1
    unfold rowsP LF
    rw [List.length_replicate]
    omega
   have loop : ∀ (e i : Nat) (z : List (List Nat)), (rowsP A B.length ns.length).length = i + e → z.length ≤ most →
     Ev (fun k => impl_firstPictures_1.l2 k A B (List.replicate B.length (-1)) most (I1 ns) (I1 (rowsP A B.length ns.length)) (I2 z) i) (I2 ((z ++ ((rowsP A B.length ns.length).drop i).flatMap (fun m => solsP A B d (ns ++ [m]))).take most)) := by
    intro e
    induction e with
    | zero =>
     intro i z hi hz
     refine Ev.step (fun k => by rw [impl_firstPictures_1.l2]) (Ev.ifn (by rw [I1_length]; omega) (Ev.eq (Ev.now _) ?_))
     rw [List.drop_of_length_le (by omega), List.flatMap_nil, List.append_nil, List.take_of_length_le hz]
    | succ e ihe =>
     intro i z hi hz
     have hw : wrap64 ((i : Int) + 1) = ((i + 1 : Nat) : Int) := by rw [w64 (by omega) (by omega)]; omega
     have hil : i < (rowsP A B.length ns.length).length := by omega
     have q1 : (i : Int) < ((I1 (rowsP A B.length ns.length)).length : Int) := by rw [I1_length]; exact Int.ofNat_lt.2 hil
     refine Ev.step (fun k => by rw [impl_firstPictures_1.l2, hw]) (Ev.ifp q1 (Ev.ifp (nat_nn i) ?_))
     rw [List.drop_eq_getElem_cons hil, List.flatMap_cons]
     by_cases c2 : z.length < most
     ·refine Ev.ifp (by rw [I2_length]; omega) (Ev.ifp (by rw [I1_length]; omega) ?_)
      rw [rd_I1 _ i hil, I1_snoc]
      refine Ev.bind (ih (ns ++ [(rowsP A B.length ns.length)[i]]) z (by simp; omega) ?_ c2) ?_
      ·intro m hm2
       rcases List.mem_append.1 hm2 with h | h
       ·exact hns m h
       ·rw [List.mem_singleton.1 h]; exact hL _ (List.getElem_mem hil)
      ·refine Ev.eq (ihe (i + 1) _ (by omega) (by rw [List.length_take]; omega)) ?_
       rw [take_app, List.append_assoc]
     ·refine Ev.ifn (by rw [I2_length]; omega) (Ev.eq (ihe (i + 1) z (by omega) hz) ?_)
      rw [take_full most z _ (by omega), take_full most z _ (by omega)]
   exact loop (rowsP A B.length ns.length).length 0 out (by omega) (by omega)
theorem first_free (n : Nat) (hn : n ≤ 1000) : ∀ (d i : Nat), n = i + d → Ev (fun k => impl_firstPictures.l0 k n (List.replicate i (-1)) i) (List.replicate n (-1)) := by
 intro d
 induction d with
 | zero =>
  intro i hi
  have e : i = n := by omega
  exact Ev.step (fun k => by rw [impl_firstPictures.l0]) (Ev.ifn (by omega) (Ev.eq (Ev.now _) (by rw [e])))
 | succ d ih =>
  intro i hi
  have hw : wrap64 ((i : Int) + 1) = ((i + 1 : Nat) : Int) := by rw [w64 (by omega) (by omega)]; omega
  refine Ev.step (fun k => by rw [impl_firstPictures.l0, hw]) (Ev.ifp (by omega) (Ev.ifp (by simp; omega) ?_))
  rw [← List.replicate_succ']
  exact ih (i + 1) (by omega)
/-- All solutions in order. -/
def solG (A B : List (List Int)) : List (List Nat) := (allP A B.length A.length []).filter (okG B)
theorem first_ev {A B : List (List Int)} (hP : PicOK A B) (most : Nat) (h1 : 1 ≤ most) (hm : most ≤ 1000) : Ev (fun k => impl_firstPictures.f k A B most) (I2 ((solG A B).take most)) := by
 have b5 := hP.b5
 unfold impl_firstPictures.f
 refine Ev.bind (first_free B.length (by omega) B.length 0 (by omega)) ?_
 have h := first_search hP most hm A.length [] [] (by simp) (by simp) (by simp; omega)
 rw [List.nil_append, sols_filter A B A.length [] (by simp)] at h
 exact h
theorem count_ev {A B : List (List Int)} (al : ∀ x ∈ A, x.length ≤ 1048576) (all : A.length ≤ 1048576) (bl : ∀ x ∈ B, x.length ≤ 1048576) (bll : B.length ≤ 1048576) (most : Int) :
  Ev (fun k => impl_PictureCount.f k A B most) (if picV A B = true ∧ 1 ≤ most ∧ most ≤ 100 then (((solG A B).take most.toNat).length : Int) else -1) := by
 unfold impl_PictureCount.f
 refine Ev.bind (impl_pic A B al all bl bll) ?_
 by_cases c : picV A B = true
 ·refine Ev.ifp c ?_
  by_cases c1 : most < 1
  ·exact Ev.ifp c1 (Ev.eq (Ev.now _) (by rw [if_neg (by omega)]))
  ·refine Ev.ifn c1 ?_
   by_cases c2 : most > 100
   ·exact Ev.ifp c2 (Ev.eq (Ev.now _) (by rw [if_neg (by omega)]))
   ·refine Ev.ifn c2 ?_
    have h := first_ev (PicOK.of c al bl) most.toNat (by omega) (by omega)
    have e : ((most.toNat : Nat) : Int) = most := by omega
    rw [e] at h
    refine Ev.bind h (Ev.eq (Ev.now _) ?_)
    rw [I2_length, if_pos ⟨c, by omega, by omega⟩]
 ·exact Ev.ifn c (Ev.eq (Ev.now _) (by rw [if_neg (fun h => c h.1)]))
theorem allP_mem (A : List (List Int)) (C : Nat) : ∀ (d : Nat) (ns t : List Nat), t.length = d → (∀ j (h : j < t.length), t[j] ∈ rowsP A C (ns.length + j)) → ns ++ t ∈ allP A C d ns := by
 intro d
 induction d with
 | zero =>
  intro ns t ht h
  have : t = [] := List.eq_nil_of_length_eq_zero ht
  subst this
  simp [allP]
 | succ d ih =>
  intro ns t ht h
  match t, ht, h with
  | m :: t, ht, h =>
   simp only [allP, List.mem_flatMap]
   refine ⟨m, (by have h0 := h 0 (by simp); rw [Nat.add_zero, List.getElem_cons_zero] at h0; exact h0), ?_⟩
   have h1 := ih (ns ++ [m]) t (by simpa using ht) (fun j hj => by
    have := h (j + 1) (by simpa using hj)
    simp only [List.getElem_cons_succ] at this
    rw [List.length_append, List.length_singleton, Nat.add_assoc, Nat.add_comm 1 j]
    exact this)
   rw [List.append_assoc] at h1
   exact h1
theorem allP_rows (A : List (List Int)) (C : Nat) : ∀ (d : Nat) (ns g : List Nat), g ∈ allP A C d ns → ∃ t, g = ns ++ t ∧ t.length = d ∧ ∀ j (h : j < t.length), t[j] ∈ rowsP A C (ns.length + j) := by
 intro d
 induction d with
 | zero => intro ns g h; simp [allP] at h; exact ⟨[], by simp [h], rfl, fun j h => by simp at h⟩
 | succ d ih =>
  intro ns g h
  simp only [allP, List.mem_flatMap] at h
  obtain ⟨m, hm, hg⟩ := h
  obtain ⟨t, ht, hl, hr⟩ := ih _ _ hg
  refine ⟨m :: t, by rw [ht]; simp, by simp [hl], fun j hj => ?_⟩
  cases j with
  | zero => simpa using hm
  | succ j =>
   have := hr j (by simpa using hj)
   rw [List.length_append, List.length_singleton, Nat.add_assoc, Nat.add_comm 1 j] at this
   simpa using this
theorem row_mem (r : List Bool) (W : Nat) (h : r.length = W) : toN r ∈ LF (clueL r) (List.replicate W (-1)) := by
 subst h
 rw [LF_mem, List.length_replicate]
 refine ⟨toN_lt r, ?_⟩
 unfold isLine
 rw [Bool.and_eq_true, decide_eq_true_eq, List.length_replicate, lineN_toN]
 exact ⟨fit_free _ _, rfl⟩
theorem rowsP_iff (A : List (List Int)) (C r m : Nat) : m ∈ rowsP A C r ↔ m < 2 ^ C ∧ clueL (lineN m C) = A.getD r [] := by
 unfold rowsP
 rw [LF_mem, List.length_replicate]
 unfold isLine
 rw [Bool.and_eq_true, decide_eq_true_eq, List.length_replicate]
 constructor
 ·rintro ⟨a, _, b⟩; exact ⟨a, b⟩
 ·rintro ⟨a, b⟩; exact ⟨a, fit_free _ _, b⟩
/-- Rows of bools in a list that are a picture's. -/
theorem toN_sol (l : List (List Bool)) (W : Nat) (hx : ∀ x ∈ l, x.length = W) : l.map toN ∈ solG (l.map clueL) (colsV l W) := by
 unfold solG
 rw [List.mem_filter, colsV_length, List.length_map]
 constructor
 ·have h := allP_mem (l.map clueL) W l.length [] (l.map toN) (by simp) (fun j hj => by
   have hj2 : j < l.length := by simpa using hj
   have e : (l.map clueL).getD (([] : List Nat).length + j) [] = clueL l[j] := by
    rw [List.getD_eq_getElem?_getD]; simp [hj2]
   unfold rowsP
   simp only [List.length_nil, Nat.zero_add] at e
   simp only [List.getElem_map, List.length_nil, Nat.zero_add, e]
   exact row_mem _ W (hx _ (List.getElem_mem hj2)))
  rw [List.nil_append] at h
  exact h
 ·simp only [okG, List.all_eq_true, List.mem_range, decide_eq_true_eq, colsV_length]
  intro c hc
  have e1 : (colsV l W).getD c [] = clueL (colB l c) := by
   rw [List.getD_eq_getElem?_getD]; simp [colsV, hc]
  rw [e1]
  congr 1
  unfold colN colB
  rw [List.map_map]
  apply List.map_congr_left
  intro x hx2
  have hl := hx x hx2
  have hcl : c < x.length := by omega
  simp only [Function.comp]
  rw [toN_bit x c hcl, List.getD_eq_getElem?_getD, List.getElem?_eq_getElem hcl]
  rfl
theorem impl_first_l (A B : List (List Int)) (g : List Nat) (hg : ∀ m ∈ g, m < 4611686018427387904) (hB : B.length ≤ 60) (hgl : g.length ≤ 1000) : ∀ (d i : Nat) (out : List (List Bool)), g.length = i + d → out = LB B.length (g.take i) →
  Ev (fun k => impl_PictureFirst.l0 k out (I1 g) g.length i A B) (LB B.length g, true) := by
 intro d
 induction d with
 | zero =>
  intro i out hi ho
  refine Ev.step (fun k => by rw [impl_PictureFirst.l0]) ?_
  refine Ev.ifn (by omega) (Ev.eq (Ev.now _) ?_)
  rw [ho, List.take_of_length_le (by omega)]
 | succ d ih =>
  intro i out hi ho
  have hw : wrap64 ((i : Int) + 1) = ((i + 1 : Nat) : Int) := by rw [w64 (by omega) (by omega)]; omega
  have hlt : i < g.length := by omega
  have hol : out.length ≤ 1000 := by rw [ho, LB_length, List.length_take]; omega
  have q1 : (i : Int) < ((I1 g).length : Int) := by rw [I1_length]; exact int_of_lt hlt
  refine Ev.step (fun k => by rw [impl_PictureFirst.l0, hw, rd_I1 g i hlt]) ?_
  refine Ev.ifp (int_of_lt hlt) (Ev.ifp (nat_nn i) (Ev.ifp q1 (Ev.bind (impl_lineOf_ev g[i] B.length (hg _ (List.getElem_mem hlt)) hB) (Ev.ifp (Nat.lt_of_le_of_lt hol (by decide)) ?_))))
  refine ih (i + 1) _ (by omega) ?_
  rw [ho, List.take_succ_eq_append_getElem hlt, LB_snoc]
theorem sol_lt {A B : List (List Int)} (hB : B.length ≤ 8) {g : List Nat} (h : g ∈ solG A B) : (∀ m ∈ g, m < 4611686018427387904) ∧ g.length = A.length := by
 unfold solG at h
 have hp := (List.mem_filter.1 h).1
 obtain ⟨t, e, hl, hr⟩ := allP_rows A B.length A.length [] g hp
 rw [List.nil_append] at e
 subst e
 refine ⟨fun m hm => ?_, hl⟩
 obtain ⟨j, hj, rfl⟩ := List.getElem_of_mem hm
 exact rowsP_lt A B.length _ _ hB (hr j hj)
def firstV (A B : List (List Int)) : List (List Bool) × Bool := if picV A B = true then (match solG A B with | [] => ([], false) | g :: _ => (LB B.length g, true)) else ([], false)
theorem impl_first_ev {A B : List (List Int)} (al : ∀ x ∈ A, x.length ≤ 1048576) (all : A.length ≤ 1048576) (bl : ∀ x ∈ B, x.length ≤ 1048576) (bll : B.length ≤ 1048576) : Ev (fun k => impl_PictureFirst.f k A B) (firstV A B) := by
 unfold impl_PictureFirst.f firstV
 refine Ev.bind (impl_pic A B al all bl bll) ?_
 by_cases c : picV A B = true
 ·rw [if_pos c]
  have hP := PicOK.of c al bl
  have a5 := hP.a5
  have b5 := hP.b5
  have h := first_ev hP 1 (by omega) (by omega)
  refine Ev.ifp c (Ev.bind h ?_)
  match hs : solG A B with
  | [] => exact Ev.ifp (by simp [I2]) (Ev.now _)
  | g :: gs =>
   have hg := sol_lt (A := A) (B := B) (by omega) (g := g) (by rw [hs]; simp)
   have e : I2 ((g :: gs).take 1) = [I1 g] := by simp [I2]
   rw [e]
   refine Ev.ifn (by simp) (Ev.ifp (by simp) ?_)
   have e2 : rd_L1 [I1 g] 0 = I1 g := rdL_nat [I1 g] 0 (by simp)
   rw [e2, I1_length]
   exact impl_first_l A B g hg.1 (by omega) (by omega) g.length 0 [] (by omega) (by simp [LB])
 ·rw [if_neg c]
  exact Ev.ifn c (Ev.now _)
/-! The solutions of a picture puzzle and what PictureLines knows. -/
structure SolP (A B : List (List Int)) (g : List Nat) : Prop where
 len : g.length = A.length
 lt : ∀ i, i < A.length → g.getD i 0 < 2 ^ B.length
 row : ∀ i, i < A.length → clueL (lineN (g.getD i 0) B.length) = A.getD i []
 col : ∀ j, j < B.length → clueL (colN g j) = B.getD j []
theorem solG_SolP {A B : List (List Int)} {g : List Nat} (h : g ∈ solG A B) : SolP A B g := by
 unfold solG at h
 obtain ⟨h1, h2⟩ := List.mem_filter.1 h
 obtain ⟨t, e, hl, hr⟩ := allP_rows A B.length A.length [] g h1
 rw [List.nil_append] at e
 subst e
 have hrow : ∀ i, i < A.length → g.getD i 0 < 2 ^ B.length ∧ clueL (lineN (g.getD i 0) B.length) = A.getD i [] := by
  intro i hi
  have hig : i < g.length := by omega
  have h := hr i hig
  rw [List.length_nil, Nat.zero_add, rowsP_iff] at h
  rw [getD_lt g i 0 hig]
  exact h
 simp only [okG, List.all_eq_true, List.mem_range, decide_eq_true_eq] at h2
 exact ⟨hl, fun i hi => (hrow i hi).1, fun i hi => (hrow i hi).2, h2⟩
def FitP (R C : Nat) (kn : List (List Int)) (g : List Nat) : Prop := ∀ i j, i < R → j < C → 0 ≤ cellP kn i j → cellP kn i j = bitI (g.getD i 0) j
theorem knownV_shape {l : List Int} (h1 : 1 ≤ l.length) (h8 : l.length ≤ 8) (h : ∀ v ∈ l, -1 ≤ v ∧ v ≤ 1) : knownV l = true := by
 unfold knownV
 simp only [Bool.and_eq_true, decide_eq_true_eq, List.all_eq_true]
 exact ⟨h, by omega⟩
/-- A line that is known in part, and a line with the clue that fits: the line is found, and it fits what is then known. -/
theorem forced_fit {clue l : List Int} (h1 : 1 ≤ l.length) (h8 : l.length ≤ 8) (hv : ∀ v ∈ l, -1 ≤ v ∧ v ≤ 1) (hc : clueV clue l.length = true) (m : Nat) (hm : m < 2 ^ l.length) (hcl : clueL (lineN m l.length) = clue)
  (hf : ∀ j, j < l.length → 0 ≤ l.getD j 0 → l.getD j 0 = bitI m j) :
  (forcedV clue l).2 = true ∧ ∀ j, j < l.length → 0 ≤ (forcedV clue l).1.getD j 0 → (forcedV clue l).1.getD j 0 = bitI m j := by
 have hmem : m ∈ LF clue l := by
  rw [LF_mem]
  refine ⟨hm, ?_⟩
  unfold isLine
  rw [Bool.and_eq_true, decide_eq_true_eq]
  refine ⟨(fitD_iff m l 0).2 (fun j hj => ?_), hcl⟩
  have := hf j hj
  rw [getD_lt l j 0 hj] at this
  rw [Nat.zero_add]
  by_cases c : l[j] < 0
  ·exact .inl c
  ·exact .inr (this (by omega))
 have hne : LF clue l ≠ [] := fun e => by rw [e] at hmem; cases hmem
 have e : forcedV clue l = ((List.range l.length).map (cls (LF clue l)), true) := by
  unfold forcedV; rw [if_pos ⟨knownV_shape h1 h8 hv, hc⟩, if_neg hne]
 rw [e]
 refine ⟨rfl, fun j hj h0 => ?_⟩
 have hj2 : j < ((List.range l.length).map (cls (LF clue l))).length := by simpa using hj
 show ((List.range l.length).map (cls (LF clue l))).getD j 0 = _
 have h0' : 0 ≤ ((List.range l.length).map (cls (LF clue l))).getD j 0 := h0
 rw [getD_lt _ j 0 hj2, List.getElem_map, List.getElem_range] at h0' ⊢
 rcases cls_fits hmem j with h | h
 ·omega
 ·exact h
structure PicC (A B : List (List Int)) : Prop where
 a1 : 1 ≤ A.length
 a5 : A.length ≤ 5
 b1 : 1 ≤ B.length
 b5 : B.length ≤ 5
 ra : ∀ i, i < A.length → clueV (A.getD i []) B.length = true
 rb : ∀ j, j < B.length → clueV (B.getD j []) A.length = true
theorem PicC.of {A B : List (List Int)} (h : picV A B = true) : PicC A B := by
 unfold picV at h
 simp only [Bool.and_eq_true, decide_eq_true_eq, List.all_eq_true] at h
 obtain ⟨⟨h1, h2⟩, h3, h4⟩ := h
 exact ⟨h1.1, h1.2, h2.1, h2.2, fun i hi => by rw [getD_lt A i [] hi]; exact h3 _ (List.getElem_mem hi), fun j hj => by rw [getD_lt B j [] hj]; exact h4 _ (List.getElem_mem hj)⟩
theorem rows_fit {A B : List (List Int)} (hP : PicC A B) {g : List Nat} (hg : SolP A B g) : ∀ (d i : Nat) (kn : List (List Int)) (ag : Bool), A.length = i + d → ShapeP A.length B.length kn → FitP A.length B.length kn g →
  ∃ z, rowsPass A d i kn ag = some z ∧ FitP A.length B.length z.1 g := by
 intro d
 induction d with
 | zero => intro i kn ag hi hs hf; exact ⟨(kn, ag), rfl, hf⟩
 | succ d ih =>
  intro i kn ag hi hs hf
  have hlt : i < A.length := by omega
  obtain ⟨r1, r2⟩ := row_getD hs i hlt
  have b1 := hP.b1
  have b5 := hP.b5
  obtain ⟨c1, c2⟩ := forced_fit (clue := A.getD i []) (l := kn.getD i []) (by omega) (by omega) (hs.rng _ r1) (by rw [r2]; exact hP.ra i hlt) (g.getD i 0) (by rw [r2]; exact hg.lt i hlt) (by rw [r2]; exact hg.row i hlt)
   (fun j hj h0 => hf i j hlt (by omega) h0)
  obtain ⟨a1, _, _⟩ := row_step hs (A.getD i []) i hlt c1
  rw [rowsPass, if_pos c1]
  refine ih (i + 1) _ _ (by omega) a1 (fun q j hq hj h0 => ?_)
  rw [cell_set kn i _ (by rw [hs.len]; exact hlt)] at h0 ⊢
  by_cases c : q = i
  ·subst c; rw [if_pos rfl] at h0 ⊢; exact c2 j (by omega) h0
  ·rw [if_neg c] at h0 ⊢; exact hf q j hq hj h0
theorem cols_fit {A B : List (List Int)} (hP : PicC A B) {g : List Nat} (hg : SolP A B g) : ∀ (d j : Nat) (kn : List (List Int)) (ag : Bool), B.length = j + d → ShapeP A.length B.length kn → FitP A.length B.length kn g →
  ∃ z, colsPass B d j kn ag = some z ∧ FitP A.length B.length z.1 g := by
 intro d
 induction d with
 | zero => intro j kn ag hi hs hf; exact ⟨(kn, ag), rfl, hf⟩
 | succ d ih =>
  intro j kn ag hi hs hf
  have hlt : j < B.length := by omega
  have cl : (colP kn j).length = A.length := by rw [colP_len, hs.len]
  have gl : (colN g j).length = A.length := by rw [colN_length, hg.len]
  have hc : ∀ i, i < A.length → (colP kn j).getD i 0 = cellP kn i j := fun i hi => colP_get kn j i (by rw [hs.len]; exact hi)
  have hbit : ∀ i, i < A.length → bitI (toN (colN g j)) i = bitI (g.getD i 0) j := by
   intro i hi
   have hig : i < g.length := by rw [hg.len]; exact hi
   unfold bitI
   rw [toN_bit (colN g j) i (by omega), getD_lt g i 0 hig]
   simp [colN]
  have a1 := hP.a1
  have a5 := hP.a5
  have hrng : ∀ v ∈ colP kn j, -1 ≤ v ∧ v ≤ 1 := by
   intro v hv
   obtain ⟨i, hi, rfl⟩ := List.getElem_of_mem hv
   have hi' : i < A.length := by omega
   obtain ⟨r1, r2⟩ := row_getD hs i hi'
   rw [← getD_lt (colP kn j) i 0 hi, hc i hi']
   unfold cellP
   rw [getD_lt _ j 0 (by omega)]
   exact hs.rng _ r1 _ (List.getElem_mem _)
  obtain ⟨c1, c2⟩ := forced_fit (clue := B.getD j []) (l := colP kn j) (by omega) (by omega) hrng (by rw [cl]; exact hP.rb j hlt) (toN (colN g j)) (by have := toN_lt (colN g j); rw [gl] at this; rw [cl]; exact this)
   (by have := lineN_toN (colN g j); rw [gl] at this; rw [cl, this]; exact hg.col j hlt)
   (fun i hi h0 => by
    have hi' : i < A.length := by omega
    rw [hc i hi'] at h0 ⊢
    rw [hbit i hi']
    exact hf i j hi' hlt h0)
  obtain ⟨a1, _, _⟩ := col_step hs (B.getD j []) j hlt c1
  rw [colsPass, if_pos c1]
  refine ih (j + 1) _ _ (by omega) a1 (fun i q hi' hq h0 => ?_)
  rw [cell_setCol hs j _ i q hi' hlt] at h0 ⊢
  by_cases c : q = j
  ·subst c; rw [if_pos rfl] at h0 ⊢; rw [c2 i (by omega) h0]; exact hbit i hi'
  ·rw [if_neg c] at h0 ⊢; exact hf i q hi' hq h0
theorem round_fit {A B : List (List Int)} (hP : PicC A B) {g : List Nat} (hg : SolP A B g) (kn : List (List Int)) (hs : ShapeP A.length B.length kn) (hf : FitP A.length B.length kn g) :
  ∃ z, roundPass A B kn = some z ∧ FitP A.length B.length z.1 g := by
 obtain ⟨y, hy, fy⟩ := rows_fit hP hg A.length 0 kn false (by omega) hs hf
 obtain ⟨s1, _, _⟩ := rows_keep A B.length A.length 0 kn false y (by omega) hs hy
 obtain ⟨z, hz, fz⟩ := cols_fit hP hg B.length 0 y.1 y.2 (by omega) s1 fy
 exact ⟨z, by rw [roundPass, hy]; exact hz, fz⟩
theorem lines_fit {A B : List (List Int)} (hP : PicC A B) {g : List Nat} (hg : SolP A B g) : ∀ (n : Nat) (kn : List (List Int)), ShapeP A.length B.length kn → FitP A.length B.length kn g →
  (linesP A B n kn).2 = true ∧ FitP A.length B.length (linesP A B n kn).1 g := by
 intro n
 induction n with
 | zero => intro kn _ hf; exact ⟨rfl, hf⟩
 | succ n ih =>
  intro kn hs hf
  obtain ⟨z, hz, fz⟩ := round_fit hP hg kn hs hf
  obtain ⟨s1, _, _⟩ := round_keep A B kn z hs hz
  rw [linesP, hz]
  by_cases c : z.2 = true
  ·have := ih z.1 s1 fz
   simpa [c] using this
  ·have c' : z.2 = false := by simpa using c
   simp only [c', Bool.false_eq_true, if_false]
   exact ⟨trivial, fz⟩
theorem blank_fit (R C : Nat) (g : List Nat) : FitP R C (blankP R C) g := by
 intro i j hi hj h0
 have e : cellP (blankP R C) i j = -1 := by
  unfold cellP blankP
  rw [getD_lt _ i [] (by simpa using hi), List.getElem_replicate, getD_lt _ j 0 (by simpa using hj), List.getElem_replicate]
 rw [e] at h0
 omega
theorem lines_no {A B : List (List Int)} : ∀ (n : Nat) (kn : List (List Int)), (linesP A B n kn).2 = false → (linesP A B n kn).1 = [] := by
 intro n
 induction n with
 | zero => intro kn h; cases h
 | succ n ih =>
  intro kn h
  rw [linesP] at h ⊢
  cases hr : roundPass A B kn with
  | none => rfl
  | some z =>
   rw [hr] at h
   dsimp only at h ⊢
   by_cases c : z.2 = true
   ·rw [if_pos c] at h ⊢; exact ih z.1 h
   ·rw [if_neg c] at h; cases h
/-- A pass that changes nothing. -/
theorem rows_true (A : List (List Int)) : ∀ (d i : Nat) (kn : List (List Int)) (z : List (List Int) × Bool), rowsPass A d i kn true = some z → z.2 = true := by
 intro d
 induction d with
 | zero => intro i kn z h; obtain rfl := Option.some.inj h; rfl
 | succ d ih =>
  intro i kn z h
  rw [rowsPass] at h
  split at h
  case isFalse => cases h
  rw [Bool.true_or] at h
  exact ih _ _ z h
theorem cols_true (B : List (List Int)) : ∀ (d i : Nat) (kn : List (List Int)) (z : List (List Int) × Bool), colsPass B d i kn true = some z → z.2 = true := by
 intro d
 induction d with
 | zero => intro i kn z h; obtain rfl := Option.some.inj h; rfl
 | succ d ih =>
  intro i kn z h
  rw [colsPass] at h
  split at h
  case isFalse => cases h
  rw [Bool.true_or] at h
  exact ih _ _ z h
theorem set_self {α : Type} (l : List α) (i : Nat) (z : α) (h : i < l.length) : l.set i (l.getD i z) = l := by
 rw [getD_lt l i z h]; exact List.set_getElem_self h
theorem setCol_self {R C : Nat} {kn : List (List Int)} (hs : ShapeP R C kn) (j : Nat) (hj : j < C) : setCol kn j (colP kn j) = kn := by
 apply List.ext_getElem (setCol_len _ _ _)
 intro i h1 h2
 have hi : i < R := by rw [← hs.len]; exact h2
 simp only [setCol, List.getElem_map, List.getElem_range]
 rw [colP_get kn j i h2]
 unfold cellP
 rw [getD_lt kn i [] h2]
 exact set_self _ _ _ (by rw [hs.row _ (List.getElem_mem h2)]; exact hj)
theorem rows_still (A : List (List Int)) (C : Nat) : ∀ (d i : Nat) (kn : List (List Int)) (z : List (List Int) × Bool), A.length = i + d → ShapeP A.length C kn → rowsPass A d i kn false = some z → z.2 = false →
  z.1 = kn ∧ ∀ q, i ≤ q → q < A.length → (forcedV (A.getD q []) (kn.getD q [])).2 = true := by
 intro d
 induction d with
 | zero => intro i kn z hi hs h _; obtain rfl := Option.some.inj h; exact ⟨rfl, fun q h1 h2 => by omega⟩
 | succ d ih =>
  intro i kn z hi hs h hz
  rw [rowsPass] at h
  split at h
  case isFalse => cases h
  rename_i c
  by_cases e : (forcedV (A.getD i []) (kn.getD i [])).1 = kn.getD i []
  ·have hl : i < kn.length := by rw [hs.len]; omega
   rw [e, set_self kn i [] hl] at h
   simp only [ne_eq, not_true_eq_false, decide_false, Bool.or_false] at h
   obtain ⟨h1, h2⟩ := ih (i + 1) kn z (by omega) hs h hz
   refine ⟨h1, fun q q1 q2 => ?_⟩
   by_cases cq : q = i
   ·subst cq; exact c
   ·exact h2 q (by omega) q2
  ·have ed : (false || decide ((forcedV (A.getD i []) (kn.getD i [])).1 ≠ kn.getD i [])) = true := by rw [Bool.false_or, decide_eq_true_eq]; exact e
   rw [ed] at h
   have := rows_true A d (i + 1) _ z h
   rw [hz] at this; cases this
theorem cols_still (B : List (List Int)) (R : Nat) : ∀ (d j : Nat) (kn : List (List Int)) (z : List (List Int) × Bool), B.length = j + d → ShapeP R B.length kn → colsPass B d j kn false = some z → z.2 = false →
  z.1 = kn ∧ ∀ q, j ≤ q → q < B.length → (forcedV (B.getD q []) (colP kn q)).2 = true := by
 intro d
 induction d with
 | zero => intro i kn z hi hs h _; obtain rfl := Option.some.inj h; exact ⟨rfl, fun q h1 h2 => by omega⟩
 | succ d ih =>
  intro j kn z hj hs h hz
  rw [colsPass] at h
  split at h
  case isFalse => cases h
  rename_i c
  by_cases e : (forcedV (B.getD j []) (colP kn j)).1 = colP kn j
  ·rw [e, setCol_self hs j (by omega)] at h
   simp only [ne_eq, not_true_eq_false, decide_false, Bool.or_false] at h
   obtain ⟨h1, h2⟩ := ih (j + 1) kn z (by omega) hs h hz
   refine ⟨h1, fun q q1 q2 => ?_⟩
   by_cases cq : q = j
   ·subst cq; exact c
   ·exact h2 q (by omega) q2
  ·have ed : (false || decide ((forcedV (B.getD j []) (colP kn j)).1 ≠ colP kn j)) = true := by rw [Bool.false_or, decide_eq_true_eq]; exact e
   rw [ed] at h
   have := cols_true B d (j + 1) _ z h
   rw [hz] at this; cases this
theorem round_still {A B kn : List (List Int)} {z : List (List Int) × Bool} (hs : ShapeP A.length B.length kn) (h : roundPass A B kn = some z) (hz : z.2 = false) :
  z.1 = kn ∧ (∀ q, q < A.length → (forcedV (A.getD q []) (kn.getD q [])).2 = true) ∧ (∀ q, q < B.length → (forcedV (B.getD q []) (colP kn q)).2 = true) := by
 obtain ⟨y, hy, hz2⟩ := Option.bind_eq_some_iff.mp h
 have y2 : y.2 = false := by
  cases c : y.2 with
  | false => rfl
  | true => rw [c] at hz2; have := cols_true B _ _ _ z hz2; rw [hz] at this; cases this
 obtain ⟨e1, f1⟩ := rows_still A B.length A.length 0 kn y (by omega) hs hy y2
 rw [y2, e1] at hz2
 obtain ⟨e2, f2⟩ := cols_still B A.length B.length 0 kn z (by omega) hs hz2 hz
 exact ⟨e2, fun q hq => f1 q (by omega) hq, fun q hq => f2 q (by omega) hq⟩
theorem lines_still {A B : List (List Int)} : ∀ (n : Nat) (kn : List (List Int)), ShapeP A.length B.length kn → unkP A.length B.length kn < n → (linesP A B n kn).2 = true →
  ShapeP A.length B.length (linesP A B n kn).1 ∧ (∀ q, q < A.length → (forcedV (A.getD q []) ((linesP A B n kn).1.getD q [])).2 = true) ∧ (∀ q, q < B.length → (forcedV (B.getD q []) (colP (linesP A B n kn).1 q)).2 = true) := by
 intro n
 induction n with
 | zero => intro kn _ h; omega
 | succ n ih =>
  intro kn hs hu h
  rw [linesP] at h ⊢
  cases hr : roundPass A B kn with
  | none => rw [hr] at h; cases h
  | some z =>
   rw [hr] at h
   obtain ⟨t1, t2, t3⟩ := round_keep A B kn z hs hr
   dsimp only at h ⊢
   by_cases c : z.2 = true
   ·rw [if_pos c] at h ⊢
    have := unk_lt t2 (t3 c)
    exact ih z.1 t1 (by omega) h
   ·rw [if_neg c]
    have c' : z.2 = false := by simpa using c
    obtain ⟨e, f1, f2⟩ := round_still hs hr c'
    rw [e]
    exact ⟨hs, f1, f2⟩
/-- All is known. -/
def boolsP (l : List Int) : List Bool := l.map fun v => v == 1
theorem forced_full {clue l : List Int} (h : (forcedV clue l).2 = true) (hk : ∀ v ∈ l, 0 ≤ v) : clueL (boolsP l) = clue := by
 unfold forcedV at h
 split at h
 case isFalse => cases h
 rename_i hv
 split at h
 case isTrue => cases h
 rename_i hne
 obtain ⟨m, ms, hm⟩ := List.exists_cons_of_ne_nil hne
 have hmem : m ∈ LF clue l := by rw [hm]; simp
 rw [LF_mem] at hmem
 obtain ⟨_, hi⟩ := hmem
 unfold isLine at hi
 rw [Bool.and_eq_true, decide_eq_true_eq] at hi
 have hf := (fitD_iff m l 0).1 hi.1
 rw [← hi.2]
 congr 1
 apply List.ext_getElem (by simp [boolsP, lineN])
 intro j h1 h2
 have hj : j < l.length := by simpa [boolsP] using h1
 have hb := hf j hj
 rw [Nat.zero_add] at hb
 have h0 := hk _ (List.getElem_mem hj)
 have hb2 : l[j] = bitI m j := by omega
 rw [lineN_get]
 show (l.map fun v => v == 1)[j]'(by simpa using hj) = _
 rw [List.getElem_map, hb2, bitI_beq]
theorem full_sol {A B kn : List (List Int)} (hs : ShapeP A.length B.length kn) (hk : ∀ i j, i < A.length → j < B.length → 0 ≤ cellP kn i j)
  (fr : ∀ q, q < A.length → (forcedV (A.getD q []) (kn.getD q [])).2 = true) (fc : ∀ q, q < B.length → (forcedV (B.getD q []) (colP kn q)).2 = true) : solG A B ≠ [] := by
 have hkr : ∀ i, i < A.length → ∀ v ∈ kn.getD i [], 0 ≤ v := by
  intro i hi v hv
  obtain ⟨r1, r2⟩ := row_getD hs i hi
  obtain ⟨j, hj, rfl⟩ := List.getElem_of_mem hv
  have := hk i j hi (by omega)
  unfold cellP at this
  rw [getD_lt _ j 0 hj] at this
  exact this
 have hkc : ∀ j, j < B.length → ∀ v ∈ colP kn j, 0 ≤ v := by
  intro j hj v hv
  obtain ⟨i, hi, rfl⟩ := List.getElem_of_mem hv
  have hi' : i < kn.length := by rw [colP_len] at hi; exact hi
  have := hk i j (by rw [← hs.len]; exact hi') hj
  rw [← colP_get kn j i hi', getD_lt _ i 0 hi] at this
  exact this
 have hx : ∀ x ∈ kn.map boolsP, x.length = B.length := by
  intro x hx
  obtain ⟨y, hy, rfl⟩ := List.mem_map.1 hx
  simp [boolsP, hs.row y hy]
 have h := toN_sol (kn.map boolsP) B.length hx
 have e1 : (kn.map boolsP).map clueL = A := by
  apply List.ext_getElem (by simp [hs.len])
  intro i h1 h2
  have hi : i < kn.length := by simpa using h1
  rw [List.getElem_map, List.getElem_map]
  have := forced_full (fr i h2) (hkr i h2)
  rw [getD_lt kn i [] hi, getD_lt A i [] h2] at this
  exact this
 have e2 : colsV (kn.map boolsP) B.length = B := by
  apply List.ext_getElem (colsV_length _ _)
  intro j h1 h2
  have := forced_full (fc j h2) (hkc j h2)
  rw [getD_lt B j [] h2] at this
  rw [← this]
  simp only [colsV, List.getElem_map, List.getElem_range]
  congr 1
  unfold colB boolsP colP
  rw [List.map_map, List.map_map]
  apply List.map_congr_left
  intro r hr
  have hrl : j < r.length := by rw [hs.row r hr]; exact h2
  simp only [Function.comp]
  rw [getD_lt _ j false (by simpa using hrl), List.getElem_map, getD_lt r j 0 hrl]
 rw [e1, e2] at h
 intro e
 rw [e] at h
 cases h
theorem sol_eq {A B kn : List (List Int)} (hk : ∀ i j, i < A.length → j < B.length → 0 ≤ cellP kn i j) {g g' : List Nat} (h : SolP A B g) (h' : SolP A B g') (f : FitP A.length B.length kn g) (f' : FitP A.length B.length kn g') : g = g' := by
 apply List.ext_getElem (by rw [h.len, h'.len])
 intro i h1 h2
 have hi : i < A.length := by rw [← h.len]; exact h1
 have l1 := h.lt i hi
 have l2 := h'.lt i hi
 rw [getD_lt g i 0 h1] at l1
 rw [getD_lt g' i 0 h2] at l2
 apply Nat.eq_of_testBit_eq
 intro j
 by_cases c : j < B.length
 ·have a := f i j hi c (hk i j hi c)
  have b := f' i j hi c (hk i j hi c)
  rw [a, getD_lt g i 0 h1, getD_lt g' i 0 h2] at b
  rw [← bitI_beq, ← bitI_beq, b]
 ·rw [Nat.testBit_lt_two_pow (Nat.lt_of_lt_of_le l1 (Nat.pow_le_pow_right (by decide) (by omega))), Nat.testBit_lt_two_pow (Nat.lt_of_lt_of_le l2 (Nat.pow_le_pow_right (by decide) (by omega)))]
theorem allP_nodup (A : List (List Int)) (C : Nat) : ∀ (d : Nat) (ns : List Nat), (allP A C d ns).Nodup := by
 intro d
 induction d with
 | zero => intro ns; simp [allP]
 | succ d ih =>
  intro ns
  show ((rowsP A C ns.length).flatMap fun m => allP A C d (ns ++ [m])).Nodup
  unfold List.Nodup
  rw [List.pairwise_flatMap]
  refine ⟨fun m _ => ih _, ?_⟩
  have hn : (rowsP A C ns.length).Nodup := LF_nodup _ _
  refine List.Pairwise.imp ?_ hn
  intro m m' hne x hx y hy hxy
  obtain ⟨t, ht, _⟩ := allP_ext A C d (ns ++ [m]) x hx
  obtain ⟨t', ht', _⟩ := allP_ext A C d (ns ++ [m']) y hy
  rw [hxy, ht', List.append_assoc, List.append_assoc] at ht
  have := List.append_cancel_left ht
  simp only [List.cons_append, List.nil_append, List.cons.injEq] at this
  exact hne this.1.symm
theorem solG_nodup (A B : List (List Int)) : (solG A B).Nodup := List.Pairwise.filter _ (allP_nodup A B.length A.length [])
theorem one_of_all {l : List (List Nat)} (hn : l.Nodup) (hne : l ≠ []) (h : ∀ x ∈ l, ∀ y ∈ l, x = y) : (l.take 2).length = 1 := by
 match l, hn, hne, h with
 | [x], _, _, _ => rfl
 | x :: y :: zs, hn, _, h =>
  have := h x (by simp) y (by simp)
  rw [List.nodup_cons] at hn
  exact absurd (by rw [this]; simp) hn.1
theorem okC_fit {v : Int} {b : Bool} (h : 0 ≤ v → v = (if b = true then 1 else 0)) : okC v b = true := by
 unfold okC
 by_cases h0 : 0 ≤ v
 ·have := h h0
  cases b with
  | true => rw [if_pos rfl] at this; rw [this]; decide
  | false => rw [if_neg (by decide)] at this; rw [this]; decide
 ·have e0 : (v == 0) = false := beq_eq_false_iff_ne.mpr (by omega)
  have e1 : (v == 1) = false := beq_eq_false_iff_ne.mpr (by omega)
  rw [e0, e1]; rfl
/-- The loops of the law over the cells. -/
theorem law_cells (A B X : List (List Int)) (F : List (List Bool)) (fd : Bool) (hR : A.length ≤ 1000) (hC : B.length ≤ 1000) (hs : ShapeP A.length B.length X)
  (hfd : fd = true → F.length = A.length ∧ (∀ x ∈ F, x.length = B.length) ∧ ∀ i j, i < A.length → j < B.length → okC (cellP X i j) ((F.getD i []).getD j false) = true)
  (hend : (∀ i j, i < A.length → j < B.length → cellP X i j ≠ -1) → fd = true ∧ Ev (fun k => impl_PictureCount.f k A B 2) 1) :
  ∀ (d i : Nat) (al : Bool), A.length = i + d → (al = true → ∀ q j, q < i → j < B.length → cellP X q j ≠ -1) → Ev (fun k => laws_FnPictureLines.l0 k X F fd al i A B) true := by
 intro d
 induction d with
 | zero =>
  intro i al hi hal
  have e := hs.len
  refine Ev.step (fun k => by rw [laws_FnPictureLines.l0]) (Ev.ifn (by omega) ?_)
  cases al with
  | false => exact Ev.ifn (by decide) (Ev.now _)
  | true =>
   obtain ⟨h1, h2⟩ := hend (fun q j hq hj => hal rfl q j (by omega) hj)
   exact Ev.ifp rfl (Ev.ifp h1 (Ev.bind h2 (Ev.ifp rfl (Ev.now _))))
 | succ d ih =>
  intro i al hi hal
  have e := hs.len
  have hlt : i < A.length := by omega
  have hlx : i < X.length := by omega
  have er : rd_L1 X (i : Int) = X.getD i [] := rdL_getD X i
  obtain ⟨r1, r2⟩ := row_getD hs i hlt
  have hw : wrap64 ((i : Int) + 1) = ((i + 1 : Nat) : Int) := by rw [w64 (by omega) (by omega)]; omega
  refine Ev.step (fun k => by rw [laws_FnPictureLines.l0, er]) (Ev.ifp (by omega) (Ev.ifp (by omega) (Ev.bind (sameInts_self _ (by omega)) (Ev.ifp rfl ?_))))
  have inner : ∀ (m j : Nat) (al : Bool), B.length = j + m → (al = true → (∀ q c, q < i → c < B.length → cellP X q c ≠ -1) ∧ ∀ c, c < j → cellP X i c ≠ -1) →
    Ev (fun k => laws_FnPictureLines.l1 k X F fd al i j A B) true := by
   intro m
   induction m with
   | zero =>
    intro j al hj hal
    refine Ev.step (fun k => by rw [laws_FnPictureLines.l1, er, hw]) (Ev.ifn (by omega) ?_)
    refine ih (i + 1) al (by omega) (fun ha q c hq hc => ?_)
    obtain ⟨h1, h2⟩ := hal ha
    by_cases cq : q = i
    ·subst cq; exact h2 c (by omega)
    ·exact h1 q c (by omega) hc
   | succ m ihm =>
    intro j al hj hal
    have hjB : j < B.length := by omega
    have hwj : wrap64 ((j : Int) + 1) = ((j + 1 : Nat) : Int) := by rw [w64 (by omega) (by omega)]; omega
    have ec : rd (X.getD i []) (j : Int) = cellP X i j := by
     rw [rd_nat _ j (by omega)]; unfold cellP; rw [getD_lt _ j 0 (by omega)]
    have next := ihm (j + 1) (al && (cellP X i j != -1)) (by omega) (fun ha => by
     rw [Bool.and_eq_true] at ha
     obtain ⟨h1, h2⟩ := hal ha.1
     refine ⟨h1, fun c hc => ?_⟩
     by_cases cj : c = j
     ·subst cj; exact bne_iff_ne.mp ha.2
     ·exact h2 c (by omega))
    refine Ev.step (fun k => by rw [laws_FnPictureLines.l1, er, ec, hwj]) (Ev.ifp (by omega) (Ev.ifp (by omega) ?_))
    cases hfdc : fd with
    | false => rw [hfdc] at next; exact Ev.ifn (by decide) next
    | true =>
     obtain ⟨f1, f2, f3⟩ := hfd hfdc
     have hFl : i < F.length := by omega
     have eF : rd_L3 F (i : Int) = F.getD i [] := by rw [rdB_nat F i hFl, getD_lt F i [] hFl]
     have hFr : (F.getD i []).length = B.length := by rw [getD_lt F i [] hFl]; exact f2 _ (List.getElem_mem hFl)
     have eb : rdOf false (F.getD i []) (j : Int) = (F.getD i []).getD j false := by rw [rdOf_nat _ j (by omega), getD_lt _ j false (by omega)]
     rw [hfdc] at next
     refine Ev.ifp rfl (Ev.ifp (by omega) (Ev.congr (fun k => by rw [eF, eb]) ?_))
     exact Ev.ifp (by omega) (Ev.ifp (f3 i j hlt hjB) next)
  exact inner B.length 0 al (by omega) (fun ha => ⟨fun q c hq hc => hal ha q c hq hc, fun c hc => by omega⟩)
theorem FnPictureLines : laws_FnPictureLines.Pure := by
 intro l0 hl _ hw
 apply Ev.rounds
 unfold laws_FnPictureLines.f
 by_cases c : (l0.length : Int) > 1048576
 ·exact Ev.ifp c (Ev.now _)
 refine Ev.ifn c ?_
 obtain ⟨b, ho, hb⟩ := open_ok l0 hl hw
 obtain ⟨A, B, q, hp, a5, b5, a9, b9, _, _⟩ := pic_any hb 9 (by omega)
 have hD : Ev (fun k => spec_DrawPictureLines.f k l0) (A, B) := by
  unfold spec_DrawPictureLines.f
  exact Ev.bindc ho (Ev.bind hp (Ev.now _))
 have ha : ∀ x ∈ A, x.length ≤ 1048576 := fun x hx => by have := a9 x hx; omega
 have hbb : ∀ x ∈ B, x.length ≤ 1048576 := fun x hx => by have := b9 x hx; omega
 refine Ev.bind hD ?_
 dsimp only
 refine Ev.bind (impl_lines_ev ha (by omega) hbb (by omega)) (Ev.bind (spec_lines_ev ha (by omega) hbb (by omega)) (Ev.ifp rfl ?_))
 by_cases cp : picV A B = true
 ·have hP := PicC.of cp
  have e : linesV A B = linesP A B (A.length * B.length + 1) (blankP A.length B.length) := by unfold linesV; rw [if_pos cp]
  have hsh := blank_shape A.length B.length
  by_cases ok : (linesV A B).2 = true
  ·refine Ev.ifp ok (Ev.bind (impl_first_ev ha (by omega) hbb (by omega)) ?_)
   rw [e] at ok ⊢
   obtain ⟨s1, s2, s3⟩ := lines_still (A.length * B.length + 1) (blankP A.length B.length) hsh (Nat.lt_succ_of_le (unk_le _ _ _)) ok
   have hrng : ∀ i j, i < A.length → j < B.length → -1 ≤ cellP (linesP A B (A.length * B.length + 1) (blankP A.length B.length)).1 i j := by
    intro i j hi hj
    obtain ⟨r1, r2⟩ := row_getD s1 i hi
    unfold cellP
    rw [getD_lt _ j 0 (by omega)]
    exact (s1.rng _ r1 _ (List.getElem_mem _)).1
   have fitg : ∀ g ∈ solG A B, FitP A.length B.length (linesP A B (A.length * B.length + 1) (blankP A.length B.length)).1 g := fun g hg =>
    (lines_fit hP (solG_SolP hg) _ _ hsh (blank_fit _ _ _)).2
   refine law_cells A B _ (firstV A B).1 (firstV A B).2 (by omega) (by omega) s1 (fun hfd => ?_) (fun hall => ?_) A.length 0 true (by omega) (fun _ q j hq => by omega)
   ·unfold firstV at hfd ⊢
    rw [if_pos cp] at hfd ⊢
    match hs : solG A B with
    | [] => rw [hs] at hfd; cases hfd
    | g :: gs =>
     have hg : g ∈ solG A B := by rw [hs]; simp
     have hS := solG_SolP hg
     refine ⟨by rw [LB_length]; exact hS.len, fun x hx => LB_row _ _ x hx, fun i j hi hj => okC_fit (fun h0 => ?_)⟩
     have hig : i < g.length := by rw [hS.len]; exact hi
     have := fitg g hg i j hi hj h0
     rw [this, getD_lt (LB B.length g) i [] (by rw [LB_length]; exact hig)]
     show bitI (g.getD i 0) j = if ((g.map fun m => lineN m B.length)[i]'(by simpa using hig)).getD j false = true then 1 else 0
     rw [List.getElem_map, getD_lt _ j false (by rw [lineN_length]; exact hj), lineN_get, getD_lt g i 0 hig]
     rfl
   ·have hk : ∀ i j, i < A.length → j < B.length → 0 ≤ cellP (linesP A B (A.length * B.length + 1) (blankP A.length B.length)).1 i j := fun i j hi hj => by
     have h1 := hall i j hi hj
     have h2 := hrng i j hi hj
     omega
    have hne := full_sol s1 hk s2 s3
    have h1 := one_of_all (solG_nodup A B) hne (fun x hx y hy => sol_eq hk (solG_SolP hx) (solG_SolP hy) (fitg x hx) (fitg y hy))
    constructor
    ·unfold firstV
     rw [if_pos cp]
     match hs : solG A B with
     | [] => exact absurd hs hne
     | g :: gs => rfl
    ·refine (count_ev ha (by omega) hbb (by omega) 2).eq ?_
     rw [if_pos ⟨cp, by omega, by omega⟩]
     have e2 : (2 : Int).toNat = 2 := rfl
     rw [e2, h1]; rfl
  ·have okf : (linesV A B).2 = false := by simpa using ok
   have hx : (linesV A B).1 = [] := by rw [e] at okf ⊢; exact lines_no _ _ okf
   have hno : solG A B = [] := by
    match hs : solG A B with
    | [] => rfl
    | g :: gs =>
     have hg : g ∈ solG A B := by rw [hs]; simp
     have := (lines_fit hP (solG_SolP hg) (A.length * B.length + 1) _ hsh (blank_fit _ _ _)).1
     rw [e, this] at okf; cases okf
   have hcnt : Ev (fun k => impl_PictureCount.f k A B 1) 0 := by
    refine (count_ev ha (by omega) hbb (by omega) 1).eq ?_
    rw [if_pos ⟨cp, by omega, by omega⟩, hno]; rfl
   refine Ev.ifn ok (Ev.bind (spec_pic A B ha (by omega) hbb (by omega)) (Ev.ifp cp (Ev.bind hcnt (Ev.ifp rfl (Ev.ifp hx (Ev.bind alive_ev (Ev.ifp rfl (Ev.now _))))))))
 ·have e : linesV A B = ([], false) := by unfold linesV; rw [if_neg cp]
  rw [e]
  exact Ev.ifn (by decide) (Ev.bind (spec_pic A B ha (by omega) hbb (by omega)) (Ev.ifn cp (Ev.ifp rfl (Ev.bind alive_ev (Ev.ifp rfl (Ev.now _))))))

end Go.Proofs.Ytapnohcfnclleaa.Pure
