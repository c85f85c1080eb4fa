/- For every code of at most a million bytes: at the picture puzzle that the code draws PictureFirst answers what the reference answers; where there is a picture, PictureOf of its rows has the clues of the puzzle. -/
import Derived.Test.YtapnohcfnclleaaPFnPictureFirstx14
namespace Go.Proofs.Ytapnohcfnclleaa.Pure
open Go.RowKit Go.Proofs.Ytapnohcfnclleaa.PFnPictureFirst Go.Proofs.YtapnohcfnclleaaW.PrintWords Go.Proofs.YtapnohcfnclleaaW.PrintLast Go.Proofs.YtapnohcfnclleaaW.PrintMore
set_option linter.unusedVariables false
set_option linter.unusedSimpArgs false
/-! Ev: small steps. -/
theorem _root_.Go.Proofs.YtapnohcfnclleaaW.PrintWords.Ev.ifp {α : Type} {c : Prop} [Decidable c] {g f : Nat → Option α} {r : α} (hc : c) (h : Ev g r) : Ev (fun k => if c then g k else f k) r :=
 Ev.congr (fun _ => if_pos hc) h
theorem _root_.Go.Proofs.YtapnohcfnclleaaW.PrintWords.Ev.ifn {α : Type} {c : Prop} [Decidable c] {g f : Nat → Option α} {r : α} (hc : ¬ c) (h : Ev f r) : Ev (fun k => if c then g k else f k) r :=
 Ev.congr (fun _ => if_neg hc) h
theorem _root_.Go.Proofs.YtapnohcfnclleaaW.PrintWords.Ev.bindc {α β : Type} {o : Option α} {f : Nat → α → Option β} {a : α} {r : β} (h : o = some a) (k : Ev (fun n => f n a) r) : Ev (fun n => o.bind (f n)) r := by
 subst h; exact k
theorem _root_.Go.Proofs.YtapnohcfnclleaaW.PrintWords.Ev.eq {α : Type} {g : Nat → Option α} {r r' : α} (h : Ev g r) (e : r = r') : Ev g r' := e ▸ h
theorem w64 {x : Int} (h0 : -9223372036854775808 ≤ x) (h1 : x ≤ 9223372036854775807) : wrap64 x = x := by unfold wrap64; omega
theorem wf_u8 {x : Int} (h : (Lit.int .u8 x).wf = true) : 0 ≤ x ∧ x ≤ 255 := by
 have h2 : (decide (IntKind.u8.min ≤ x) && decide (x ≤ IntKind.u8.max)) = true := h
 simp [IntKind.min, IntKind.max, IntKind.bits, IntKind.signed] at h2
 omega
theorem rd_nat (xs : List Int) (i : Nat) (h : i < xs.length) : rd xs (i : Int) = xs[i] := by
 simp [rd, List.getD_eq_getElem?_getD, h]
theorem rd_mem (xs : List Int) (i : Int) (h0 : 0 ≤ i) (h : i < xs.length) : rd xs i ∈ xs := by
 obtain ⟨n, rfl⟩ := Int.eq_ofNat_of_zero_le h0
 rw [rd_nat xs n (by omega)]; exact List.getElem_mem _
theorem l1In_f (a b c : Int) : spec_l1In.f a b c = some (decide (b ≤ a ∧ a ≤ c)) := by
 unfold spec_l1In.f
 by_cases h : a ≥ b
 ·rw [if_pos h]; simp; omega
 ·rw [if_neg h]; simp; omega
theorem alive_ev : Ev (fun k => laws_alive.f k) true := Ev.of (fun k => laws_alive.mono k) (k := 20) (by decide +kernel)
/-- The cells that a clue takes, with one behind each number. -/
def csum : List Int → Int
 | [] => 0
 | n :: l => n + 1 + csum l
/-- What ClueValid answers. -/
def clueV (c : List Int) (n : Int) : Bool := decide (1 ≤ n ∧ n ≤ 8) && (c.all (fun x => decide (1 ≤ x)) && decide (csum c ≤ n + 1))
theorem csum_nn : ∀ c : List Int, c.all (fun x => decide (1 ≤ x)) = true → 2 * (c.length : Int) ≤ csum c := by
 intro c
 induction c with
 | nil => intro _; simp [csum]
 | cons x c ih =>
  intro h
  simp only [List.all_cons, Bool.and_eq_true, decide_eq_true_eq] at h
  have := ih h.2
  simp only [csum, List.length_cons]
  omega
theorem csum_le : ∀ c : List Int, c.all (fun x => decide (1 ≤ x)) = true → ∀ x ∈ c, x < csum c := by
 intro c
 induction c with
 | nil => intro _ x hx; simp at hx
 | cons y c ih =>
  intro h x hx
  simp only [List.all_cons, Bool.and_eq_true, decide_eq_true_eq] at h
  have hn := csum_nn c h.2
  simp only [csum]
  rcases List.mem_cons.1 hx with hx | hx
  ·omega
  ·have := ih h.2 x hx
   omega
theorem impl_clue_l (l : List Int) (hl : l.length ≤ 140737488351232) : ∀ (d i : Nat) (t : Int), l.length = i + d → 0 ≤ t → t ≤ 100 →
  Ev (fun k => impl_ClueValid.l0 k t l l.length i) ((l.drop i).all (fun x => decide (1 ≤ x)) && decide (csum (l.drop i) ≤ t)) := by
 intro d
 induction d with
 | zero =>
  intro i t hi h0 h1
  refine Ev.step (fun k => by rw [impl_ClueValid.l0]) (Ev.ifn (by omega) (Ev.eq (Ev.now _) ?_))
  rw [List.drop_eq_nil_of_le (by omega)]; simp [csum, h0]
 | succ d ih =>
  intro i t hi h0 h1
  have hlt : i < l.length := by omega
  have hw : wrap64 ((i : Int) + 1) = ((i + 1 : Nat) : Int) := by rw [w64 (by omega) (by omega)]; omega
  refine Ev.step (fun k => by rw [impl_ClueValid.l0]) ?_
  rw [rd_nat l i hlt, hw, List.drop_eq_getElem_cons hlt, List.all_cons]
  rw [show csum (l[i] :: l.drop (i + 1)) = l[i] + 1 + csum (l.drop (i + 1)) from rfl]
  refine Ev.ifp (by omega) (Ev.ifp (by omega) (Ev.ifp (by omega) ?_))
  by_cases c1 : l[i] < 1
  ·have h : ¬ 1 ≤ l[i] := by omega
   exact Ev.ifp c1 (Ev.eq (Ev.now _) (by simp [h]))
  refine Ev.ifn c1 ?_
  have g : 1 ≤ l[i] := by omega
  by_cases c2 : l[i] ≥ t
  ·refine Ev.ifp c2 (Ev.eq (Ev.now _) ?_)
   symm
   rw [Bool.and_eq_false_iff]
   cases ha : (l.drop (i + 1)).all (fun x => decide (1 ≤ x))
   ·left; simp
   ·right
    have := csum_nn _ ha
    simp; omega
  ·refine Ev.ifn c2 ?_
   rw [w64 (x := l[i] + 1) (by omega) (by omega), w64 (by omega) (by omega)]
   refine Ev.eq (ih (i + 1) (t - (l[i] + 1)) (by omega) (by omega) (by omega)) ?_
   simp only [g, decide_true, Bool.true_and]
   congr 1
   rw [decide_eq_decide]; omega
theorem impl_clue (l : List Int) (n : Int) (hl : l.length ≤ 140737488351232) : Ev (fun k => impl_ClueValid.f k l n) (clueV l n) := by
 have no : ∀ b : Bool, b = true → ¬ (1 ≤ n ∧ n ≤ 8) → Ev (fun k => impl_ClueValid.j0 k l n b) (clueV l n) := by
  intro b hb h
  refine Ev.step (fun k => by rw [impl_ClueValid.j0]) (Ev.ifp hb (Ev.eq (Ev.now _) ?_))
  unfold clueV
  rw [decide_eq_false h]; simp
 unfold impl_ClueValid.f
 by_cases c1 : n < 1
 ·exact Ev.ifp c1 (no _ rfl (by omega))
 refine Ev.ifn c1 ?_
 by_cases c2 : n > 8
 ·exact no _ (by simpa using c2) (by omega)
 refine Ev.step (fun k => by rw [impl_ClueValid.j0]) (Ev.ifn (by simpa using c2) ?_)
 rw [w64 (by omega) (by omega)]
 refine Ev.eq (impl_clue_l l hl l.length 0 (n + 1) (by omega) (by omega) (by omega)) ?_
 unfold clueV
 rw [decide_eq_true (show 1 ≤ n ∧ n ≤ 8 by omega)]; simp
def isum : List Int → Int
 | [] => 0
 | n :: l => n + isum l
theorem csum_isum : ∀ c : List Int, csum c = isum c + c.length := by
 intro c
 induction c with
 | nil => rfl
 | cons x c ih => simp only [csum, isum, List.length_cons]; omega
theorem spec_clue_l (l : List Int) (n : Int) (hl : l.length ≤ 1000000000) : ∀ (d i : Nat) (t : Int), l.length = i + d → -1 ≤ t → t ≤ 1000000000 + 8 * i →
  Ev (fun k => spec_ClueValid.l0 k l n t i) ((l.drop i).all (fun x => decide (1 ≤ x ∧ x ≤ 8)) && (decide (1 ≤ n ∧ n ≤ 8) && decide (t + isum (l.drop i) ≤ n))) := by
 intro d
 induction d with
 | zero =>
  intro i t hi h0 h1
  refine Ev.step (fun k => by rw [spec_ClueValid.l0]) (Ev.ifn (by omega) (Ev.bindc (l1In_f _ _ _) ?_))
  rw [List.drop_eq_nil_of_le (by omega)]
  rw [show isum [] = 0 from rfl, Int.add_zero]
  simp only [List.all_nil, Bool.true_and]
  by_cases c : 1 ≤ n ∧ n ≤ 8
  ·exact Ev.ifp (by simpa using c) (Ev.eq (Ev.now _) (by simp [c]))
  ·refine Ev.ifn (by simpa using c) (Ev.eq (Ev.now _) ?_)
   rw [decide_eq_false c]; simp
 | succ d ih =>
  intro i t hi h0 h1
  have hlt : i < l.length := by omega
  have hw : wrap64 ((i : Int) + 1) = ((i + 1 : Nat) : Int) := by rw [w64 (by omega) (by omega)]; omega
  refine Ev.step (fun k => by rw [spec_ClueValid.l0]) ?_
  rw [rd_nat l i hlt, hw, List.drop_eq_getElem_cons hlt, List.all_cons]
  rw [show isum (l[i] :: l.drop (i + 1)) = l[i] + isum (l.drop (i + 1)) from rfl]
  refine Ev.ifp (by omega) (Ev.ifp (by omega) (Ev.bindc (l1In_f _ _ _) ?_))
  by_cases c1 : 1 ≤ l[i] ∧ l[i] ≤ 8
  ·refine Ev.ifp (by simpa using c1) ?_
   rw [w64 (by omega) (by omega)]
   refine Ev.eq (ih (i + 1) (t + l[i]) (by omega) (by omega) (by omega)) ?_
   simp only [c1, and_self, decide_true, Bool.true_and]
   congr 2
   rw [decide_eq_decide]; omega
  ·refine Ev.ifn (by simpa using c1) (Ev.eq (Ev.now _) ?_)
   rw [decide_eq_false c1]; simp
theorem spec_clue (l : List Int) (n : Int) (hl : l.length ≤ 1000000000) : Ev (fun k => spec_ClueValid.f k l n) (clueV l n) := by
 unfold spec_ClueValid.f
 rw [w64 (by omega) (by omega)]
 refine Ev.eq (spec_clue_l l n hl l.length 0 ((l.length : Int) - 1) (by omega) (by omega) (by omega)) ?_
 unfold clueV
 rw [List.drop_zero]
 by_cases c : 1 ≤ n ∧ n ≤ 8
 ·simp only [c, and_self, decide_true, Bool.true_and]
  have e := csum_isum l
  rw [Bool.eq_iff_iff]
  simp only [Bool.and_eq_true, decide_eq_true_eq]
  constructor
  ·rintro ⟨h1, h2⟩
   refine ⟨?_, by omega⟩
   rw [List.all_eq_true] at h1 ⊢
   intro x hx
   have := h1 x hx
   simp only [decide_eq_true_eq] at this ⊢
   exact this.1
  ·rintro ⟨h1, h2⟩
   refine ⟨?_, by omega⟩
   have h3 := csum_le l h1
   rw [List.all_eq_true] at h1 ⊢
   intro x hx
   have a := h1 x hx
   have b := h3 x hx
   simp only [decide_eq_true_eq] at a ⊢
   omega
 ·rw [decide_eq_false c]; simp
theorem rdL_nat (xs : List (List Int)) (i : Nat) (h : i < xs.length) : rd_L1 xs (i : Int) = xs[i] := by
 simp [rd_L1, List.getD_eq_getElem?_getD, h]
/-- What PictureValid answers. -/
def picV (a b : List (List Int)) : Bool := (decide (1 ≤ a.length ∧ a.length ≤ 5) && decide (1 ≤ b.length ∧ b.length ≤ 5)) && (a.all (fun c => clueV c b.length) && b.all (fun c => clueV c a.length))
theorem impl_pic_l1 (a b : List (List Int)) (hb : ∀ x ∈ b, x.length ≤ 1048576) (hl : b.length ≤ 1048576) : ∀ (d i : Nat), b.length = i + d →
  Ev (fun k => impl_PictureValid.l1 k b b.length i a b) ((b.drop i).all (fun c => clueV c a.length)) := by
 intro d
 induction d with
 | zero =>
  intro i hi
  refine Ev.step (fun k => by rw [impl_PictureValid.l1]) (Ev.ifn (by omega) (Ev.eq (Ev.now _) ?_))
  rw [List.drop_eq_nil_of_le (by omega)]; simp
 | succ d ih =>
  intro i hi
  have hw : wrap64 ((i : Int) + 1) = ((i + 1 : Nat) : Int) := by rw [w64 (by omega) (by omega)]; omega
  have hlt : i < b.length := by omega
  refine Ev.step (fun k => by rw [impl_PictureValid.l1]) ?_
  rw [rdL_nat b i hlt, hw, List.drop_eq_getElem_cons hlt, List.all_cons]
  refine Ev.ifp (by omega) (Ev.ifp (by omega) (Ev.ifp (by omega) (Ev.bind (impl_clue _ _ (by have := hb _ (List.getElem_mem hlt); omega)) ?_)))
  cases hc : clueV b[i] a.length
  ·exact Ev.ifn (by simp) (Ev.eq (Ev.now _) (by simp))
  ·exact Ev.ifp rfl (Ev.eq (ih (i + 1) (by omega)) (by simp))
theorem impl_pic_l0 (a b : List (List Int)) (ha : ∀ x ∈ a, x.length ≤ 1048576) (hal : a.length ≤ 1048576) (hb : ∀ x ∈ b, x.length ≤ 1048576) (hl : b.length ≤ 1048576) : ∀ (d i : Nat), a.length = i + d →
  Ev (fun k => impl_PictureValid.l0 k a a.length i a b) ((a.drop i).all (fun c => clueV c b.length) && b.all (fun c => clueV c a.length)) := by
 intro d
 induction d with
 | zero =>
  intro i hi
  have h1 : Ev (fun k => impl_PictureValid.l1 k b b.length 0 a b) _ := impl_pic_l1 a b hb hl b.length 0 (by omega)
  refine Ev.step (fun k => by rw [impl_PictureValid.l0]) (Ev.ifn (by omega) (Ev.eq h1 ?_))
  rw [List.drop_eq_nil_of_le (show a.length ≤ i by omega)]; simp
 | succ d ih =>
  intro i hi
  have hw : wrap64 ((i : Int) + 1) = ((i + 1 : Nat) : Int) := by rw [w64 (by omega) (by omega)]; omega
  have hlt : i < a.length := by omega
  refine Ev.step (fun k => by rw [impl_PictureValid.l0]) ?_
  rw [rdL_nat a i hlt, hw, List.drop_eq_getElem_cons hlt, List.all_cons]
  refine Ev.ifp (by omega) (Ev.ifp (by omega) (Ev.ifp (by omega) (Ev.bind (impl_clue _ _ (by have := ha _ (List.getElem_mem hlt); omega)) ?_)))
  cases hc : clueV a[i] b.length
  ·exact Ev.ifn (by simp) (Ev.eq (Ev.now _) (by simp))
  ·exact Ev.ifp rfl (Ev.eq (ih (i + 1) (by omega)) (by simp))
theorem impl_pic_j (a b : List (List Int)) (ha : ∀ x ∈ a, x.length ≤ 1048576) (hal : a.length ≤ 1048576) (hb : ∀ x ∈ b, x.length ≤ 1048576) (hl : b.length ≤ 1048576) (x : Bool) :
  Ev (fun k => impl_PictureValid.j0 k x a b) (!x && (a.all (fun c => clueV c b.length) && b.all (fun c => clueV c a.length))) := by
 refine Ev.step (fun k => by rw [impl_PictureValid.j0]) ?_
 cases x
 ·exact Ev.ifn (by simp) (Ev.eq (impl_pic_l0 a b ha hal hb hl a.length 0 (by omega)) (by simp))
 ·exact Ev.ifp rfl (Ev.eq (Ev.now _) (by simp))
theorem impl_pic (a b : List (List Int)) (ha : ∀ x ∈ a, x.length ≤ 1048576) (hal : a.length ≤ 1048576) (hb : ∀ x ∈ b, x.length ≤ 1048576) (hl : b.length ≤ 1048576) : Ev (fun k => impl_PictureValid.f k a b) (picV a b) := by
 unfold impl_PictureValid.f picV
 have hj := impl_pic_j a b ha hal hb hl
 by_cases c1 : (a.length : Int) < 1
 ·refine Ev.ifp c1 (Ev.eq (hj true) ?_)
  have h : ¬ (1 ≤ a.length ∧ a.length ≤ 5) := by omega
  simp [h]
 refine Ev.ifn c1 ?_
 by_cases c2 : (a.length : Int) > 5
 ·refine Ev.ifp c2 (Ev.eq (hj true) ?_)
  have h : ¬ (1 ≤ a.length ∧ a.length ≤ 5) := by omega
  simp [h]
 refine Ev.ifn c2 ?_
 have h : (1 ≤ a.length ∧ a.length ≤ 5) := by omega
 by_cases c3 : (b.length : Int) < 1
 ·refine Ev.ifp c3 (Ev.eq (hj true) ?_)
  have h : ¬ (1 ≤ b.length ∧ b.length ≤ 5) := by omega
  simp [h]
 refine Ev.ifn c3 (Ev.eq (hj _) ?_)
 by_cases c4 : (b.length : Int) > 5
 ·have h5 : ¬ (1 ≤ b.length ∧ b.length ≤ 5) := by omega
  simp [h5, c4]
 ·have h5 : (1 ≤ b.length ∧ b.length ≤ 5) := by omega
  simp [h5, h, c4]
theorem spec_pic_l1 (a b : List (List Int)) (hb : ∀ x ∈ b, x.length ≤ 1048576) (hl : b.length ≤ 1048576) : ∀ (d i : Nat), b.length = i + d →
  Ev (fun k => spec_PictureValid.l1 k i a b) ((b.drop i).all (fun c => clueV c a.length) && (decide (1 ≤ a.length ∧ a.length ≤ 5) && decide (1 ≤ b.length ∧ b.length ≤ 5))) := by
 intro d
 induction d with
 | zero =>
  intro i hi
  refine Ev.step (fun k => by rw [spec_PictureValid.l1]) (Ev.ifn (by omega) (Ev.bindc (l1In_f _ _ _) ?_))
  rw [List.drop_eq_nil_of_le (by omega)]
  by_cases c : 1 ≤ (a.length : Int) ∧ (a.length : Int) ≤ 5
  ·refine Ev.ifp (by simpa using c) (Ev.bindc (l1In_f _ _ _) (Ev.eq (Ev.now _) ?_))
   have h : 1 ≤ a.length ∧ a.length ≤ 5 := by omega
   rw [show decide (1 ≤ (b.length : Int) ∧ (b.length : Int) ≤ 5) = decide (1 ≤ b.length ∧ b.length ≤ 5) from by rw [decide_eq_decide]; omega]
   simp [h]
  ·refine Ev.ifn (by simpa using c) (Ev.eq (Ev.now _) ?_)
   have h : ¬ (1 ≤ a.length ∧ a.length ≤ 5) := by omega
   simp [h]
 | succ d ih =>
  intro i hi
  have hw : wrap64 ((i : Int) + 1) = ((i + 1 : Nat) : Int) := by rw [w64 (by omega) (by omega)]; omega
  have hlt : i < b.length := by omega
  refine Ev.step (fun k => by rw [spec_PictureValid.l1]) ?_
  rw [rdL_nat b i hlt, hw, List.drop_eq_getElem_cons hlt, List.all_cons]
  refine Ev.ifp (by omega) (Ev.ifp (by omega) (Ev.bind (spec_clue _ _ (by have := hb _ (List.getElem_mem hlt); omega)) ?_))
  cases hc : clueV b[i] a.length
  ·exact Ev.ifn (by simp) (Ev.eq (Ev.now _) (by simp))
  ·exact Ev.ifp rfl (Ev.eq (ih (i + 1) (by omega)) (by simp))
theorem spec_pic_l0 (a b : List (List Int)) (ha : ∀ x ∈ a, x.length ≤ 1048576) (hal : a.length ≤ 1048576) (hb : ∀ x ∈ b, x.length ≤ 1048576) (hl : b.length ≤ 1048576) : ∀ (d i : Nat), a.length = i + d →
  Ev (fun k => spec_PictureValid.l0 k i a b) ((a.drop i).all (fun c => clueV c b.length) && (b.all (fun c => clueV c a.length) && (decide (1 ≤ a.length ∧ a.length ≤ 5) && decide (1 ≤ b.length ∧ b.length ≤ 5)))) := by
 intro d
 induction d with
 | zero =>
  intro i hi
  have h1 : Ev (fun k => spec_PictureValid.l1 k 0 a b) _ := spec_pic_l1 a b hb hl b.length 0 (by omega)
  refine Ev.step (fun k => by rw [spec_PictureValid.l0]) (Ev.ifn (by omega) (Ev.eq h1 ?_))
  rw [List.drop_eq_nil_of_le (show a.length ≤ i by omega)]; simp
 | succ d ih =>
  intro i hi
  have hw : wrap64 ((i : Int) + 1) = ((i + 1 : Nat) : Int) := by rw [w64 (by omega) (by omega)]; omega
  have hlt : i < a.length := by omega
  refine Ev.step (fun k => by rw [spec_PictureValid.l0]) ?_
  rw [rdL_nat a i hlt, hw, List.drop_eq_getElem_cons hlt, List.all_cons]
  refine Ev.ifp (by omega) (Ev.ifp (by omega) (Ev.bind (spec_clue _ _ (by have := ha _ (List.getElem_mem hlt); omega)) ?_))
  cases hc : clueV a[i] b.length
  ·exact Ev.ifn (by simp) (Ev.eq (Ev.now _) (by simp))
  ·exact Ev.ifp rfl (Ev.eq (ih (i + 1) (by omega)) (by simp))
theorem spec_pic (a b : List (List Int)) (ha : ∀ x ∈ a, x.length ≤ 1048576) (hal : a.length ≤ 1048576) (hb : ∀ x ∈ b, x.length ≤ 1048576) (hl : b.length ≤ 1048576) : Ev (fun k => spec_PictureValid.f k a b) (picV a b) := by
 unfold spec_PictureValid.f
 refine Ev.eq (spec_pic_l0 a b ha hal hb hl a.length 0 (by omega)) ?_
 rw [List.drop_zero]; unfold picV
 ac_rfl
/-- The clue of a line, r cells being filled ahead of it. -/
def clueR : Int → List Bool → List Int
 | r, [] => if 0 < r then [r] else []
 | r, true :: l => clueR (r + 1) l
 | r, false :: l => if 0 < r then r :: clueR 0 l else clueR 0 l
/-- What ClueOf answers. -/
def clueL (l : List Bool) : List Int := if l.length ≤ 8 then clueR 0 l else []
theorem rdOf_nat (xs : List Bool) (i : Nat) (h : i < xs.length) : rdOf false xs (i : Int) = xs[i] := by
 simp [rdOf, List.getD_eq_getElem?_getD, h]
theorem clueR_f : ∀ (l : List Bool) (r : Int), clueR r (l ++ [false]) = clueR r l := by
 intro l
 induction l with
 | nil => intro r; simp [clueR]
 | cons b l ih =>
  intro r
  cases b
  ·simp only [List.cons_append, clueR, ih]
  ·simp only [List.cons_append, clueR, ih]
theorem clueR_ft : ∀ (l : List Bool) (r : Int), clueR r (l ++ [false] ++ [true]) = clueR r l ++ [1] := by
 intro l
 induction l with
 | nil =>
  intro r
  by_cases h : 0 < r <;> simp [clueR, h]
 | cons b l ih =>
  intro r
  cases b
  ·simp only [List.cons_append, clueR]
   rw [ih]
   by_cases h : 0 < r <;> simp [h]
  ·simp only [List.cons_append, clueR]
   exact ih _
theorem clueR_tt : ∀ (l : List Bool) (r : Int), 0 ≤ r → ∃ ys z, clueR r (l ++ [true]) = ys ++ [z] ∧ clueR r (l ++ [true] ++ [true]) = ys ++ [z + 1] := by
 intro l
 induction l with
 | nil =>
  intro r hr
  refine ⟨[], r + 1, ?_, ?_⟩
  ·simp [clueR]; omega
  ·simp [clueR]; omega
 | cons b l ih =>
  intro r hr
  cases b
  ·obtain ⟨ys, z, h1, h2⟩ := ih 0 (by omega)
   by_cases h : 0 < r
   ·refine ⟨r :: ys, z, ?_, ?_⟩
    ·simp only [List.cons_append, clueR, h, if_true, h1]
    ·simp only [List.cons_append, clueR, h, if_true]
     rw [h2]
   ·refine ⟨ys, z, ?_, ?_⟩
    ·simp only [List.cons_append, clueR, h, if_false, h1]
    ·simp only [List.cons_append, clueR, h, if_false]
     rw [h2]
  ·obtain ⟨ys, z, h1, h2⟩ := ih (r + 1) (by omega)
   exact ⟨ys, z, by simpa only [List.cons_append, clueR] using h1, by simpa only [List.cons_append, clueR] using h2⟩
theorem clueR_le : ∀ (l : List Bool) (r : Int), 0 ≤ r → ∀ x ∈ clueR r l, 1 ≤ x ∧ x ≤ r + l.length := by
 intro l
 induction l with
 | nil =>
  intro r hr x hx
  simp only [clueR] at hx
  split at hx
  ·simp at hx; simp; omega
  ·simp at hx
 | cons b l ih =>
  intro r hr x hx
  cases b
  ·simp only [clueR] at hx
   split at hx
   ·rcases List.mem_cons.1 hx with hx | hx
    ·simp; omega
    ·have := ih 0 (by omega) x hx; simp; omega
   ·have := ih 0 (by omega) x hx; simp; omega
  ·simp only [clueR] at hx
   have := ih (r + 1) (by omega) x hx; simp; omega
theorem clueR_len : ∀ (l : List Bool) (r : Int), (clueR r l).length ≤ l.length + 1 := by
 intro l
 induction l with
 | nil => intro r; simp only [clueR]; split <;> simp
 | cons b l ih =>
  intro r
  cases b
  ·simp only [clueR]
   have := ih 0
   split <;> (simp; omega)
  ·simp only [clueR]
   have := ih (r + 1)
   simp; omega
theorem clueL_len (l : List Bool) : (clueL l).length ≤ 9 := by
 unfold clueL
 split
 ·have := clueR_len l 0; omega
 ·simp
def onesL (l : List Bool) : Int := (l.countP id : Nat)
theorem sameInts_l (a b : List Int) (h : a.length = b.length) (hl : a.length ≤ 140737488351232) : ∀ (d i : Nat), a.length = i + d → Ev (fun k => laws_sameInts.l0 k a b i) (decide (a.drop i = b.drop i)) := by
 intro d
 induction d with
 | zero =>
  intro i hi
  refine Ev.step (f := fun _ => some (decide (a.drop i = b.drop i))) (fun k => ?_) (Ev.now _)
  rw [laws_sameInts.l0]; rw [if_neg (by omega), List.drop_eq_nil_of_le (by omega), List.drop_eq_nil_of_le (by omega)]; simp
 | succ d ih =>
  intro i hi
  have ha : i < a.length := by omega
  have hb : i < b.length := by omega
  have hw : wrap64 ((i : Int) + 1) = ((i + 1 : Nat) : Int) := by rw [w64 (by omega) (by omega)]; omega
  by_cases c : a[i] = b[i]
  ·refine Ev.step (f := fun k => laws_sameInts.l0 k a b ((i + 1 : Nat) : Int)) (fun k => ?_) ((ih (i + 1) (by omega)).eq ?_)
   ·rw [laws_sameInts.l0]; rw [if_pos (by omega), if_pos (by omega), if_pos (by omega), rd_nat a i ha, rd_nat b i hb, if_pos c, hw]
   ·rw [List.drop_eq_getElem_cons ha, List.drop_eq_getElem_cons hb, c]; simp only [List.cons.injEq, true_and]
  ·refine Ev.step (f := fun k => some false) (fun k => ?_) ((Ev.now _).eq ?_)
   ·rw [laws_sameInts.l0]; rw [if_pos (by omega), if_pos (by omega), if_pos (by omega), rd_nat a i ha, rd_nat b i hb, if_neg c]
   ·rw [List.drop_eq_getElem_cons ha, List.drop_eq_getElem_cons hb]; simp only [List.cons.injEq, c, false_and, decide_false]
theorem sameInts_ev (a b : List Int) (hl : a.length ≤ 140737488351232) : Ev (fun k => laws_sameInts.f k a b) (decide (a = b)) := by
 unfold laws_sameInts.f
 by_cases h : a.length = b.length
 ·exact Ev.ifp (by omega) ((sameInts_l a b h hl a.length 0 (by omega)).eq (by simp))
 ·refine Ev.ifn (by omega) ((Ev.now false).eq ?_)
  symm; simp; intro e; exact h (by rw [e])
theorem sameInts_self (a : List Int) (hl : a.length ≤ 140737488351232) : Ev (fun k => laws_sameInts.f k a a) true := (sameInts_ev a a hl).eq (by simp)
theorem spec_clueof_end (l : List Bool) (out : List Int) (run : Int) (h8 : l.length ≤ 8) : Ev (fun k => spec_ClueOf.l0 k l out run ((l.length + 1 : Nat) : Int)) out := by
 refine Ev.step (fun k => by rw [spec_ClueOf.l0]) (Ev.ifn (by omega) ?_)
 exact Ev.step (fun k => by rw [spec_ClueOf.j1]) (Ev.ifn (by decide) (Ev.now _))
theorem spec_clueof_l (l : List Bool) (h8 : l.length ≤ 8) : ∀ (d i : Nat) (run : Int) (out : List Int), l.length = i + d → 0 ≤ run → run ≤ i → out.length ≤ i →
  Ev (fun k => spec_ClueOf.l0 k l out run i) (out ++ clueR run (l.drop i)) := by
 intro d
 induction d with
 | zero =>
  intro i run out hi h0 h1 h2
  have hw : wrap64 ((i : Int) + 1) = ((l.length + 1 : Nat) : Int) := by rw [w64 (by omega) (by omega)]; omega
  refine Ev.step (fun k => by rw [spec_ClueOf.l0]) (Ev.ifp (by omega) ?_)
  refine Ev.step (fun k => by rw [spec_ClueOf.j1]) (Ev.ifp (by simp; omega) (Ev.ifn (by omega) ?_))
  refine Ev.step (fun k => by rw [spec_ClueOf.j2]) (Ev.ifn (by decide) ?_)
  rw [hw, List.drop_eq_nil_of_le (by omega)]
  by_cases c : run > 0
  ·refine Ev.ifp c (Ev.ifp (by omega) (Ev.eq (spec_clueof_end l _ _ h8) ?_))
   simp [clueR, show 0 < run from c]
  ·refine Ev.ifn c (Ev.eq (spec_clueof_end l _ _ h8) ?_)
   have : ¬ 0 < run := c
   simp [clueR, this]
 | succ d ih =>
  intro i run out hi h0 h1 h2
  have hlt : i < l.length := by omega
  have hw : wrap64 ((i : Int) + 1) = ((i + 1 : Nat) : Int) := by rw [w64 (by omega) (by omega)]; omega
  refine Ev.step (fun k => by rw [spec_ClueOf.l0]) (Ev.ifp (by omega) ?_)
  refine Ev.step (fun k => by rw [spec_ClueOf.j1]) (Ev.ifp (by simp; omega) (Ev.ifp (by omega) (Ev.ifp (by omega) ?_)))
  refine Ev.step (fun k => by rw [spec_ClueOf.j2]) ?_
  rw [hw, rdOf_nat l i hlt, List.drop_eq_getElem_cons hlt]
  cases hb : l[i]
  ·refine Ev.ifn (by decide) ?_
   by_cases c : run > 0
   ·refine Ev.ifp c (Ev.ifp (by omega) (Ev.eq (ih (i + 1) 0 (out ++ [run]) (by omega) (by omega) (by omega) (by simp; omega)) ?_))
    simp [clueR, show 0 < run from c]
   ·have hr : run = 0 := by omega
    refine Ev.ifn c (Ev.eq (ih (i + 1) run out (by omega) (by omega) (by omega) (by omega)) ?_)
    simp [clueR, hr]
  ·refine Ev.ifp rfl ?_
   rw [w64 (x := run + 1) (by omega) (by omega)]
   refine Ev.eq (ih (i + 1) (run + 1) out (by omega) (by omega) (by omega) (by omega)) ?_
   simp [clueR]
theorem spec_clueof (l : List Bool) (hl : l.length ≤ 140737488351232) : Ev (fun k => spec_ClueOf.f k l) (clueL l) := by
 unfold spec_ClueOf.f clueL
 by_cases h8 : l.length ≤ 8
 ·exact Ev.eq (spec_clueof_l l h8 l.length 0 0 [] (by omega) (by omega) (by omega) (by simp)) (by rw [if_pos h8]; simp)
 ·refine Ev.step (fun k => by rw [spec_ClueOf.l0]) (Ev.ifp (by omega) ?_)
  exact Ev.step (fun k => by rw [spec_ClueOf.j1]) (Ev.ifn (by simp; omega) (Ev.eq (Ev.now _) (by rw [if_neg h8])))
theorem impl_clueof_l (l : List Bool) (h8 : l.length ≤ 8) : ∀ (d i : Nat), l.length = i + d →
  Ev (fun k => impl_ClueOf.l0 k l (clueR 0 (l.take i)) l l.length i) (clueR 0 l) := by
 intro d
 induction d with
 | zero =>
  intro i hi
  refine Ev.step (fun k => by rw [impl_ClueOf.l0]) (Ev.ifn (by omega) (Ev.eq (Ev.now _) ?_))
  rw [List.take_of_length_le (by omega)]
 | succ d ih =>
  intro i hi
  have hlt : i < l.length := by omega
  have hw : wrap64 ((i : Int) + 1) = ((i + 1 : Nat) : Int) := by rw [w64 (by omega) (by omega)]; omega
  have hlen := clueR_len (l.take i) 0
  rw [List.length_take] at hlen
  have h1 := ih (i + 1) (by omega)
  have ht : l.take (i + 1) = l.take i ++ [l[i]] := by rw [List.take_succ_eq_append_getElem hlt]
  refine Ev.step (fun k => by rw [impl_ClueOf.l0]) (Ev.ifp (by omega) (Ev.ifp (by omega) (Ev.ifp (by omega) ?_)))
  rw [hw, rdOf_nat l i hlt]
  cases hb : l[i]
  ·refine Ev.ifn (by decide) ?_
   rw [ht, hb, clueR_f] at h1
   exact h1
  ·refine Ev.ifp rfl ?_
   by_cases c : (i : Int) > 0
   ·have hlt1 : i - 1 < l.length := by omega
    have hw1 : wrap64 ((i : Int) - 1) = ((i - 1 : Nat) : Int) := by rw [w64 (by omega) (by omega)]; omega
    have ht1 : l.take i = l.take (i - 1) ++ [l[i - 1]] := by
     have := List.take_succ_eq_append_getElem hlt1
     rw [show i - 1 + 1 = i by omega] at this
     exact this
    rw [hw1, rdOf_nat l (i - 1) hlt1]
    refine Ev.ifp c (Ev.ifp (by omega) (Ev.ifp (by omega) ?_))
    cases hb1 : l[i - 1]
    ·refine Ev.ifn (by decide) (Ev.ifp (by omega) ?_)
     rw [ht, hb, ht1, hb1, clueR_ft] at h1
     rw [ht1, hb1, clueR_f]
     exact h1
    ·obtain ⟨ys, z, g1, g2⟩ := clueR_tt (l.take (i - 1)) 0 (by omega)
     have e1 : clueR 0 (l.take i) = ys ++ [z] := by rw [ht1, hb1]; exact g1
     have e2 : clueR 0 (l.take (i + 1)) = ys ++ [z + 1] := by rw [ht, hb, ht1, hb1]; exact g2
     have hz := clueR_le (l.take i) 0 (by omega) z (by rw [e1]; simp)
     rw [List.length_take] at hz
     rw [e1] at hlen ⊢
     rw [e2] at h1
     have hyl : (ys ++ [z]).length = ys.length + 1 := by simp
     have hw2 : wrap64 (((ys ++ [z]).length : Int) - 1) = ((ys.length : Nat) : Int) := by rw [w64 (by omega) (by omega)]; omega
     have hr : rd (ys ++ [z]) ((ys.length : Nat) : Int) = z := by rw [rd_nat _ _ (by omega)]; simp
     rw [hw2, hr, w64 (x := z + 1) (by omega) (by omega)]
     refine Ev.ifp rfl (Ev.ifp (by omega) (Ev.ifp (by omega) ?_))
     have hs : (ys ++ [z]).set ((ys.length : Nat) : Int).toNat (z + 1) = ys ++ [z + 1] := by
      rw [Int.toNat_natCast, List.set_append_right _ _ (Nat.le_refl _)]; simp
     rw [hs]; exact h1
   ·have hi0 : i = 0 := by omega
    subst hi0
    refine Ev.ifn c (Ev.ifp (by omega) ?_)
    rw [ht, hb] at h1
    simpa [clueR] using h1
theorem impl_clueof (l : List Bool) (hl : l.length ≤ 140737488351232) : Ev (fun k => impl_ClueOf.f k l) (clueL l) := by
 unfold impl_ClueOf.f clueL
 by_cases h8 : l.length ≤ 8
 ·refine Ev.ifn (by omega) (Ev.eq (?_ : Ev _ (clueR 0 l)) (by rw [if_pos h8]))
  have := impl_clueof_l l h8 l.length 0 (by omega)
  simpa [clueR] using this
 ·exact Ev.ifp (by omega) (Ev.eq (Ev.now _) (by rw [if_neg h8]))
/-! PictureOf, exactly. -/
theorem rdB_nat (xs : List (List Bool)) (i : Nat) (h : i < xs.length) : rd_L3 xs (i : Int) = xs[i] := by
 simp [rd_L3, List.getD_eq_getElem?_getD, h]
def colB (l : List (List Bool)) (c : Nat) : List Bool := l.map (fun r => r.getD c false)
def colsV (l : List (List Bool)) (W : Nat) : List (List Int) := (List.range W).map (fun c => clueL (colB l c))
def picOfV (l : List (List Bool)) : List (List Int) × List (List Int) × Bool :=
 if 1 ≤ l.length ∧ l.length ≤ 5 ∧ 1 ≤ (l.getD 0 []).length ∧ (l.getD 0 []).length ≤ 5 ∧ ∀ x ∈ l, x.length = (l.getD 0 []).length then (l.map clueL, colsV l (l.getD 0 []).length, true) else ([], [], false)
theorem colB_length (l : List (List Bool)) (c : Nat) : (colB l c).length = l.length := by simp [colB]
theorem colB_take (l : List (List Bool)) (c i : Nat) (h : i < l.length) : colB (l.take (i + 1)) c = colB (l.take i) c ++ [(l[i]).getD c false] := by
 unfold colB; rw [List.take_succ_eq_append_getElem h, List.map_append]; rfl
theorem colsV_succ (l : List (List Bool)) (W : Nat) : colsV l (W + 1) = colsV l W ++ [clueL (colB l W)] := by simp [colsV, List.range_succ]
theorem colsV_length (l : List (List Bool)) (W : Nat) : (colsV l W).length = W := by simp [colsV]
theorem get0 (l : List (List Bool)) (h : 0 < l.length) : rd_L3 l 0 = l.getD 0 [] := by
 rw [show rd_L3 l 0 = l[0] from rdB_nat l 0 h, List.getD_eq_getElem?_getD, List.getElem?_eq_getElem h]; rfl
theorem getB (r : List Bool) (c : Nat) (h : c < r.length) : rdOf false r (c : Int) = r.getD c false := by
 rw [rdOf_nat r c h, List.getD_eq_getElem?_getD, List.getElem?_eq_getElem h]; rfl
theorem picofi_l2 (l : List (List Bool)) (hl : l.length ≤ 100) (c : Nat) (hx : ∀ x ∈ l, c < x.length) (W : Int) (A B : List (List Int)) (hB : B.length ≤ 1000) (r : List (List Int) × List (List Int) × Bool)
  (K : Ev (fun k => impl_PictureOf.l1 k l W (wrap64 ((c : Int) + 1)) A (B ++ [clueL (colB l c)])) r) : ∀ (d i : Nat), l.length = i + d → Ev (fun k => impl_PictureOf.l2 k l c (colB (l.take i) c) W c l l.length i A B) r := by
 intro d
 induction d with
 | zero =>
  intro i hi
  refine Ev.step (fun k => by rw [impl_PictureOf.l2]) (Ev.ifn (by omega) ?_)
  rw [List.take_of_length_le (by omega)]
  exact Ev.bind (impl_clueof (colB l c) (by rw [colB_length]; omega)) (Ev.ifp (by omega) K)
 | succ d ih =>
  intro i hi
  have hw : wrap64 ((i : Int) + 1) = ((i + 1 : Nat) : Int) := by rw [w64 (by omega) (by omega)]; omega
  have hlt : i < l.length := by omega
  have h1 := hx _ (List.getElem_mem hlt)
  have hr := ih (i + 1) (by omega)
  rw [colB_take l c i hlt] at hr
  refine Ev.step (fun k => by rw [impl_PictureOf.l2]) ?_
  rw [rdB_nat l i hlt, hw, getB _ _ h1]
  exact Ev.ifp (by omega) (Ev.ifp (by omega) (Ev.ifp (by omega) (Ev.ifp (by omega) (Ev.ifp (by omega) (Ev.ifp (by rw [colB_length, List.length_take]; omega) hr)))))
theorem picofi_l1 (l : List (List Bool)) (hl : l.length ≤ 5) (hl1 : 1 ≤ l.length) (hx : ∀ x ∈ l, x.length = (l.getD 0 []).length) (hW : (l.getD 0 []).length ≤ 5) (A : List (List Int)) : ∀ (d c : Nat), (l.getD 0 []).length = c + d →
  Ev (fun k => impl_PictureOf.l1 k l (l.getD 0 []).length c A (colsV l c)) (A, colsV l (l.getD 0 []).length, true) := by
 intro d
 induction d with
 | zero =>
  intro c hc
  refine Ev.step (fun k => by rw [impl_PictureOf.l1]) ?_
  refine Ev.ifn (by omega) (Ev.eq (Ev.now _) ?_)
  rw [show c = (l.getD 0 []).length by omega]
 | succ d ih =>
  intro c hc
  have hw : wrap64 ((c : Int) + 1) = ((c + 1 : Nat) : Int) := by rw [w64 (by omega) (by omega)]; omega
  have h := ih (c + 1) (by omega)
  rw [colsV_succ] at h
  refine Ev.step (fun k => by rw [impl_PictureOf.l1]) ?_
  refine Ev.ifp (by omega) ?_
  have h2 := picofi_l2 l (by omega) c (fun x hx2 => by rw [hx x hx2]; omega) (((l.getD 0 []).length : Nat) : Int) A (colsV l c) (by rw [colsV_length]; omega) _ (by rw [hw]; exact h) l.length 0 (by omega)
  exact h2
theorem picofi_l0 (l : List (List Bool)) (hl : l.length ≤ 5) (hl1 : 1 ≤ l.length) (hxb : ∀ x ∈ l, x.length ≤ 100) (hW : (l.getD 0 []).length ≤ 5) : ∀ (d i : Nat), l.length = i + d → (∀ x ∈ l.take i, x.length = (l.getD 0 []).length) →
  Ev (fun k => impl_PictureOf.l0 k l l l.length i ((l.take i).map clueL)) (if ∀ x ∈ l, x.length = (l.getD 0 []).length then (l.map clueL, colsV l (l.getD 0 []).length, true) else ([], [], false)) := by
 intro d
 induction d with
 | zero =>
  intro i hi hp
  rw [List.take_of_length_le (by omega)] at hp ⊢
  rw [if_pos hp]
  refine Ev.step (fun k => by rw [impl_PictureOf.l0]) ?_
  rw [get0 l (by omega)]
  have h1 := picofi_l1 l hl hl1 hp hW (l.map clueL) (l.getD 0 []).length 0 (by omega)
  exact Ev.ifn (by omega) (Ev.ifp (by omega) h1)
 | succ d ih =>
  intro i hi hp
  have hw : wrap64 ((i : Int) + 1) = ((i + 1 : Nat) : Int) := by rw [w64 (by omega) (by omega)]; omega
  have hlt : i < l.length := by omega
  have h0 := hxb _ (List.getElem_mem hlt)
  refine Ev.step (fun k => by rw [impl_PictureOf.l0]) ?_
  rw [rdB_nat l i hlt, get0 l (by omega), hw]
  refine Ev.ifp (by omega) (Ev.ifp (by omega) (Ev.ifp (by omega) (Ev.ifp (by omega) ?_)))
  by_cases c : l[i].length = (l.getD 0 []).length
  ·refine Ev.ifp (by omega) ?_
   refine Ev.bind (impl_clueof l[i] (by omega)) (Ev.ifp (by rw [List.length_map, List.length_take]; omega) ?_)
   have h := ih (i + 1) (by omega) (by
    intro x hx
    rw [List.take_succ_eq_append_getElem hlt] at hx
    rcases List.mem_append.1 hx with h | h
    ·exact hp x h
    ·rw [List.mem_singleton.1 h]; exact c)
   rw [show (l.take (i + 1)).map clueL = (l.take i).map clueL ++ [clueL l[i]] by rw [List.take_succ_eq_append_getElem hlt, List.map_append]; rfl] at h
   exact h
  ·refine Ev.ifn (by omega) (Ev.eq (Ev.now _) ?_)
   rw [if_neg (fun h => c (h _ (List.getElem_mem hlt)))]
theorem picofi_ev (l : List (List Bool)) (hl : l.length ≤ 100) (hx : ∀ x ∈ l, x.length ≤ 100) : Ev (fun k => impl_PictureOf.f k l) (picOfV l) := by
 have bad : ∀ b : Bool, b = true → picOfV l = ([], [], false) → Ev (fun k => impl_PictureOf.j0 k l b) (picOfV l) := by
  intro b hb he
  refine Ev.step (fun k => by rw [impl_PictureOf.j0]) ?_
  exact Ev.ifp hb (Ev.eq (Ev.now _) he.symm)
 unfold impl_PictureOf.f
 by_cases c : (l.length : Int) < 1
 ·exact Ev.ifp c (bad _ rfl (by unfold picOfV; rw [if_neg (fun h => by have := h.1; omega)]))
 refine Ev.ifn c ?_
 by_cases c1 : (l.length : Int) > 5
 ·exact Ev.ifp c1 (bad _ rfl (by unfold picOfV; rw [if_neg (fun h => by have := h.2.1; omega)]))
 refine Ev.ifn c1 (Ev.ifp (by omega) ?_)
 rw [get0 l (by omega)]
 by_cases c2 : ((l.getD 0 []).length : Int) < 1
 ·exact Ev.ifp c2 (bad _ rfl (by unfold picOfV; rw [if_neg (fun h => by have := h.2.2.1; omega)]))
 refine Ev.ifn c2 ?_
 by_cases c3 : ((l.getD 0 []).length : Int) > 5
 ·exact bad _ (decide_eq_true c3) (by unfold picOfV; rw [if_neg (fun h => by have := h.2.2.2.1; omega)])
 ·rw [decide_eq_false c3]
  refine Ev.step (fun k => by rw [impl_PictureOf.j0]) ?_
  refine Ev.ifn (by simp) (Ev.eq (picofi_l0 l (by omega) (by omega) hx (by omega) l.length 0 (by omega) (by simp)) ?_)
  unfold picOfV
  by_cases c4 : ∀ x ∈ l, x.length = (l.getD 0 []).length
  ·rw [if_pos c4, if_pos ⟨by omega, by omega, by omega, by omega, c4⟩]
  ·rw [if_neg c4, if_neg (fun h => c4 h.2.2.2.2)]
/-! Binary digits. -/
def bit (m : Int) (d : Nat) : Int := m / 2 ^ d % 2
theorem shr_bit {m : Int} (h0 : 0 ≤ m) (d : Nat) (hd : d ≤ 64) : Int.tmod (shr .i64 m (d : Int)) 2 = bit m d := by
 have e : shr .i64 m (d : Int) = m / 2 ^ d := by
  unfold shr
  rw [show min (d : Int).toNat IntKind.i64.bits = d from by simp [IntKind.bits]; omega]
 rw [e, Int.tmod_eq_emod_of_nonneg (Int.ediv_nonneg h0 (Int.pow_nonneg (by decide)))]
 rfl
theorem shr_nat (m : Int) (d : Nat) (hd : d ≤ 64) : shr .i64 m (d : Int) = m / 2 ^ d := by
 unfold shr
 rw [show min (d : Int).toNat IntKind.i64.bits = d from by simp [IntKind.bits]; omega]
theorem and1_bit {x : Int} (h0 : 0 ≤ x) (h1 : x < 4611686018427387904) : Go.bits .and .i64 x 1 = x % 2 := by
 have := bits_mask .i64 62 (by decide) (fun n h h' => by rw [IntKind.wrap_i64]; omega) 1 (by decide) x h0 h1
 simpa using this
theorem bit_nat (a d : Nat) : bit (a : Int) d = if a.testBit d then 1 else 0 := by
 unfold bit
 rw [Nat.testBit_eq_decide_div_mod_eq]
 have e : ((a : Int) / 2 ^ d % 2) = ((a / 2 ^ d % 2 : Nat) : Int) := by push_cast; rfl
 rw [e]
 by_cases h : a / 2 ^ d % 2 = 1
 ·simp [h]
 ·have : a / 2 ^ d % 2 = 0 := by omega
  simp [this]
/-! The lines of a number of cells, by their numbers. -/
def lineN (m n : Nat) : List Bool := (List.range n).map (fun i => m.testBit i)
theorem lineN_length (m n : Nat) : (lineN m n).length = n := by simp [lineN]
theorem lineN_get (m n i : Nat) (h : i < (lineN m n).length) : (lineN m n)[i] = m.testBit i := by simp [lineN]
def bitI (m i : Nat) : Int := if m.testBit i then 1 else 0
/-- Does the line agree with what is known from cell i on? -/
def fitD (m : Nat) : Nat → List Int → Bool
 | _, [] => true
 | i, k :: ks => (decide (k < 0) || k == bitI m i) && fitD m (i + 1) ks
def isLine (clue kn : List Int) (m : Nat) : Bool := fitD m 0 kn && decide (clueL (lineN m kn.length) = clue)
def LFr (clue kn : List Int) (a d : Nat) : List Nat := (List.range' a d).filter (isLine clue kn)
def LF (clue kn : List Int) : List Nat := LFr clue kn 0 (2 ^ kn.length)
theorem LFr_cons (clue kn : List Int) (a d : Nat) : LFr clue kn a (d + 1) = if isLine clue kn a then a :: LFr clue kn (a + 1) d else LFr clue kn (a + 1) d := by
 unfold LFr
 rw [List.range'_succ, List.filter_cons]
theorem LFr_len (clue kn : List Int) (a d : Nat) : (LFr clue kn a d).length ≤ d := by
 have := List.length_filter_le (isLine clue kn) (List.range' a d)
 simpa [LFr] using this
theorem pow_le (n : Nat) (h : n ≤ 8) : 1 ≤ 2 ^ n ∧ 2 ^ n ≤ 256 := by
 have : n = 0 ∨ n = 1 ∨ n = 2 ∨ n = 3 ∨ n = 4 ∨ n = 5 ∨ n = 6 ∨ n = 7 ∨ n = 8 := by omega
 rcases this with rfl | rfl | rfl | rfl | rfl | rfl | rfl | rfl | rfl <;> decide
theorem shl_n (n : Nat) (h : n ≤ 8) : shl .i64 1 (n : Int) = ((2 ^ n : Nat) : Int) := by
 have : n = 0 ∨ n = 1 ∨ n = 2 ∨ n = 3 ∨ n = 4 ∨ n = 5 ∨ n = 6 ∨ n = 7 ∨ n = 8 := by omega
 rcases this with rfl | rfl | rfl | rfl | rfl | rfl | rfl | rfl | rfl <;> decide +kernel
theorem bit_eqI (m i : Nat) (hm : m < 4611686018427387904) (hi : i ≤ 64) : Go.bits .and .i64 (shr .i64 (m : Int) (i : Int)) 1 = bitI m i := by
 rw [shr_nat _ _ hi, and1_bit (Int.ediv_nonneg (by omega) (Int.pow_nonneg (by decide))) (by
  have : (m : Int) / 2 ^ i ≤ m := Int.ediv_le_self _ (by omega)
  omega)]
 exact bit_nat m i
theorem bitI_beq (m i : Nat) : (bitI m i == 1) = m.testBit i := by
 unfold bitI; cases m.testBit i <;> rfl
theorem impl_lineOf_l (m n : Nat) (hm : m < 4611686018427387904) (hn : n ≤ 60) : ∀ (d i : Nat) (ys : List Bool), ys.length = n → n = i + d →
  Ev (fun k => impl_lineOf.l0 k m ys n i) (ys.take i ++ (lineN m n).drop i) := by
 intro d
 induction d with
 | zero =>
  intro i ys hy hi
  refine Ev.step (fun k => by rw [impl_lineOf.l0]) (Ev.ifn (by omega) (Ev.eq (Ev.now _) ?_))
  rw [List.take_of_length_le (by omega), List.drop_eq_nil_of_le (by rw [lineN_length]; omega)]; simp
 | succ d ih =>
  intro i ys hy hi
  have hw : wrap64 ((i : Int) + 1) = ((i + 1 : Nat) : Int) := by rw [w64 (by omega) (by omega)]; omega
  refine Ev.step (fun k => by rw [impl_lineOf.l0]) (Ev.ifp (by omega) (Ev.ifp (by omega) (Ev.ifp (by omega) ?_)))
  rw [hw, bit_eqI m i hm (by omega), bitI_beq, Int.toNat_natCast]
  refine Ev.eq (ih (i + 1) (ys.set i (m.testBit i)) (by simp [hy]) (by omega)) ?_
  rw [List.take_add_one, List.take_set_of_le (Nat.le_refl i), List.drop_eq_getElem_cons (l := lineN m n) (i := i) (by rw [lineN_length]; omega), lineN_get]
  simp [show i < ys.length by omega]
theorem impl_lineOf_ev (m n : Nat) (hm : m < 4611686018427387904) (hn : n ≤ 60) : Ev (fun k => impl_lineOf.f k m n) (lineN m n) := by
 unfold impl_lineOf.f
 refine Ev.ifp (by omega) (Ev.ifp (by omega) (Ev.bindc rfl ?_))
 have := impl_lineOf_l m n hm hn n 0 (List.replicate n false) (by simp) (by omega)
 simpa using this
theorem equal_l (a b : List Int) (h : a.length = b.length) (hl : a.length ≤ 140737488351232) : ∀ (d i : Nat), a.length = i + d → Ev (fun k => slices_Equal_int_int.l0 k a b a.length i) (decide (a.drop i = b.drop i)) := by
 intro d
 induction d with
 | zero =>
  intro i hi
  refine Ev.step (fun k => by rw [slices_Equal_int_int.l0]) (Ev.ifn (by omega) (Ev.eq (Ev.now _) ?_))
  rw [List.drop_eq_nil_of_le (by omega), List.drop_eq_nil_of_le (by omega)]; simp
 | succ d ih =>
  intro i hi
  have ha : i < a.length := by omega
  have hb : i < b.length := by omega
  have hw : wrap64 ((i : Int) + 1) = ((i + 1 : Nat) : Int) := by rw [w64 (by omega) (by omega)]; omega
  refine Ev.step (fun k => by rw [slices_Equal_int_int.l0]) (Ev.ifp (by omega) (Ev.ifp (by omega) (Ev.ifp (by omega) (Ev.ifp (by omega) ?_))))
  rw [rd_nat a i ha, rd_nat b i hb, hw, List.drop_eq_getElem_cons ha, List.drop_eq_getElem_cons hb]
  by_cases c : a[i] = b[i]
  ·exact Ev.ifp c (Ev.eq (ih (i + 1) (by omega)) (by rw [c]; simp only [List.cons.injEq, true_and]))
  ·exact Ev.ifn c (Ev.eq (Ev.now _) (by simp only [List.cons.injEq, c, false_and, decide_false]))
theorem equal_ev (a b : List Int) (hl : a.length ≤ 140737488351232) : Ev (fun k => slices_Equal_int_int.f k a b) (decide (a = b)) := by
 unfold slices_Equal_int_int.f
 by_cases h : a.length = b.length
 ·exact Ev.ifp (by omega) (Ev.eq (equal_l a b h hl a.length 0 (by omega)) (by simp))
 ·refine Ev.ifn (by omega) (Ev.eq (Ev.now false) ?_)
  symm; simp; intro e; exact h (by rw [e])
theorem impl_fits (clue kn acc : List Int) (m N : Nat) (hm : m < 4611686018427387904) (hk : kn.length ≤ 60) (r : List Int) : ∀ (d i : Nat) (fl : Bool), kn.length = i + d →
  Ev (fun k => impl_linesFor.l1 k clue kn acc m (fl && fitD m i (kn.drop i)) N m kn kn.length kn.length) r →
  Ev (fun k => impl_linesFor.l1 k clue kn acc m fl N m kn kn.length i) r := by
 intro d
 induction d with
 | zero =>
  intro i fl hi H
  rw [List.drop_eq_nil_of_le (by omega)] at H
  have : kn.length = i := by omega
  rw [this] at H ⊢
  simpa [fitD] using H
 | succ d ih =>
  intro i fl hi H
  have hlt : i < kn.length := by omega
  have hw : wrap64 ((i : Int) + 1) = ((i + 1 : Nat) : Int) := by rw [w64 (by omega) (by omega)]; omega
  rw [List.drop_eq_getElem_cons hlt] at H
  refine Ev.step (fun k => by rw [impl_linesFor.l1]) (Ev.ifp (by omega) (Ev.ifp (by omega) (Ev.ifp (by omega) ?_)))
  rw [rd_nat kn i hlt, hw, bit_eqI m i hm (by omega)]
  cases fl
  ·refine Ev.ifn (by decide) (ih (i + 1) false (by omega) ?_)
   simpa using H
  ·refine Ev.ifp rfl ?_
   by_cases c : kn[i] < 0
   ·refine Ev.ifp c (ih (i + 1) true (by omega) ?_)
    simpa [fitD, c] using H
   ·refine Ev.ifn c (ih (i + 1) _ (by omega) ?_)
    simpa [fitD, c] using H
theorem impl_linesFor_l (clue kn : List Int) (hk : kn.length ≤ 8) : ∀ (d m : Nat) (acc : List Int), m + d = 2 ^ kn.length → acc.length + d ≤ 600 →
  Ev (fun k => impl_linesFor.l0 k clue kn acc ((2 ^ kn.length : Nat) : Int) m) (acc ++ (LFr clue kn m d).map (fun x : Nat => (x : Int))) := by
 have hp := pow_le _ hk
 intro d
 induction d with
 | zero =>
  intro m acc hm ha
  exact Ev.step (fun k => by rw [impl_linesFor.l0]) (Ev.ifn (by omega) (Ev.eq (Ev.now _) (by simp [LFr])))
 | succ d ih =>
  intro m acc hm ha
  have hw : wrap64 ((m : Int) + 1) = ((m + 1 : Nat) : Int) := by rw [w64 (by omega) (by omega)]; omega
  refine Ev.step (fun k => by rw [impl_linesFor.l0]) (Ev.ifp (by omega) ?_)
  refine impl_fits clue kn acc m (2 ^ kn.length) (by omega) (by omega) _ kn.length 0 true (by omega) ?_
  refine Ev.step (fun k => by rw [impl_linesFor.l1]) (Ev.ifn (by omega) ?_)
  rw [hw, LFr_cons, List.drop_zero, Bool.true_and]
  unfold isLine
  by_cases c : fitD m 0 kn = true
  ·rw [c, Bool.true_and]
   refine Ev.ifp rfl (Ev.bind (impl_lineOf_ev m kn.length (by omega) (by omega)) (Ev.bind (impl_clueof _ (by rw [lineN_length]; omega)) (Ev.bind (equal_ev _ _ (by have := clueL_len (lineN m kn.length); omega)) ?_)))
   by_cases c2 : clueL (lineN m kn.length) = clue
   ·refine Ev.ifp (by simpa using c2) (Ev.ifp (by omega) (Ev.eq (ih (m + 1) (acc ++ [(m : Int)]) (by omega) (by simp; omega)) ?_))
    simp [c2]
   ·refine Ev.ifn (by simpa using c2) (Ev.eq (ih (m + 1) acc (by omega) (by omega)) ?_)
    simp [c2]
  ·refine Ev.ifn c (Ev.eq (ih (m + 1) acc (by omega) (by omega)) ?_)
   simp [c]
theorem impl_linesFor_ev (clue kn : List Int) (hk : kn.length ≤ 8) : Ev (fun k => impl_linesFor.f k clue kn) ((LF clue kn).map (fun x : Nat => (x : Int))) := by
 have hp := pow_le _ hk
 unfold impl_linesFor.f
 rw [shl_n _ hk]
 have := impl_linesFor_l clue kn hk (2 ^ kn.length) 0 [] (by omega) (by simp; omega)
 simpa [LF] using this
/-- What KnownValid answers. -/
def knownV (l : List Int) : Bool := l.all (fun x => decide (-1 ≤ x ∧ x ≤ 1)) && decide (1 ≤ (l.length : Int) ∧ (l.length : Int) ≤ 8)
theorem impl_known_l (l : List Int) (hl : l.length ≤ 140737488351232) : ∀ (d i : Nat), l.length = i + d →
  Ev (fun k => impl_KnownValid.l0 k l l l.length i) ((l.drop i).all (fun x => decide (-1 ≤ x ∧ x ≤ 1)) && decide (1 ≤ (l.length : Int) ∧ (l.length : Int) ≤ 8)) := by
 intro d
 induction d with
 | zero =>
  intro i hi
  refine Ev.step (fun k => by rw [impl_KnownValid.l0]) (Ev.ifn (by omega) ?_)
  rw [List.drop_eq_nil_of_le (by omega)]
  by_cases c : (l.length : Int) ≥ 1
  ·exact Ev.ifp c (Ev.eq (Ev.now _) (by simp; omega))
  ·exact Ev.ifn c (Ev.eq (Ev.now _) (by simp; omega))
 | succ d ih =>
  intro i hi
  have hlt : i < l.length := by omega
  have hw : wrap64 ((i : Int) + 1) = ((i + 1 : Nat) : Int) := by rw [w64 (by omega) (by omega)]; omega
  refine Ev.step (fun k => by rw [impl_KnownValid.l0]) ?_
  rw [rd_nat l i hlt, hw, List.drop_eq_getElem_cons hlt, List.all_cons]
  refine Ev.ifp (by omega) (Ev.ifp (by omega) (Ev.ifp (by omega) ?_))
  by_cases c1 : l[i] < -1
  ·exact Ev.ifp c1 (Ev.eq (Ev.now _) (by simp; omega))
  refine Ev.ifn c1 ?_
  by_cases c2 : l[i] > 1
  ·exact Ev.ifp c2 (Ev.eq (Ev.now _) (by simp; omega))
  ·have h : -1 ≤ l[i] ∧ l[i] ≤ 1 := by omega
   exact Ev.ifn c2 (Ev.eq (ih (i + 1) (by omega)) (by simp [h]))
theorem impl_known (l : List Int) (hl : l.length ≤ 140737488351232) : Ev (fun k => impl_KnownValid.f k l) (knownV l) := by
 unfold impl_KnownValid.f
 exact impl_known_l l hl l.length 0 (by omega)
/-- What LineWays answers. -/
def waysV (clue kn : List Int) : Int := if knownV kn = true ∧ clueV clue kn.length = true then ((LF clue kn).length : Int) else -1
theorem knownV_ok {kn : List Int} (h : knownV kn = true) : 1 ≤ kn.length ∧ kn.length ≤ 8 ∧ ∀ x ∈ kn, -1 ≤ x ∧ x ≤ 1 := by
 unfold knownV at h
 simp only [Bool.and_eq_true, decide_eq_true_eq, List.all_eq_true] at h
 exact ⟨by omega, by omega, h.1⟩
theorem impl_ways (clue kn : List Int) (h1 : clue.length ≤ 1000000000) (h2 : kn.length ≤ 1000000000) : Ev (fun k => impl_LineWays.f k clue kn) (waysV clue kn) := by
 unfold impl_LineWays.f waysV
 refine Ev.bind (impl_known kn (by omega)) ?_
 by_cases c1 : knownV kn = true
 ·refine Ev.ifp c1 (Ev.bind (impl_clue clue _ (by omega)) ?_)
  by_cases c2 : clueV clue kn.length = true
  ·exact Ev.ifp c2 (Ev.bind (impl_linesFor_ev clue kn (knownV_ok c1).2.1) (Ev.eq (Ev.now _) (by rw [if_pos ⟨c1, c2⟩]; simp)))
  ·exact Ev.ifn c2 (Ev.eq (Ev.now _) (by rw [if_neg (fun h => c2 h.2)]))
 ·exact Ev.ifn c1 (Ev.eq (Ev.now _) (by rw [if_neg (fun h => c1 h.1)]))
theorem fitD_iff (m : Nat) : ∀ (ks : List Int) (a : Nat), fitD m a ks = true ↔ ∀ j (h : j < ks.length), ks[j] < 0 ∨ ks[j] = bitI m (a + j) := by
 intro ks
 induction ks with
 | nil => intro a; simp [fitD]
 | cons k ks ih =>
  intro a
  simp only [fitD, Bool.and_eq_true, Bool.or_eq_true, decide_eq_true_eq, beq_iff_eq]
  rw [ih]
  constructor
  ·rintro ⟨h0, h1⟩ j hj
   cases j with
   | zero => simpa using h0
   | succ j =>
    have := h1 j (by simpa using hj)
    simpa [Nat.add_assoc, Nat.add_comm 1 j] using this
  ·intro h
   refine ⟨by have h0 := h 0 (by simp); rw [Nat.add_zero] at h0; exact h0, fun j hj => ?_⟩
   have := h (j + 1) (by simpa using hj)
   simpa [Nat.add_assoc, Nat.add_comm 1 j] using this
theorem bitI_01 (m j : Nat) : bitI m j = 0 ∨ bitI m j = 1 := by unfold bitI; split <;> simp
theorem LF_mem {clue kn : List Int} {m : Nat} : m ∈ LF clue kn ↔ m < 2 ^ kn.length ∧ isLine clue kn m = true := by
 unfold LF LFr
 rw [List.mem_filter, List.mem_range'_1]
 constructor
 ·rintro ⟨⟨_, h⟩, h2⟩; exact ⟨by omega, h2⟩
 ·rintro ⟨h, h2⟩; exact ⟨⟨by omega, by omega⟩, h2⟩
/-- A line with a clue. -/
def mkLine : List Int → Nat → List Bool
 | [], n => List.replicate n false
 | c :: cs, n => List.replicate c.toNat true ++ (if c.toNat < n then false :: mkLine cs (n - c.toNat - 1) else [])
/-- The number of a line. -/
def toN : List Bool → Nat
 | [] => 0
 | b :: l => 2 * toN l + (if b then 1 else 0)
theorem toN_bit : ∀ (l : List Bool) (i : Nat) (h : i < l.length), (toN l).testBit i = l[i] := by
 intro l
 induction l with
 | nil => intro i h; simp at h
 | cons b l ih =>
  intro i h
  cases i with
  | zero =>
   rw [Nat.testBit_zero]
   cases b <;> simp [toN] <;> omega
  | succ i =>
   rw [Nat.testBit_succ]
   have e : toN (b :: l) / 2 = toN l := by cases b <;> simp [toN] <;> omega
   rw [e]
   simpa using ih i (by simpa using h)
theorem toN_lt : ∀ (l : List Bool), toN l < 2 ^ l.length := by
 intro l
 induction l with
 | nil => simp [toN]
 | cons b l ih =>
  simp only [toN, List.length_cons, Nat.pow_succ]
  cases b <;> simp <;> omega
theorem lineN_toN (l : List Bool) : lineN (toN l) l.length = l := by
 apply List.ext_getElem
 ·exact lineN_length _ _
 ·intro i h1 h2
  rw [lineN_get, toN_bit l i h2]
theorem fit_free (m n : Nat) : fitD m 0 (List.replicate n (-1)) = true := by
 rw [fitD_iff]
 intro j hj
 left
 simp
/-! Picture puzzles: rows by their numbers. -/
def colN (ns : List Nat) (c : Nat) : List Bool := ns.map (fun m => m.testBit c)
/-- What is known of column c, when the first rows are ns. -/
def knC (R : Nat) (ns : List Nat) (c : Nat) : List Int := ns.map (fun m => bitI m c) ++ List.replicate (R - ns.length) (-1)
def badP (B : List (List Int)) (R : Nat) (ns : List Nat) : Bool := (List.range B.length).any (fun c => decide (LF (B.getD c []) (knC R ns c) = []))
def okG (B : List (List Int)) (ns : List Nat) : Bool := (List.range B.length).all (fun c => decide (clueL (colN ns c) = B.getD c []))
def rowsP (A : List (List Int)) (C r : Nat) : List Nat := LF (A.getD r []) (List.replicate C (-1))
def solsP (A B : List (List Int)) : Nat → List Nat → List (List Nat)
 | 0, ns => if badP B A.length ns = true then [] else [ns]
 | d + 1, ns => if badP B A.length ns = true then [] else (rowsP A B.length ns.length).flatMap (fun m => solsP A B d (ns ++ [m]))
def allP (A : List (List Int)) (C : Nat) : Nat → List Nat → List (List Nat)
 | 0, ns => [ns]
 | d + 1, ns => (rowsP A C ns.length).flatMap (fun m => allP A C d (ns ++ [m]))
theorem knC_length (R : Nat) (ns : List Nat) (c : Nat) (h : ns.length ≤ R) : (knC R ns c).length = R := by simp [knC]; omega
theorem allP_ext (A : List (List Int)) (C : Nat) : ∀ (d : Nat) (ns g : List Nat), g ∈ allP A C d ns → ∃ t, g = ns ++ t ∧ t.length = d := by
 intro d
 induction d with
 | zero => intro ns g h; simp [allP] at h; exact ⟨[], by simp [h], rfl⟩
 | succ d ih =>
  intro ns g h
  simp only [allP, List.mem_flatMap] at h
  obtain ⟨m, _, hg⟩ := h
  obtain ⟨t, ht, hl⟩ := ih _ _ hg
  exact ⟨m :: t, by rw [ht]; simp, by simp [hl]⟩
theorem colN_length (ns : List Nat) (c : Nat) : (colN ns c).length = ns.length := by simp [colN]
/-- The column of a grid with its clue is among the lines for what is known of it. -/
theorem col_mem (R : Nat) (ns t : List Nat) (c : Nat) (hR : ns.length + t.length = R) (clue : List Int) (h : clueL (colN (ns ++ t) c) = clue) : toN (colN (ns ++ t) c) ∈ LF clue (knC R ns c) := by
 have hl : (colN (ns ++ t) c).length = R := by rw [colN_length, List.length_append]; exact hR
 rw [LF_mem, knC_length R ns c (by omega)]
 refine ⟨by have := toN_lt (colN (ns ++ t) c); rw [hl] at this; exact this, ?_⟩
 unfold isLine
 rw [Bool.and_eq_true, decide_eq_true_eq, knC_length R ns c (by omega)]
 constructor
 ·rw [fitD_iff]
  intro j hj
  rw [knC_length R ns c (by omega)] at hj
  rw [Nat.zero_add]
  by_cases c1 : j < ns.length
  ·right
   have hj2 : j < (colN (ns ++ t) c).length := by omega
   unfold bitI
   rw [toN_bit _ j hj2]
   simp [knC, colN, List.getElem_append, c1, bitI]
  ·left
   simp [knC, List.getElem_append, c1]
 ·have h2 := lineN_toN (colN (ns ++ t) c)
  rw [hl] at h2
  rw [h2]
  exact h
theorem bad_no (B : List (List Int)) (R : Nat) (ns t : List Nat) (hR : ns.length + t.length = R) (h : badP B R ns = true) : okG B (ns ++ t) = false := by
 rw [Bool.eq_false_iff]
 intro ho
 simp only [badP, List.any_eq_true, List.mem_range, decide_eq_true_eq] at h
 simp only [okG, List.all_eq_true, List.mem_range, decide_eq_true_eq] at ho
 obtain ⟨c, hc, hb⟩ := h
 have := col_mem R ns t c hR _ (ho c hc)
 rw [hb] at this
 simp at this
theorem bad_full (B : List (List Int)) (ns : List Nat) : badP B ns.length ns = !okG B ns := by
 cases hb : badP B ns.length ns with
 | true =>
  have := bad_no B ns.length ns [] (by simp) hb
  rw [List.append_nil] at this
  rw [this]; rfl
 | false =>
  have : okG B ns = true := by
   simp only [okG, List.all_eq_true, List.mem_range, decide_eq_true_eq]
   intro c hc
   have h1 : LF (B.getD c []) (knC ns.length ns c) ≠ [] := by
    intro e
    rw [Bool.eq_false_iff] at hb
    exact hb (List.any_eq_true.2 ⟨c, by simpa using hc, by simpa using e⟩)
   obtain ⟨m, hm⟩ := List.exists_mem_of_ne_nil _ h1
   rw [LF_mem, knC_length _ _ _ (Nat.le_refl _)] at hm
   obtain ⟨hm0, hm1⟩ := hm
   unfold isLine at hm1
   rw [Bool.and_eq_true, decide_eq_true_eq, knC_length _ _ _ (Nat.le_refl _), fitD_iff] at hm1
   have e : lineN m ns.length = colN ns c := by
    apply List.ext_getElem
    ·rw [lineN_length, colN_length]
    ·intro j h1 h2
     rw [lineN_get]
     have hj : j < ns.length := by rw [colN_length] at h2; exact h2
     have := hm1.1 j (by rw [knC_length _ _ _ (Nat.le_refl _)]; exact hj)
     rw [Nat.zero_add] at this
     have e2 : (knC ns.length ns c)[j]'(by rw [knC_length _ _ _ (Nat.le_refl _)]; exact hj) = bitI ns[j] c := by simp [knC, List.getElem_append, hj]
     rw [e2] at this
     have e3 : (colN ns c)[j] = ns[j].testBit c := by simp [colN]
     rw [e3]
     rcases this with h | h
     ·unfold bitI at h; split at h <;> omega
     ·unfold bitI at h
      cases ha : ns[j].testBit c <;> cases hb : m.testBit j <;> simp [ha, hb] at h ⊢
   rw [← e]; exact hm1.2
  rw [this]; rfl
theorem sols_filter (A B : List (List Int)) : ∀ (d : Nat) (ns : List Nat), ns.length + d = A.length → solsP A B d ns = (allP A B.length d ns).filter (okG B) := by
 intro d
 induction d with
 | zero =>
  intro ns h
  have h' : A.length = ns.length := by omega
  simp only [solsP, allP, h', bad_full]
  cases hh : okG B ns <;> simp [hh]
 | succ d ih =>
  intro ns h
  simp only [solsP]
  by_cases c : badP B A.length ns = true
  ·rw [if_pos c]
   symm
   rw [List.filter_eq_nil_iff]
   intro g hg
   obtain ⟨t, e, ht⟩ := allP_ext A B.length (d + 1) ns g hg
   rw [e, bad_no B A.length ns t (by omega) c]
   simp
  ·rw [if_neg c]
   simp only [allP]
   rw [List.filter_flatMap]
   congr 1
   funext m
   exact ih (ns ++ [m]) (by simp; omega)
def I1 (ns : List Nat) : List Int := ns.map (fun x : Nat => (x : Int))
def I2 (z : List (List Nat)) : List (List Int) := z.map I1
theorem I1_length (ns : List Nat) : (I1 ns).length = ns.length := by simp [I1]
theorem I2_length (z : List (List Nat)) : (I2 z).length = z.length := by simp [I2]
theorem I1_get (ns : List Nat) (i : Nat) (h : i < (I1 ns).length) : (I1 ns)[i] = ((ns[i]'(by simpa [I1] using h) : Nat) : Int) := by simp [I1]
theorem rd_I1 (ns : List Nat) (i : Nat) (h : i < ns.length) : rd (I1 ns) (i : Int) = ((ns[i] : Nat) : Int) := by
 rw [rd_nat _ _ (by rw [I1_length]; exact h), I1_get]
theorem I1_snoc (ns : List Nat) (m : Nat) : I1 ns ++ [((m : Nat) : Int)] = I1 (ns ++ [m]) := by simp [I1]
theorem I2_snoc (z : List (List Nat)) (ns : List Nat) : I2 z ++ [I1 ns] = I2 (z ++ [ns]) := by simp [I2]
theorem take_app {α : Type} (m : Nat) (x y : List α) : (x.take m ++ y).take m = (x ++ y).take m := by
 rw [List.take_append, List.take_append, List.take_take, Nat.min_self, List.length_take]
 congr 1
 by_cases c : x.length ≤ m
 ·rw [Nat.min_eq_right c]
 ·rw [Nat.min_eq_left (by omega)]
  have e1 : m - m = 0 := by omega
  have e2 : m - x.length = 0 := by omega
  rw [e1, e2]
theorem take_full {α : Type} (m : Nat) (x y : List α) (h : x.length = m) : (x ++ y).take m = x := by
 subst h; simp
theorem first_line (A : List (List Int)) (hA : A.length ≤ 1000) (ns : List Nat) (hns : ∀ m ∈ ns, m < 4611686018427387904) (hn : ns.length ≤ A.length) (c : Nat) (hc : c ≤ 60) : ∀ (d i : Nat) (ln : List Int), A.length = i + d → ln = (knC A.length ns c).take i →
  Ev (fun k => impl_firstPictures_1.l1 k A (I1 ns) c ln i) (knC A.length ns c) := by
 intro d
 induction d with
 | zero =>
  intro i ln hi hl
  have e : ln = knC A.length ns c := by rw [hl]; exact List.take_of_length_le (by rw [knC_length _ _ _ hn]; omega)
  exact Ev.step (fun k => by rw [impl_firstPictures_1.l1]) (Ev.ifn (by omega) (Ev.eq (Ev.now _) e))
 | succ d ih =>
  intro i ln hi hl
  have hw : wrap64 ((i : Int) + 1) = ((i + 1 : Nat) : Int) := by rw [w64 (by omega) (by omega)]; omega
  have hk : (knC A.length ns c).length = A.length := knC_length _ _ _ hn
  have hll : ln.length < 17592186044416 := by rw [hl, List.length_take]; omega
  have ht : (knC A.length ns c).take (i + 1) = ln ++ [(knC A.length ns c)[i]'(by omega)] := by rw [hl, ← List.take_append_getElem (by omega)]
  refine Ev.step (fun k => by rw [impl_firstPictures_1.l1, hw]) (Ev.ifp (by omega) ?_)
  by_cases c1 : i < ns.length
  ·have e1 : (knC A.length ns c)[i]'(by omega) = bitI ns[i] c := by simp [knC, List.getElem_append, c1]
   refine Ev.ifp (by rw [I1_length]; omega) (Ev.ifp (by omega) (Ev.ifp hll ?_))
   rw [rd_I1 ns i c1, bit_eqI _ _ (hns _ (List.getElem_mem _)) (by omega), ← e1, ← ht]
   exact ih (i + 1) _ (by omega) rfl
  ·have e1 : (knC A.length ns c)[i]'(by omega) = -1 := by simp [knC, List.getElem_append, c1]
   refine Ev.ifn (by rw [I1_length]; omega) (Ev.ifp hll ?_)
   rw [← e1, ← ht]
   exact ih (i + 1) _ (by omega) rfl
theorem knC_known (R : Nat) (ns : List Nat) (c : Nat) (h : ns.length ≤ R) (h1 : 1 ≤ R) (h8 : R ≤ 8) : knownV (knC R ns c) = true := by
 unfold knownV
 rw [knC_length _ _ _ h]
 simp only [Bool.and_eq_true, decide_eq_true_eq, List.all_eq_true]
 refine ⟨fun x hx => ?_, by omega⟩
 simp only [knC, List.mem_append, List.mem_map] at hx
 rcases hx with ⟨m, _, rfl⟩ | hx
 ·rcases bitI_01 m c with h | h <;> rw [h] <;> omega
 ·have := List.eq_of_mem_replicate hx; rw [this]; omega
structure PicOK (A B : List (List Int)) : Prop where
 a1 : 1 ≤ A.length
 a5 : A.length ≤ 5
 b1 : 1 ≤ B.length
 b5 : B.length ≤ 5
 av : ∀ x ∈ A, clueV x B.length = true
 bv : ∀ x ∈ B, clueV x A.length = true
 al : ∀ x ∈ A, x.length ≤ 1048576
 bl : ∀ x ∈ B, x.length ≤ 1048576
theorem PicOK.of {A B : List (List Int)} (h : picV A B = true) (al : ∀ x ∈ A, x.length ≤ 1048576) (bl : ∀ x ∈ B, x.length ≤ 1048576) : PicOK A B := by
 unfold picV at h
 simp only [Bool.and_eq_true, decide_eq_true_eq, List.all_eq_true] at h
 exact ⟨h.1.1.1, h.1.1.2, h.1.2.1, h.1.2.2, h.2.1, h.2.2, al, bl⟩
theorem getD_mem {α : Type} (l : List α) (i : Nat) (d : α) (h : i < l.length) : l.getD i d ∈ l := by
 rw [List.getD_eq_getElem?_getD, List.getElem?_eq_getElem h]; exact List.getElem_mem h
theorem first_prune {A B : List (List Int)} (hP : PicOK A B) (ns : List Nat) (hns : ∀ m ∈ ns, m < 4611686018427387904) (hn : ns.length ≤ A.length) : ∀ (d i : Nat), B.length = i + d →
  Ev (fun k => impl_firstPictures_1.l0 k A B (I1 ns) i) ((List.range' i d).any (fun c => decide (LF (B.getD c []) (knC A.length ns c) = []))) := by
 have a5 := hP.a5
 have b5 := hP.b5
 intro d
 induction d with
 | zero =>
  intro i hi
  exact Ev.step (fun k => by rw [impl_firstPictures_1.l0]) (Ev.ifn (by omega) (Ev.eq (Ev.now _) (by simp)))
 | succ d ih =>
  intro i hi
  have hw : wrap64 ((i : Int) + 1) = ((i + 1 : Nat) : Int) := by rw [w64 (by omega) (by omega)]; omega
  have hb : i < B.length := by omega
  have e0 : rd_L1 B (i : Int) = B.getD i [] := by rw [rdL_nat B i hb, List.getD_eq_getElem?_getD, List.getElem?_eq_getElem hb]; rfl
  have hm := getD_mem B i [] hb
  have hl := hP.bl _ hm
  have hk := knC_length A.length ns i hn
  refine Ev.step (fun k => by rw [impl_firstPictures_1.l0, hw, e0]) ?_
  have hfl := first_line A (by omega) ns hns hn i (by omega) A.length 0 [] (by omega) rfl
  refine Ev.ifp (by omega) (Ev.ifp (by omega) (Ev.bind hfl (Ev.bind (impl_ways (B.getD i []) (knC A.length ns i) (by omega) (by omega)) ?_)))
  have ew : waysV (B.getD i []) (knC A.length ns i) = ((LF (B.getD i []) (knC A.length ns i)).length : Int) := by
   unfold waysV
   rw [if_pos ⟨knC_known _ _ _ hn hP.a1 (by omega), by rw [hk]; exact hP.bv _ hm⟩]
  rw [List.range'_succ, List.any_cons, ew]
  by_cases c : LF (B.getD i []) (knC A.length ns i) = []
  ·exact Ev.ifp (by rw [c]; rfl) (Ev.eq (Ev.now _) (by simp only [c, decide_true, Bool.true_or]))
  ·refine Ev.ifn (fun h => c (List.eq_nil_of_length_eq_zero (by omega))) (Ev.eq (ih (i + 1) (by omega)) ?_)
   rw [decide_eq_false c, Bool.false_or]
theorem rowsP_lt (A : List (List Int)) (C r m : Nat) (hC : C ≤ 8) (h : m ∈ rowsP A C r) : m < 4611686018427387904 := by
 unfold rowsP at h
 rw [LF_mem, List.length_replicate] at h
 have := pow_le C hC
 omega
theorem nat_nn (i : Nat) : (0 : Int) ≤ (i : Int) := Int.natCast_nonneg i
theorem first_search {A B : List (List Int)} (hP : PicOK A B) (most : Nat) (hm : most ≤ 1000) : ∀ (d : Nat) (ns : List Nat) (out : List (List Nat)), ns.length + d = A.length → (∀ m ∈ ns, m < 4611686018427387904) → out.length < most →
  Ev (fun k => impl_firstPictures_1.f k A B (List.replicate B.length (-1)) most (I1 ns) (I2 out)) (I2 ((out ++ solsP A B d ns).take most)) := by
 have a5 := hP.a5
 have b5 := hP.b5
 intro d
 induction d with
 | zero =>
  intro ns out hd hns ho
  have h1 : ns.length = A.length := by omega
  have hp := first_prune hP ns hns (by omega) B.length 0 (by omega)
  rw [← List.range_eq_range'] at hp
  replace hp : Ev (fun k => impl_firstPictures_1.l0 k A B (I1 ns) 0) (badP B A.length ns) := hp
  refine Ev.step (fun k => by rw [impl_firstPictures_1.f]) ?_
  refine Ev.bind hp ?_
  simp only [solsP]
  by_cases c : badP B A.length ns = true
  ·rw [if_pos c]
   exact Ev.ifp c (Ev.eq (Ev.now _) (by rw [List.append_nil, List.take_of_length_le (by omega)]))
  ·rw [if_neg c]
   refine Ev.ifn c (Ev.ifp (by rw [I1_length]; omega) (Ev.ifp (by rw [I2_length]; omega) (Ev.eq (Ev.now _) ?_)))
   rw [I2_snoc, List.take_of_length_le (by simp; omega)]
 | succ d ih =>
  intro ns out hd hns ho
  have hp := first_prune hP ns hns (by omega) B.length 0 (by omega)
  rw [← List.range_eq_range'] at hp
  replace hp : Ev (fun k => impl_firstPictures_1.l0 k A B (I1 ns) 0) (badP B A.length ns) := hp
  have hlt : ns.length < A.length := by omega
  have e0 : rd_L1 A (((I1 ns).length : Nat) : Int) = A.getD ns.length [] := by rw [I1_length, rdL_nat A _ hlt, List.getD_eq_getElem?_getD, List.getElem?_eq_getElem hlt]; rfl
  refine Ev.step (fun k => by rw [impl_firstPictures_1.f, e0]) ?_
  refine Ev.bind hp ?_
  simp only [solsP]
  by_cases c : badP B A.length ns = true
  ·rw [if_pos c]
   exact Ev.ifp c (Ev.eq (Ev.now _) (by rw [List.append_nil, List.take_of_length_le (by omega)]))
  ·rw [if_neg c]
   refine Ev.ifn c (Ev.ifn (by rw [I1_length]; omega) (Ev.ifp (by rw [I1_length]; omega) (Ev.bind (impl_linesFor_ev _ _ (by simp; omega)) ?_)))
   have hL : ∀ m ∈ rowsP A B.length ns.length, m < 4611686018427387904 := fun m h => rowsP_lt _ _ _ _ (by omega) h
   have hLl : (rowsP A B.length ns.length).length ≤ 1000 := by
    have h1 := LFr_len (A.getD ns.length []) (List.replicate B.length (-1)) 0 (2 ^ (List.replicate B.length (-1 : Int)).length)
    have h2 := pow_le B.length (by omega)
    rw [List.length_replicate] at h1
    unfold rowsP LF
    rw [List.length_replicate]
    omega
   have loop : ∀ (e i : Nat) (z : List (List Nat)), (rowsP A B.length ns.length).length = i + e → z.length ≤ most →
     Ev (fun k => impl_firstPictures_1.l2 k A B (List.replicate B.length (-1)) most (I1 ns) (I1 (rowsP A B.length ns.length)) (I2 z) i) (I2 ((z ++ ((rowsP A B.length ns.length).drop i).flatMap (fun m => solsP A B d (ns ++ [m]))).take most)) := by
    intro e
    induction e with
    | zero =>
     intro i z hi hz
     refine Ev.step (fun k => by rw [impl_firstPictures_1.l2]) (Ev.ifn (by rw [I1_length]; omega) (Ev.eq (Ev.now _) ?_))
     rw [List.drop_of_length_le (by omega), List.flatMap_nil, List.append_nil, List.take_of_length_le hz]
    | succ e ihe =>
     intro i z hi hz
     have hw : wrap64 ((i : Int) + 1) = ((i + 1 : Nat) : Int) := by rw [w64 (by omega) (by omega)]; omega
     have hil : i < (rowsP A B.length ns.length).length := by omega
     have q1 : (i : Int) < ((I1 (rowsP A B.length ns.length)).length : Int) := by rw [I1_length]; exact Int.ofNat_lt.2 hil
     refine Ev.step (fun k => by rw [impl_firstPictures_1.l2, hw]) (Ev.ifp q1 (Ev.ifp (nat_nn i) ?_))
     rw [List.drop_eq_getElem_cons hil, List.flatMap_cons]
     by_cases c2 : z.length < most
     ·refine Ev.ifp (by rw [I2_length]; omega) (Ev.ifp (by rw [I1_length]; omega) ?_)
      rw [rd_I1 _ i hil, I1_snoc]
      refine Ev.bind (ih (ns ++ [(rowsP A B.length ns.length)[i]]) z (by simp; omega) ?_ c2) ?_
      ·intro m hm2
       rcases List.mem_append.1 hm2 with h | h
       ·exact hns m h
       ·rw [List.mem_singleton.1 h]; exact hL _ (List.getElem_mem hil)
      ·refine Ev.eq (ihe (i + 1) _ (by omega) (by rw [List.length_take]; omega)) ?_
       rw [take_app, List.append_assoc]
     ·refine Ev.ifn (by rw [I2_length]; omega) (Ev.eq (ihe (i + 1) z (by omega) hz) ?_)
      rw [take_full most z _ (by omega), take_full most z _ (by omega)]
   exact loop (rowsP A B.length ns.length).length 0 out (by omega) (by omega)
theorem first_free (n : Nat) (hn : n ≤ 1000) : ∀ (d i : Nat), n = i + d → Ev (fun k => impl_firstPictures.l0 k n (List.replicate i (-1)) i) (List.replicate n (-1)) := by
 intro d
 induction d with
 | zero =>
  intro i hi
  have e : i = n := by omega
  exact Ev.step (fun k => by rw [impl_firstPictures.l0]) (Ev.ifn (by omega) (Ev.eq (Ev.now _) (by rw [e])))
 | succ d ih =>
  intro i hi
  have hw : wrap64 ((i : Int) + 1) = ((i + 1 : Nat) : Int) := by rw [w64 (by omega) (by omega)]; omega
  refine Ev.step (fun k => by rw [impl_firstPictures.l0, hw]) (Ev.ifp (by omega) (Ev.ifp (by simp; omega) ?_))
  rw [← List.replicate_succ']
  exact ih (i + 1) (by omega)
/-- All solutions in order. -/
def solG (A B : List (List Int)) : List (List Nat) := (allP A B.length A.length []).filter (okG B)
theorem first_ev {A B : List (List Int)} (hP : PicOK A B) (most : Nat) (h1 : 1 ≤ most) (hm : most ≤ 1000) : Ev (fun k => impl_firstPictures.f k A B most) (I2 ((solG A B).take most)) := by
 have b5 := hP.b5
 unfold impl_firstPictures.f
 refine Ev.bind (first_free B.length (by omega) B.length 0 (by omega)) ?_
 have h := first_search hP most hm A.length [] [] (by simp) (by simp) (by simp; omega)
 rw [List.nil_append, sols_filter A B A.length [] (by simp)] at h
 exact h
theorem ownrows_l' (l : List (List Bool)) (hl : l.length ≤ 100) (hx : ∀ x ∈ l, x.length ≤ 100) : ∀ (d i : Nat), l.length = i + d → Ev (fun k => spec_l1OwnRowsBool.l0 k l (l.take i) i) l := by
 intro d
 induction d with
 | zero =>
  intro i hi
  rw [List.take_of_length_le (by omega)]
  exact Ev.step (fun k => by rw [spec_l1OwnRowsBool.l0]) (Ev.ifn (by omega) (Ev.now _))
 | succ d ih =>
  intro i hi
  have hw : wrap64 ((i : Int) + 1) = ((i + 1 : Nat) : Int) := by rw [w64 (by omega) (by omega)]; omega
  have hlt : i < l.length := by omega
  have h1 := hx _ (List.getElem_mem hlt)
  have h := ih (i + 1) (by omega)
  rw [List.take_succ_eq_append_getElem hlt] at h
  refine Ev.step (fun k => by rw [spec_l1OwnRowsBool.l0]) ?_
  rw [rdB_nat l i hlt, hw]
  refine Ev.ifp (by omega) ?_
  refine Ev.bindc rfl ?_
  refine Ev.ifp (by omega) (Ev.ifp (by simp only [List.length_nil]; omega) (Ev.ifp (by rw [List.length_take]; omega) ?_))
  rw [List.nil_append]
  exact h
theorem ownrows_ev (l : List (List Bool)) (hl : l.length ≤ 100) (hx : ∀ x ∈ l, x.length ≤ 100) : Ev (fun k => spec_l1OwnRowsBool.f k l) l := by
 unfold spec_l1OwnRowsBool.f
 exact ownrows_l' l hl hx l.length 0 (by omega)
theorem columnB_l (l : List (List Bool)) (hl : l.length ≤ 100) (c : Nat) (hx : ∀ x ∈ l, c < x.length) : ∀ (d i : Nat), l.length = i + d → Ev (fun k => spec_l13Column.l0 k l c (colB (l.take i) c) i) (colB l c) := by
 intro d
 induction d with
 | zero =>
  intro i hi
  refine Ev.step (fun k => by rw [spec_l13Column.l0]) (Ev.ifn (by omega) (Ev.eq (Ev.now _) ?_))
  rw [List.take_of_length_le (by omega)]
 | succ d ih =>
  intro i hi
  have hw : wrap64 ((i : Int) + 1) = ((i + 1 : Nat) : Int) := by rw [w64 (by omega) (by omega)]; omega
  have hlt : i < l.length := by omega
  have h1 := hx _ (List.getElem_mem hlt)
  have hr := ih (i + 1) (by omega)
  rw [colB_take l c i hlt] at hr
  refine Ev.step (fun k => by rw [spec_l13Column.l0]) ?_
  rw [rdB_nat l i hlt, hw, getB _ _ h1]
  exact Ev.ifp (by omega) (Ev.ifp (by omega) (Ev.ifp (by omega) (Ev.ifp (by omega) (Ev.ifp (by rw [colB_length, List.length_take]; omega) hr))))
theorem columnB_ev (l : List (List Bool)) (hl : l.length ≤ 100) (c : Nat) (hx : ∀ x ∈ l, c < x.length) : Ev (fun k => spec_l13Column.f k l c) (colB l c) := by
 unfold spec_l13Column.f
 exact columnB_l l hl c hx l.length 0 (by omega)
theorem spec_line_l (m n : Nat) (hm : m < 4611686018427387904) (hn : n ≤ 60) : ∀ (d i : Nat) (out : List Bool), n = i + d → out.length ≤ i →
  Ev (fun k => spec_l12Line.l0 k m n out i) (out ++ (lineN m n).drop i) := by
 intro d
 induction d with
 | zero =>
  intro i out hi ho
  refine Ev.step (fun k => by rw [spec_l12Line.l0]) (Ev.ifn (by omega) (Ev.eq (Ev.now _) ?_))
  rw [List.drop_eq_nil_of_le (by rw [lineN_length]; omega)]; simp
 | succ d ih =>
  intro i out hi ho
  have hw : wrap64 ((i : Int) + 1) = ((i + 1 : Nat) : Int) := by rw [w64 (by omega) (by omega)]; omega
  refine Ev.step (fun k => by rw [spec_l12Line.l0]) (Ev.ifp (by omega) (Ev.ifp (by omega) (Ev.ifp (by omega) ?_)))
  have e : (Int.tmod (shr .i64 (m : Int) (i : Int)) 2 == 1) = m.testBit i := by
   rw [shr_bit (by omega) i (by omega), bit_nat]; cases m.testBit i <;> rfl
  rw [hw, e]
  refine Ev.eq (ih (i + 1) (out ++ [m.testBit i]) (by omega) (by simp; omega)) ?_
  rw [List.drop_eq_getElem_cons (l := lineN m n) (i := i) (by rw [lineN_length]; omega), lineN_get]; simp
theorem spec_line_ev (m n : Nat) (hm : m < 4611686018427387904) (hn : n ≤ 60) : Ev (fun k => spec_l12Line.f k m n) (lineN m n) := by
 unfold spec_l12Line.f
 have := spec_line_l m n hm hn n 0 [] (by omega) (by simp)
 simpa using this
theorem l8Same_l (a b : List Int) (h : a.length = b.length) (hl : a.length ≤ 140737488351232) : ∀ (d i : Nat), a.length = i + d → Ev (fun k => spec_l8Same.l0 k a b i) (decide (a.drop i = b.drop i)) := by
 intro d
 induction d with
 | zero =>
  intro i hi
  refine Ev.step (fun k => by rw [spec_l8Same.l0]) (Ev.ifn (by omega) (Ev.eq (Ev.now _) ?_))
  rw [List.drop_eq_nil_of_le (by omega), List.drop_eq_nil_of_le (by omega)]; simp
 | succ d ih =>
  intro i hi
  have ha : i < a.length := by omega
  have hb : i < b.length := by omega
  have hw : wrap64 ((i : Int) + 1) = ((i + 1 : Nat) : Int) := by rw [w64 (by omega) (by omega)]; omega
  refine Ev.step (fun k => by rw [spec_l8Same.l0]) (Ev.ifp (by omega) (Ev.ifp (by omega) (Ev.ifp (by omega) ?_)))
  rw [rd_nat a i ha, rd_nat b i hb, hw, List.drop_eq_getElem_cons ha, List.drop_eq_getElem_cons hb]
  by_cases c : a[i] = b[i]
  ·exact Ev.ifp c (Ev.eq (ih (i + 1) (by omega)) (by rw [c]; simp only [List.cons.injEq, true_and]))
  ·exact Ev.ifn c (Ev.eq (Ev.now _) (by simp only [List.cons.injEq, c, false_and, decide_false]))
theorem l8Same_ev (a b : List Int) (hl : a.length ≤ 140737488351232) : Ev (fun k => spec_l8Same.f k a b) (decide (a = b)) := by
 unfold spec_l8Same.f
 by_cases h : a.length = b.length
 ·exact Ev.ifp (by omega) (Ev.eq (l8Same_l a b h hl a.length 0 (by omega)) (by simp))
 ·refine Ev.ifn (by omega) (Ev.eq (Ev.now false) ?_)
  symm; simp; intro e; exact h (by rw [e])
theorem l12Same_ev (l : List Bool) (clue : List Int) (hl : l.length ≤ 140737488351232) : Ev (fun k => spec_l12Same.f k l clue) (decide (clueL l = clue)) := by
 unfold spec_l12Same.f
 exact Ev.bind (spec_clueof l hl) (Ev.bind (l8Same_ev _ _ (by have := clueL_len l; omega)) (Ev.now _))
/-! The reference's search of pictures. -/
def LB (C : Nat) (ns : List Nat) : List (List Bool) := ns.map (fun m => lineN m C)
def LBs (C : Nat) (z : List (List Nat)) : List (List (List Bool)) := z.map (LB C)
theorem LB_length (C : Nat) (ns : List Nat) : (LB C ns).length = ns.length := by simp [LB]
theorem LBs_length (C : Nat) (z : List (List Nat)) : (LBs C z).length = z.length := by simp [LBs]
theorem LB_row (C : Nat) (ns : List Nat) : ∀ x ∈ LB C ns, x.length = C := by
 intro x hx
 obtain ⟨m, _, rfl⟩ := List.mem_map.1 hx
 exact lineN_length m C
theorem LB_col (C : Nat) (ns : List Nat) (c : Nat) (hc : c < C) : colB (LB C ns) c = colN ns c := by
 unfold colB LB colN
 rw [List.map_map]
 apply List.map_congr_left
 intro m _
 simp only [Function.comp]
 rw [List.getD_eq_getElem?_getD, List.getElem?_eq_getElem (by rw [lineN_length]; exact hc), lineN_get]
 rfl
def badF (p q : List Int) (j : Nat) : Bool := decide (p.getD j 0 > q.getD j 0) || (decide (j + 1 < p.length) && decide (p.getD j 0 < q.getD j 0))
def badPQ (p q : List Int) : Bool := decide (p.length > q.length) || (List.range p.length).any (badF p q)
def prunedS (B : List (List Int)) (ns : List Nat) : Bool := (List.range B.length).any (fun c => badPQ (clueL (colN ns c)) (B.getD c []))
def PrefOK (p q : List Int) : Prop := p.length ≤ q.length ∧ ∀ j, j < p.length → p.getD j 0 ≤ q.getD j 0 ∧ (j + 1 < p.length → p.getD j 0 = q.getD j 0)
theorem PrefOK.cons {p q : List Int} (x : Int) (h : PrefOK p q) : PrefOK (x :: p) (x :: q) := by
 refine ⟨by simpa using h.1, fun j hj => ?_⟩
 cases j with
 | zero => simp
 | succ j =>
  have := h.2 j (by simpa using hj)
  refine ⟨by simpa using this.1, fun h2 => ?_⟩
  have := this.2 (by simpa using h2)
  simpa using this
theorem clueR_head : ∀ (l : List Bool) (r : Int), 0 < r → ∃ x xs, clueR r l = x :: xs ∧ r ≤ x := by
 intro l
 induction l with
 | nil => intro r hr; exact ⟨r, [], by simp [clueR, hr], Int.le_refl _⟩
 | cons b l ih =>
  intro r hr
  cases b with
  | true =>
   obtain ⟨x, xs, e, h⟩ := ih (r + 1) (by omega)
   exact ⟨x, xs, by simp [clueR]; exact e, by omega⟩
  | false => exact ⟨r, clueR 0 l, by simp [clueR, hr], Int.le_refl _⟩
theorem clueR_pref : ∀ (l t : List Bool) (r : Int), 0 ≤ r → PrefOK (clueR r l) (clueR r (l ++ t)) := by
 intro l
 induction l with
 | nil =>
  intro t r hr
  by_cases c : 0 < r
  ·obtain ⟨x, xs, e, h⟩ := clueR_head t r c
   rw [List.nil_append, e]
   have e1 : clueR r [] = [r] := by simp [clueR, c]
   rw [e1]
   refine ⟨by simp, fun j hj => ?_⟩
   have : j = 0 := by simp at hj; omega
   subst this
   exact ⟨by simpa using h, fun h2 => by simp at h2⟩
  ·have e1 : clueR r [] = [] := by simp [clueR, c]
   rw [e1]
   exact ⟨by simp, fun j hj => by simp at hj⟩
 | cons b l ih =>
  intro t r hr
  cases b with
  | true =>
   have := ih t (r + 1) (by omega)
   simpa [clueR] using this
  | false =>
   have := ih t 0 (by omega)
   by_cases c : 0 < r
   ·have h2 := this.cons r
    simpa [clueR, c] using h2
   ·simpa [clueR, c] using this
theorem pref_ok {p q : List Int} (h : PrefOK p q) : badPQ p q = false := by
 rw [Bool.eq_false_iff]
 intro hb
 unfold badPQ at hb
 rw [Bool.or_eq_true, decide_eq_true_eq, List.any_eq_true] at hb
 rcases hb with hb | ⟨j, hj, hb⟩
 ·have := h.1; omega
 ·rw [List.mem_range] at hj
  have h2 := h.2 j hj
  unfold badF at hb
  rw [Bool.or_eq_true, Bool.and_eq_true, decide_eq_true_eq, decide_eq_true_eq, decide_eq_true_eq] at hb
  rcases hb with hb | ⟨hb1, hb2⟩
  ·omega
  ·have := h2.2 hb1; omega
theorem colN_app (ns t : List Nat) (c : Nat) : colN (ns ++ t) c = colN ns c ++ colN t c := by simp [colN]
theorem prunedS_no (B : List (List Int)) (ns t : List Nat) (h8 : (ns ++ t).length ≤ 8) (h : prunedS B ns = true) : okG B (ns ++ t) = false := by
 rw [Bool.eq_false_iff]
 intro ho
 simp only [prunedS, List.any_eq_true, List.mem_range] at h
 simp only [okG, List.all_eq_true, List.mem_range, decide_eq_true_eq] at ho
 obtain ⟨c, hc, hb⟩ := h
 have h1 := ho c hc
 have l1 : (colN (ns ++ t) c).length ≤ 8 := by rw [colN_length]; exact h8
 have l2 : (colN ns c).length ≤ 8 := by rw [colN_length]; rw [List.length_append] at h8; omega
 have hp := pref_ok (clueR_pref (colN ns c) (colN t c) 0 (by omega))
 rw [← colN_app] at hp
 unfold clueL at h1 hb
 rw [if_pos l1] at h1
 rw [if_pos l2, ← h1, hp] at hb
 cases hb
def solsS (A B : List (List Int)) : Nat → List Nat → List (List Nat)
 | 0, ns => if okG B ns = true then [ns] else []
 | d + 1, ns => if prunedS B ns = true then [] else (rowsP A B.length ns.length).flatMap (fun m => solsS A B d (ns ++ [m]))
theorem solsS_filter (A B : List (List Int)) (hA : A.length ≤ 8) : ∀ (d : Nat) (ns : List Nat), ns.length + d = A.length → solsS A B d ns = (allP A B.length d ns).filter (okG B) := by
 intro d
 induction d with
 | zero =>
  intro ns h
  simp only [solsS, allP]
  cases hh : okG B ns <;> simp [hh]
 | succ d ih =>
  intro ns h
  simp only [solsS]
  by_cases c : prunedS B ns = true
  ·rw [if_pos c]
   symm
   rw [List.filter_eq_nil_iff]
   intro g hg
   obtain ⟨t, e, ht⟩ := allP_ext A B.length (d + 1) ns g hg
   rw [e, prunedS_no B ns t (by rw [List.length_append]; omega) c]
   simp
  ·rw [if_neg c]
   simp only [allP]
   rw [List.filter_flatMap]
   congr 1
   funext m
   exact ih (ns ++ [m]) (by simp; omega)
theorem rd_getD (xs : List Int) (i : Nat) (h : i < xs.length) : rd xs (i : Int) = xs.getD i 0 := by
 rw [rd_nat xs i h, List.getD_eq_getElem?_getD, List.getElem?_eq_getElem h]; rfl
theorem rdL_getD (B : List (List Int)) (i : Nat) (h : i < B.length) : rd_L1 B (i : Int) = B.getD i [] := by
 rw [rdL_nat B i h, List.getD_eq_getElem?_getD, List.getElem?_eq_getElem h]; rfl
theorem spec_l2_ev (p q : List Int) (hl : p.length ≤ q.length) (hp : p.length ≤ 1000) : ∀ (d j : Nat), p.length = j + d → Ev (fun k => spec_l13Search.l2 k p q j) ((List.range' j d).any (badF p q)) := by
 intro d
 induction d with
 | zero => intro j hj; exact Ev.step (fun k => by rw [spec_l13Search.l2]) (Ev.ifn (by omega) (Ev.eq (Ev.now _) (by simp)))
 | succ d ih =>
  intro j hj
  have hw : wrap64 ((j : Int) + 1) = ((j + 1 : Nat) : Int) := by rw [w64 (by omega) (by omega)]; omega
  have hw2 : wrap64 ((p.length : Int) - 1) = (p.length : Int) - 1 := w64 (by omega) (by omega)
  refine Ev.step (fun k => by rw [spec_l13Search.l2, hw, hw2, rd_getD p j (by omega), rd_getD q j (by omega)]) ?_
  refine Ev.ifp (by omega) (Ev.ifp (by omega) (Ev.ifp (by omega) ?_))
  rw [List.range'_succ, List.any_cons]
  by_cases c1 : p.getD j 0 > q.getD j 0
  ·refine Ev.ifp c1 (Ev.eq (Ev.now _) ?_)
   have : badF p q j = true := by unfold badF; rw [decide_eq_true c1]; rfl
   rw [this]; rfl
  ·refine Ev.ifn c1 ?_
   by_cases c2 : j + 1 < p.length
   ·refine Ev.ifp (by omega) ?_
    by_cases c3 : p.getD j 0 < q.getD j 0
    ·refine Ev.ifp c3 (Ev.eq (Ev.now _) ?_)
     have : badF p q j = true := by unfold badF; rw [decide_eq_true c2, decide_eq_true c3]; simp
     rw [this]; rfl
    ·refine Ev.ifn c3 (Ev.eq (ih (j + 1) (by omega)) ?_)
     have : badF p q j = false := by unfold badF; rw [decide_eq_false c1, decide_eq_false c3]; simp
     rw [this, Bool.false_or]
   ·refine Ev.ifn (by omega) (Ev.eq (ih (j + 1) (by omega)) ?_)
    have : badF p q j = false := by unfold badF; rw [decide_eq_false c1, decide_eq_false c2]; simp
    rw [this, Bool.false_or]
theorem spec_l1_ev {A B : List (List Int)} (hP : PicOK A B) (ns : List Nat) (hn : ns.length ≤ A.length) : ∀ (d i : Nat), B.length = i + d →
  Ev (fun k => spec_l13Search.l1 k B (LB B.length ns) i) ((List.range' i d).any (fun c => badPQ (clueL (colN ns c)) (B.getD c []))) := by
 have a5 := hP.a5
 have b5 := hP.b5
 intro d
 induction d with
 | zero => intro i hi; exact Ev.step (fun k => by rw [spec_l13Search.l1]) (Ev.ifn (by omega) (Ev.eq (Ev.now _) (by simp)))
 | succ d ih =>
  intro i hi
  have hw : wrap64 ((i : Int) + 1) = ((i + 1 : Nat) : Int) := by rw [w64 (by omega) (by omega)]; omega
  have hb : i < B.length := by omega
  have hcol := columnB_ev (LB B.length ns) (by rw [LB_length]; omega) i (fun x hx => by rw [LB_row _ _ x hx]; exact hb)
  rw [LB_col _ _ _ hb] at hcol
  have hcl := spec_clueof (colN ns i) (by rw [colN_length]; omega)
  have hlen := clueL_len (colN ns i)
  refine Ev.step (fun k => by rw [spec_l13Search.l1, hw, rdL_getD B i hb]) ?_
  refine Ev.ifp (by omega) (Ev.ifp (by omega) (Ev.bind hcol (Ev.bind hcl ?_)))
  rw [List.range'_succ, List.any_cons]
  by_cases c1 : ((clueL (colN ns i)).length : Int) > ((B.getD i []).length : Int)
  ·refine Ev.ifp c1 (Ev.eq (Ev.now _) ?_)
   have : badPQ (clueL (colN ns i)) (B.getD i []) = true := by unfold badPQ; rw [decide_eq_true (by omega)]; rfl
   rw [this]; rfl
  ·refine Ev.ifn c1 ?_
   have h2 := spec_l2_ev (clueL (colN ns i)) (B.getD i []) (by omega) (by omega) (clueL (colN ns i)).length 0 (by omega)
   rw [← List.range_eq_range'] at h2
   replace h2 : Ev (fun k => spec_l13Search.l2 k (clueL (colN ns i)) (B.getD i []) 0) ((List.range (clueL (colN ns i)).length).any (badF (clueL (colN ns i)) (B.getD i []))) := h2
   refine Ev.bind h2 ?_
   have e : badPQ (clueL (colN ns i)) (B.getD i []) = (List.range (clueL (colN ns i)).length).any (badF (clueL (colN ns i)) (B.getD i [])) := by
    unfold badPQ; rw [decide_eq_false (by omega), Bool.false_or]
   rw [e]
   cases (List.range (clueL (colN ns i)).length).any (badF (clueL (colN ns i)) (B.getD i [])) with
   | true => exact Ev.ifp rfl (Ev.now _)
   | false => exact Ev.ifn (by simp) (Ev.eq (ih (i + 1) (by omega)) (by simp))
theorem spec_l0_ev {A B : List (List Int)} (hP : PicOK A B) (ns : List Nat) (hn : ns.length ≤ A.length) : ∀ (d i : Nat), B.length = i + d →
  Ev (fun k => spec_l13Search.l0 k B (LB B.length ns) i) (!(List.range' i d).all (fun c => decide (clueL (colN ns c) = B.getD c []))) := by
 have a5 := hP.a5
 have b5 := hP.b5
 intro d
 induction d with
 | zero => intro i hi; exact Ev.step (fun k => by rw [spec_l13Search.l0]) (Ev.ifn (by omega) (Ev.eq (Ev.now _) (by simp)))
 | succ d ih =>
  intro i hi
  have hw : wrap64 ((i : Int) + 1) = ((i + 1 : Nat) : Int) := by rw [w64 (by omega) (by omega)]; omega
  have hb : i < B.length := by omega
  have hcol := columnB_ev (LB B.length ns) (by rw [LB_length]; omega) i (fun x hx => by rw [LB_row _ _ x hx]; exact hb)
  rw [LB_col _ _ _ hb] at hcol
  refine Ev.step (fun k => by rw [spec_l13Search.l0, hw, rdL_getD B i hb]) ?_
  refine Ev.ifp (by omega) (Ev.ifp (by omega) (Ev.bind hcol (Ev.bind (l12Same_ev (colN ns i) (B.getD i []) (by rw [colN_length]; omega)) ?_)))
  rw [List.range'_succ, List.all_cons]
  cases hh : decide (clueL (colN ns i) = B.getD i []) with
  | true => exact Ev.ifp rfl (Ev.eq (ih (i + 1) (by omega)) (by simp))
  | false => exact Ev.ifn (by simp) (Ev.eq (Ev.now _) (by simp))
theorem LB_snoc (C : Nat) (ns : List Nat) (m : Nat) : LB C ns ++ [lineN m C] = LB C (ns ++ [m]) := by simp [LB]
theorem LBs_snoc (C : Nat) (z : List (List Nat)) (ns : List Nat) : LBs C z ++ [LB C ns] = LBs C (z ++ [ns]) := by simp [LBs]
theorem rowsP_eq (A : List (List Int)) (C r : Nat) : rowsP A C r = (List.range' 0 (2 ^ C)).filter (fun m => decide (clueL (lineN m C) = A.getD r [])) := by
 unfold rowsP LF LFr
 rw [List.length_replicate]
 congr 1
 funext m
 unfold isLine
 rw [fit_free, List.length_replicate, Bool.true_and]
theorem lt62 {i n : Nat} (h : i < n) (hn : n ≤ 256) : i < 4611686018427387904 := Nat.lt_of_lt_of_le h (Nat.le_trans hn (by decide))
theorem int_of_lt {a b : Nat} (h : a < b) : (a : Int) < (b : Int) := Int.ofNat_lt.2 h
theorem spec_search_p {A B : List (List Int)} (hP : PicOK A B) (most : Nat) (hm : most ≤ 1000) : ∀ (d : Nat) (ns : List Nat) (out : List (List Nat)), ns.length + d = A.length → out.length < most →
  Ev (fun k => spec_l13Search.f k A B most (LB B.length ns) (LBs B.length out)) (LBs B.length ((out ++ solsS A B d ns).take most)) := by
 have a5 := hP.a5
 have b5 := hP.b5
 intro d
 induction d with
 | zero =>
  intro ns out hd ho
  have h0 := spec_l0_ev hP ns (by omega) B.length 0 (by omega)
  rw [← List.range_eq_range'] at h0
  replace h0 : Ev (fun k => spec_l13Search.l0 k B (LB B.length ns) 0) (!okG B ns) := h0
  refine Ev.step (fun k => by rw [spec_l13Search.f]) ?_
  refine Ev.ifp (by rw [LB_length]; omega) (Ev.bind h0 ?_)
  simp only [solsS]
  cases hh : okG B ns with
  | true =>
   refine Ev.ifn (by simp) (Ev.bind (ownrows_ev (LB B.length ns) (by rw [LB_length]; omega) (fun x hx => by rw [LB_row _ _ x hx]; omega)) ?_)
   refine Ev.ifp (by rw [LBs_length]; omega) (Ev.eq (Ev.now _) ?_)
   rw [LBs_snoc, if_pos rfl, List.take_of_length_le (by simp; omega)]
  | false => exact Ev.ifp rfl (Ev.eq (Ev.now _) (by rw [if_neg (by simp), List.append_nil, List.take_of_length_le (by omega)]))
 | succ d ih =>
  intro ns out hd ho
  have h0 := spec_l1_ev hP ns (by omega) B.length 0 (by omega)
  rw [← List.range_eq_range'] at h0
  replace h0 : Ev (fun k => spec_l13Search.l1 k B (LB B.length ns) 0) (prunedS B ns) := h0
  have hlt : ns.length < A.length := by omega
  refine Ev.step (fun k => by rw [spec_l13Search.f]) ?_
  refine Ev.ifn (by rw [LB_length]; omega) (Ev.bind h0 ?_)
  simp only [solsS]
  cases hh : prunedS B ns with
  | true => exact Ev.ifp rfl (Ev.eq (Ev.now _) (by rw [if_pos rfl, List.append_nil, List.take_of_length_le (by omega)]))
  | false =>
   rw [if_neg (by simp)]
   refine Ev.ifn (by simp) ?_
   have hp := pow_le B.length (by omega)
   have hsh := shl_n B.length (by omega)
   have loop : ∀ (e i : Nat) (z : List (List Nat)), 2 ^ B.length = i + e → z.length ≤ most →
     Ev (fun k => spec_l13Search.l3 k A B most (LB B.length ns) (LBs B.length z) i) (LBs B.length ((z ++ ((List.range' i e).filter (fun m => decide (clueL (lineN m B.length) = A.getD ns.length []))).flatMap (fun m => solsS A B d (ns ++ [m]))).take most)) := by
    intro e
    induction e with
    | zero =>
     intro i z hi hz
     refine Ev.step (fun k => by rw [spec_l13Search.l3, hsh]) ?_
     refine Ev.ifn (by omega) (Ev.eq (Ev.now _) ?_)
     simp only [List.range'_zero, List.filter_nil, List.flatMap_nil]
     rw [List.append_nil, List.take_of_length_le hz]
    | succ e ihe =>
     intro i z hi hz
     have hw : wrap64 ((i : Int) + 1) = ((i + 1 : Nat) : Int) := by rw [w64 (by omega) (by omega)]; omega
     have hi2 : i < 2 ^ B.length := by omega
     have hi62 := lt62 hi2 hp.2
     have hB60 : B.length ≤ 60 := by omega
     have eA : rd_L1 A (((LB B.length ns).length : Nat) : Int) = A.getD ns.length [] := by rw [LB_length]; exact rdL_getD A _ hlt
     refine Ev.step (fun k => by rw [spec_l13Search.l3, hsh, hw, eA]) ?_
     refine Ev.ifp (by omega) ?_
     by_cases c2 : z.length < most
     ·refine Ev.ifp (by rw [LBs_length]; omega) (Ev.bind (spec_line_ev i B.length hi62 hB60) (Ev.ifp (by rw [LB_length]; omega) (Ev.bind (l12Same_ev (lineN i B.length) (A.getD ns.length []) (by rw [lineN_length]; omega)) ?_)))
      rw [List.range'_succ, List.filter_cons]
      cases hc : decide (clueL (lineN i B.length) = A.getD ns.length []) with
      | true =>
       refine Ev.ifp rfl (Ev.ifp (by rw [LB_length]; omega) ?_)
       rw [LB_snoc, if_pos rfl, List.flatMap_cons]
       refine Ev.bind (ih (ns ++ [i]) z (by rw [List.length_append, List.length_singleton]; omega) c2) ?_
       refine Ev.eq (ihe (i + 1) _ (by omega) (by rw [List.length_take]; omega)) ?_
       rw [take_app, List.append_assoc]
      | false =>
       rw [if_neg (by simp)]
       exact Ev.ifn (by simp) (ihe (i + 1) z (by omega) hz)
     ·refine Ev.ifn (by rw [LBs_length]; omega) (Ev.eq (Ev.now _) ?_)
      rw [take_full most z _ (by omega)]
   have h3 := loop (2 ^ B.length) 0 out (by omega) (by omega)
   rw [← rowsP_eq] at h3
   exact h3
theorem spec_all_p {A B : List (List Int)} (hP : PicOK A B) (most : Nat) (h1 : 1 ≤ most) (hm : most ≤ 1000) : Ev (fun k => spec_l13All.f k A B most) (LBs B.length ((solG A B).take most)) := by
 have a5 := hP.a5
 unfold spec_l13All.f
 have h := spec_search_p hP most hm A.length [] [] (by simp) (by simp; omega)
 rw [List.nil_append, solsS_filter A B (by omega) A.length [] (by simp)] at h
 exact h
theorem allP_mem (A : List (List Int)) (C : Nat) : ∀ (d : Nat) (ns t : List Nat), t.length = d → (∀ j (h : j < t.length), t[j] ∈ rowsP A C (ns.length + j)) → ns ++ t ∈ allP A C d ns := by
 intro d
 induction d with
 | zero =>
  intro ns t ht h
  have : t = [] := List.eq_nil_of_length_eq_zero ht
  subst this
  simp [allP]
 | succ d ih =>
  intro ns t ht h
  match t, ht, h with
  | m :: t, ht, h =>
   simp only [allP, List.mem_flatMap]
   refine ⟨m, (by have h0 := h 0 (by simp); rw [Nat.add_zero, List.getElem_cons_zero] at h0; exact h0), ?_⟩
   have h1 := ih (ns ++ [m]) t (by simpa using ht) (fun j hj => by
    have := h (j + 1) (by simpa using hj)
    simp only [List.getElem_cons_succ] at this
    rw [List.length_append, List.length_singleton, Nat.add_assoc, Nat.add_comm 1 j]
    exact this)
   rw [List.append_assoc] at h1
   exact h1
theorem allP_rows (A : List (List Int)) (C : Nat) : ∀ (d : Nat) (ns g : List Nat), g ∈ allP A C d ns → ∃ t, g = ns ++ t ∧ t.length = d ∧ ∀ j (h : j < t.length), t[j] ∈ rowsP A C (ns.length + j) := by
 intro d
 induction d with
 | zero => intro ns g h; simp [allP] at h; exact ⟨[], by simp [h], rfl, fun j h => by simp at h⟩
 | succ d ih =>
  intro ns g h
  simp only [allP, List.mem_flatMap] at h
  obtain ⟨m, hm, hg⟩ := h
  obtain ⟨t, ht, hl, hr⟩ := ih _ _ hg
  refine ⟨m :: t, by rw [ht]; simp, by simp [hl], fun j hj => ?_⟩
  cases j with
  | zero => simpa using hm
  | succ j =>
   have := hr j (by simpa using hj)
   rw [List.length_append, List.length_singleton, Nat.add_assoc, Nat.add_comm 1 j] at this
   simpa using this
theorem rowsP_iff (A : List (List Int)) (C r m : Nat) : m ∈ rowsP A C r ↔ m < 2 ^ C ∧ clueL (lineN m C) = A.getD r [] := by
 unfold rowsP
 rw [LF_mem, List.length_replicate]
 unfold isLine
 rw [Bool.and_eq_true, decide_eq_true_eq, List.length_replicate]
 constructor
 ·rintro ⟨a, _, b⟩; exact ⟨a, b⟩
 ·rintro ⟨a, b⟩; exact ⟨a, fit_free _ _, b⟩
/-- Rows of bools in a list that are a picture's. -/
theorem impl_first_l (A B : List (List Int)) (g : List Nat) (hg : ∀ m ∈ g, m < 4611686018427387904) (hB : B.length ≤ 60) (hgl : g.length ≤ 1000) : ∀ (d i : Nat) (out : List (List Bool)), g.length = i + d → out = LB B.length (g.take i) →
  Ev (fun k => impl_PictureFirst.l0 k out (I1 g) g.length i A B) (LB B.length g, true) := by
 intro d
 induction d with
 | zero =>
  intro i out hi ho
  refine Ev.step (fun k => by rw [impl_PictureFirst.l0]) ?_
  refine Ev.ifn (by omega) (Ev.eq (Ev.now _) ?_)
  rw [ho, List.take_of_length_le (by omega)]
 | succ d ih =>
  intro i out hi ho
  have hw : wrap64 ((i : Int) + 1) = ((i + 1 : Nat) : Int) := by rw [w64 (by omega) (by omega)]; omega
  have hlt : i < g.length := by omega
  have hol : out.length ≤ 1000 := by rw [ho, LB_length, List.length_take]; omega
  have q1 : (i : Int) < ((I1 g).length : Int) := by rw [I1_length]; exact int_of_lt hlt
  refine Ev.step (fun k => by rw [impl_PictureFirst.l0, hw, rd_I1 g i hlt]) ?_
  refine Ev.ifp (int_of_lt hlt) (Ev.ifp (nat_nn i) (Ev.ifp q1 (Ev.bind (impl_lineOf_ev g[i] B.length (hg _ (List.getElem_mem hlt)) hB) (Ev.ifp (Nat.lt_of_le_of_lt hol (by decide)) ?_))))
  refine ih (i + 1) _ (by omega) ?_
  rw [ho, List.take_succ_eq_append_getElem hlt, LB_snoc]
theorem sol_lt {A B : List (List Int)} (hB : B.length ≤ 8) {g : List Nat} (h : g ∈ solG A B) : (∀ m ∈ g, m < 4611686018427387904) ∧ g.length = A.length := by
 unfold solG at h
 have hp := (List.mem_filter.1 h).1
 obtain ⟨t, e, hl, hr⟩ := allP_rows A B.length A.length [] g hp
 rw [List.nil_append] at e
 subst e
 refine ⟨fun m hm => ?_, hl⟩
 obtain ⟨j, hj, rfl⟩ := List.getElem_of_mem hm
 exact rowsP_lt A B.length _ _ hB (hr j hj)
def firstV (A B : List (List Int)) : List (List Bool) × Bool := if picV A B = true then (match solG A B with | [] => ([], false) | g :: _ => (LB B.length g, true)) else ([], false)
theorem impl_first_ev {A B : List (List Int)} (al : ∀ x ∈ A, x.length ≤ 1048576) (all : A.length ≤ 1048576) (bl : ∀ x ∈ B, x.length ≤ 1048576) (bll : B.length ≤ 1048576) : Ev (fun k => impl_PictureFirst.f k A B) (firstV A B) := by
 unfold impl_PictureFirst.f firstV
 refine Ev.bind (impl_pic A B al all bl bll) ?_
 by_cases c : picV A B = true
 ·rw [if_pos c]
  have hP := PicOK.of c al bl
  have a5 := hP.a5
  have b5 := hP.b5
  have h := first_ev hP 1 (by omega) (by omega)
  refine Ev.ifp c (Ev.bind h ?_)
  match hs : solG A B with
  | [] => exact Ev.ifp (by simp [I2]) (Ev.now _)
  | g :: gs =>
   have hg := sol_lt (A := A) (B := B) (by omega) (g := g) (by rw [hs]; simp)
   have e : I2 ((g :: gs).take 1) = [I1 g] := by simp [I2]
   rw [e]
   refine Ev.ifn (by simp) (Ev.ifp (by simp) ?_)
   have e2 : rd_L1 [I1 g] 0 = I1 g := rdL_nat [I1 g] 0 (by simp)
   rw [e2, I1_length]
   exact impl_first_l A B g hg.1 (by omega) (by omega) g.length 0 [] (by omega) (by simp [LB])
 ·rw [if_neg c]
  exact Ev.ifn c (Ev.now _)
theorem ownint_l (l : List (List Int)) (hl : l.length ≤ 1000) (hx : ∀ x ∈ l, x.length ≤ 1048576) : ∀ (d i : Nat), l.length = i + d → Ev (fun k => spec_l1OwnRowsInt.l0 k l (l.take i) i) l := by
 intro d
 induction d with
 | zero =>
  intro i hi
  rw [List.take_of_length_le (by omega)]
  exact Ev.step (fun k => by rw [spec_l1OwnRowsInt.l0]) (Ev.ifn (by omega) (Ev.now _))
 | succ d ih =>
  intro i hi
  have hw : wrap64 ((i : Int) + 1) = ((i + 1 : Nat) : Int) := by rw [w64 (by omega) (by omega)]; omega
  have hlt : i < l.length := by omega
  have h1 := hx _ (List.getElem_mem hlt)
  have h := ih (i + 1) (by omega)
  rw [List.take_succ_eq_append_getElem hlt] at h
  refine Ev.step (fun k => by rw [spec_l1OwnRowsInt.l0]) ?_
  rw [rdL_nat l i hlt, hw]
  refine Ev.ifp (by omega) ?_
  refine Ev.bindc rfl ?_
  refine Ev.ifp (by omega) (Ev.ifp (by simp only [List.length_nil]; omega) (Ev.ifp (by rw [List.length_take]; omega) ?_))
  rw [List.nil_append]
  exact h
theorem ownint_ev (l : List (List Int)) (hl : l.length ≤ 1000) (hx : ∀ x ∈ l, x.length ≤ 1048576) : Ev (fun k => spec_l1OwnRowsInt.f k l) l := by
 unfold spec_l1OwnRowsInt.f
 exact ownint_l l hl hx l.length 0 (by omega)
theorem solG_iff (A B : List (List Int)) (g : List Nat) : g ∈ solG A B ↔ (g.length = A.length ∧ (∀ j (h : j < g.length), g[j] < 2 ^ B.length ∧ clueL (lineN g[j] B.length) = A.getD j [])) ∧ ∀ c, c < B.length → clueL (colN g c) = B.getD c [] := by
 unfold solG
 rw [List.mem_filter]
 have h2 : okG B g = true ↔ ∀ c, c < B.length → clueL (colN g c) = B.getD c [] := by
  unfold okG
  rw [List.all_eq_true]
  constructor
  ·intro h c hc
   have := h c (List.mem_range.2 hc)
   simpa using this
  ·intro h c hc
   have := h c (List.mem_range.1 hc)
   simpa using this
 rw [h2]
 constructor
 ·rintro ⟨hp, ho⟩
  obtain ⟨t, e, hl, hr⟩ := allP_rows A B.length A.length [] g hp
  rw [List.nil_append] at e
  subst e
  refine ⟨⟨hl, fun j hj => ?_⟩, ho⟩
  have := hr j hj
  rw [List.length_nil, Nat.zero_add, rowsP_iff] at this
  exact this
 ·rintro ⟨⟨hl, hr⟩, ho⟩
  refine ⟨?_, ho⟩
  have := allP_mem A B.length A.length [] g hl (fun j hj => by rw [List.length_nil, Nat.zero_add, rowsP_iff]; exact hr j hj)
  rw [List.nil_append] at this
  exact this
theorem spec_first_ev {A B : List (List Int)} (al : ∀ x ∈ A, x.length ≤ 1048576) (all : A.length ≤ 1000) (bl : ∀ x ∈ B, x.length ≤ 1048576) (bll : B.length ≤ 1000) : Ev (fun k => spec_PictureFirst.f k A B) (firstV A B) := by
 have ho : Ev (fun k => spec_l1OwnPicture.f k A B) (A, B) := by
  unfold spec_l1OwnPicture.f
  exact Ev.bind (ownint_ev A all al) (Ev.bind (ownint_ev B bll bl) (Ev.now _))
 unfold spec_PictureFirst.f firstV
 refine Ev.bind ho (Ev.bind (spec_pic A B al (by omega) bl (by omega)) ?_)
 by_cases c : picV A B = true
 ·rw [if_pos c]
  have hP := PicOK.of c al bl
  have h := spec_all_p hP 1 (by omega) (by omega)
  refine Ev.ifp c (Ev.bind h ?_)
  match hs : solG A B with
  | [] => exact Ev.ifp (by simp [LBs]) (Ev.now _)
  | g :: gs =>
   have e : LBs B.length ((g :: gs).take 1) = [LB B.length g] := by simp [LBs]
   rw [e]
   refine Ev.ifn (by simp) (Ev.ifp (by simp) (Ev.eq (Ev.now _) ?_))
   have e2 : rd_L5 [LB B.length g] 0 = LB B.length g := by simp [rd_L5]
   rw [e2]
 ·rw [if_neg c]
  exact Ev.ifn c (Ev.now _)
/-- A solution's rows are a picture of the puzzle. -/
theorem sol_picof {A B : List (List Int)} (a1 : 1 ≤ A.length) (a5 : A.length ≤ 5) (b1 : 1 ≤ B.length) (b5 : B.length ≤ 5) {g : List Nat} (h : g ∈ solG A B) : picOfV (LB B.length g) = (A, B, true) := by
 rw [solG_iff] at h
 obtain ⟨⟨hl, hr⟩, hc⟩ := h
 have hL : (LB B.length g).length = A.length := by rw [LB_length, hl]
 have h0 : ((LB B.length g).getD 0 []).length = B.length := by
  rw [List.getD_eq_getElem?_getD, List.getElem?_eq_getElem (by omega)]
  exact LB_row _ _ _ (List.getElem_mem _)
 unfold picOfV
 rw [h0, hL, if_pos ⟨a1, a5, b1, b5, fun x hx => LB_row _ _ x hx⟩]
 have e1 : (LB B.length g).map clueL = A := by
  apply List.ext_getElem
  ·rw [List.length_map, hL]
  ·intro j h1 h2
   have hj : j < g.length := by omega
   have := (hr j hj).2
   rw [List.getD_eq_getElem?_getD, List.getElem?_eq_getElem h2] at this
   simp only [LB, List.getElem_map]
   exact this
 have e2 : colsV (LB B.length g) B.length = B := by
  apply List.ext_getElem
  ·rw [colsV_length]
  ·intro j h1 h2
   have := hc j h2
   rw [List.getD_eq_getElem?_getD, List.getElem?_eq_getElem h2] at this
   simp only [colsV, List.getElem_map, List.getElem_range]
   rw [LB_col _ _ _ h2]
   exact this
 rw [e1, e2]
theorem sameFlags_l (a : List Bool) (hl : a.length ≤ 140737488351232) : ∀ (d i : Nat), a.length = i + d → Ev (fun k => laws_sameFlags.l0 k a a i) true := by
 intro d
 induction d with
 | zero => intro i hi; exact Ev.step (fun k => by rw [laws_sameFlags.l0]) (Ev.ifn (by omega) (Ev.now _))
 | succ d ih =>
  intro i hi
  have hw : wrap64 ((i : Int) + 1) = ((i + 1 : Nat) : Int) := by rw [w64 (by omega) (by omega)]; omega
  refine Ev.step (fun k => by rw [laws_sameFlags.l0, hw]) ?_
  exact Ev.ifp (by omega) (Ev.ifp (by omega) (Ev.ifp (by omega) (Ev.ifn (by simp) (ih (i + 1) (by omega)))))
theorem sameFlags_self (a : List Bool) (hl : a.length ≤ 140737488351232) : Ev (fun k => laws_sameFlags.f k a a) true := by
 unfold laws_sameFlags.f
 exact Ev.ifp rfl (sameFlags_l a hl a.length 0 (by omega))
/-! The reader of draws: only that each number drawn lies in its range. -/
structure Byts (b : List Int) : Prop where
 len : b.length ≤ 2000
 val : ∀ x ∈ b, 0 ≤ x ∧ x ≤ 255
theorem xor_nn {a b : Int} (ha : 0 ≤ a) (ha1 : a < 4611686018427387904) (hb : 0 ≤ b) (hb1 : b < 4611686018427387904) : 0 ≤ Go.bits .xor .i64 a b := by
 obtain ⟨m, rfl⟩ := Int.eq_ofNat_of_zero_le ha
 obtain ⟨n, rfl⟩ := Int.eq_ofNat_of_zero_le hb
 have h : (m ^^^ n) < 2 ^ 62 := Nat.xor_lt_two_pow (by omega) (by omega)
 have hm : m % 2 ^ IntKind.i64.bits = m := Nat.mod_eq_of_lt (show m < 2 ^ 64 by omega)
 have hn : n % 2 ^ IntKind.i64.bits = n := Nat.mod_eq_of_lt (show n < 2 ^ 64 by omega)
 simp only [Go.bits, BitVec.ofInt_natCast, BitVec.toNat_xor, BitVec.toNat_ofNat, hm, hn]
 rw [IntKind.wrap_i64]
 omega
theorem open_ok (l : List Int) (h : l.length ≤ maxLen) (hb : ∀ x ∈ l, (Lit.int .u8 x).wf = true) : ∃ b, spec_l20Open.f l = some (b, 0) ∧ Byts b := by
 unfold spec_l20Open.f
 by_cases c : (l.length : Int) > 2000
 ·rw [if_pos c, if_pos (by omega)]
  exact ⟨_, rfl, by rw [List.length_take]; omega, fun x hx => wf_u8 (hb x (List.mem_of_mem_take hx))⟩
 ·rw [if_neg c]
  exact ⟨_, rfl, by omega, fun x hx => wf_u8 (hb x hx)⟩
theorem pick_any {b : List Int} (hb : Byts b) {p : Int} (hp : 0 ≤ p) (hp1 : p ≤ 1000000) (n : Int) (hn1 : n ≤ 9223372036854775807) :
  ∃ r, Ev (fun k => spec_l20Rd_pick.f k b p n) (r, p + 1) ∧ 0 ≤ r ∧ (1 ≤ n → r < n) ∧ (n < 1 → r = 0) := by
 have hw : wrap64 (p + 1) = p + 1 := w64 (by omega) (by omega)
 have hw2 : wrap64 (p + 1 - 1) = p := by rw [w64 (by omega) (by omega)]; omega
 have hl := hb.len
 unfold spec_l20Rd_pick.f
 by_cases c : n < 1
 ·refine ⟨0, Ev.ifp c (Ev.step (f := fun _ => some (0, p + 1)) (fun k => ?_) (Ev.now _)), by omega, by omega, fun _ => rfl⟩
  rw [spec_l20Rd_pick.j0]; rw [if_pos rfl, hw]
 ·by_cases c0 : b.length = 0
  ·refine ⟨0, Ev.ifn c (Ev.step (f := fun _ => some (0, p + 1)) (fun k => ?_) (Ev.now _)), by omega, by omega, fun _ => rfl⟩
   rw [spec_l20Rd_pick.j0]
   rw [c0, if_pos (by decide), hw]
  ·have c0' : ((b.length : Int) == 0) = false := by simp; intro h; simp [h] at c0
   by_cases c1 : p < (b.length : Int)
   ·have hm := hb.val _ (rd_mem b p hp c1)
    refine ⟨Int.tmod (rd b p) n, Ev.ifn c (Ev.step (f := fun _ => some (Int.tmod (rd b p) n, p + 1)) (fun k => ?_) (Ev.now _)), Int.tmod_nonneg _ hm.1, fun h => Int.tmod_lt_of_pos _ (by omega), fun h => absurd h c⟩
    rw [spec_l20Rd_pick.j0]
    rw [c0', if_neg (by decide), hw, hw2, if_pos c1, if_pos hp, if_neg (by omega), w64 (by omega) (by omega)]
   ·have hL : (0 : Int) < (b.length : Int) := by omega
    have e1 := Int.tmod_nonneg (b.length : Int) hp
    have e2 := Int.tmod_lt_of_pos p hL
    have k7 : wrap64 (p * 7) = p * 7 := w64 (by omega) (by omega)
    have k73 : wrap64 (p * 7 + 3) = p * 7 + 3 := w64 (by omega) (by omega)
    have e3 := Int.tmod_nonneg (b.length : Int) (show 0 ≤ p * 7 + 3 by omega)
    have e4 := Int.tmod_lt_of_pos (p * 7 + 3) hL
    have m1 := hb.val _ (rd_mem b _ e1 e2)
    have m2 := hb.val _ (rd_mem b _ e3 e4)
    have d0 : Int.tdiv p (b.length : Int) = p / (b.length : Int) := Int.tdiv_eq_ediv_of_nonneg hp
    have d1 : 0 ≤ p / (b.length : Int) := Int.ediv_nonneg hp (by omega)
    have d2 : p / (b.length : Int) ≤ p := Int.ediv_le_self _ hp
    generalize hx1 : rd b (Int.tmod p (b.length : Int)) = x1 at m1
    generalize hx2 : rd b (Int.tmod (p * 7 + 3) (b.length : Int)) = x2 at m2
    generalize hq : p / (b.length : Int) = q at d0 d1 d2
    have hX : 0 ≤ Go.bits .xor .i64 (x1 * 131 + x2 * 1117 + p * 29 + q * 53) ((x1 * 131 + x2 * 1117 + p * 29 + q * 53) / 64) := xor_nn (by omega) (by omega) (by omega) (by omega)
    generalize hR : Go.bits .xor .i64 (x1 * 131 + x2 * 1117 + p * 29 + q * 53) ((x1 * 131 + x2 * 1117 + p * 29 + q * 53) / 64) = X at hX
    refine ⟨Int.tmod X n, Ev.ifn c (Ev.step (f := fun _ => some (Int.tmod X n, p + 1)) (fun k => ?_) (Ev.now _)), Int.tmod_nonneg _ hX, fun h => Int.tmod_lt_of_pos _ (by omega), fun h => absurd h c⟩
    rw [spec_l20Rd_pick.j0]
    rw [c0', if_neg (by decide), hw, hw2, if_neg c1, if_neg (by omega), k7, k73, if_pos e1, if_pos e2, if_pos e3, if_pos e4, if_neg (by omega), hx1, hx2, d0]
    rw [w64 (x := x1) (by omega) (by omega), w64 (x := x2) (by omega) (by omega), w64 (x := q) (by omega) (by omega), w64 (x := x1 * 131) (by omega) (by omega), w64 (x := x2 * 1117) (by omega) (by omega), w64 (x := p * 29) (by omega) (by omega), w64 (x := q * 53) (by omega) (by omega)]
    rw [w64 (x := x1 * 131 + x2 * 1117) (by omega) (by omega), w64 (x := x1 * 131 + x2 * 1117 + p * 29) (by omega) (by omega), w64 (x := x1 * 131 + x2 * 1117 + p * 29 + q * 53) (by omega) (by omega)]
    rw [Int.tdiv_eq_ediv_of_nonneg (by omega), w64 (by omega) (by omega), hR]
theorem odd_any {b : List Int} (hb : Byts b) {p : Int} (hp : 0 ≤ p) (hp1 : p ≤ 1000000) (n : Int) (hn1 : n ≤ 9223372036854775807) :
  ∃ r q, Ev (fun k => spec_l20Rd_odd.f k b p n) (r, q) ∧ p ≤ q ∧ q ≤ p + 1 := by
 unfold spec_l20Rd_odd.f
 by_cases c : n > 0
 ·obtain ⟨r, e, _⟩ := pick_any hb hp hp1 n hn1
  exact ⟨_, _, Ev.ifp c (Ev.bind e (Ev.now _)), by omega, by omega⟩
 ·exact ⟨_, _, Ev.ifn c (Ev.now _), by omega, by omega⟩
theorem rdL3_nat (xs : List (List Bool)) (i : Nat) (h : i < xs.length) : rd_L3 xs (i : Int) = xs[i] := by
 simp [rd_L3, List.getD_eq_getElem?_getD, h]
theorem rows_l1 {b : List Int} (hb : Byts b) (x5 : List (List Bool)) (h5 : x5.length ≤ 100) (W : Nat) (hW : W ≤ 5) (x7 : Int) (P : List (List Bool) × Int → Prop) :
  ∀ (e j : Nat) (p : Int) (x8 : List Bool), W = j + e → x8.length = j → 0 ≤ p → p + e ≤ 1000 →
  (∀ (row : List Bool) (q : Int), row.length = W → p ≤ q → q ≤ p + e → ∃ r, Ev (fun k => spec_l20Rows.l0 k 0 (x5 ++ [row]) W (wrap64 (x7 - 1)) b q) r ∧ P r) →
  ∃ r, Ev (fun k => spec_l20Rows.l1 k 0 x5 W x7 x8 j b p) r ∧ P r := by
 intro e
 induction e with
 | zero =>
  intro j p x8 hj h8 hp hp1 K
  obtain ⟨r, hr, hP⟩ := K x8 p (by omega) (by omega) (by omega)
  exact ⟨r, Ev.step (fun k => by rw [spec_l20Rows.l1]) (Ev.ifn (by omega) (Ev.ifp (by omega) hr)), hP⟩
 | succ e ih =>
  intro j p x8 hj h8 hp hp1 K
  have hw : wrap64 ((j : Int) + 1) = ((j + 1 : Nat) : Int) := by rw [w64 (by omega) (by omega)]; omega
  obtain ⟨v, hv, _⟩ := pick_any hb hp (by omega) 2 (by omega)
  obtain ⟨r, hr, hP⟩ := ih (j + 1) (p + 1) (x8 ++ [v == 0]) (by omega) (by simp [h8]) (by omega) (by omega) (fun row q a1 a2 a3 => K row q a1 (by omega) (by omega))
  refine ⟨r, ?_, hP⟩
  refine Ev.step (fun k => by rw [spec_l20Rows.l1]) ?_
  rw [hw]
  refine Ev.ifp (by omega) ?_
  refine Ev.bind hv ?_
  exact Ev.ifp (by omega) hr
theorem rows_l0 {b : List Int} (hb : Byts b) (W : Nat) (hW : W ≤ 5) : ∀ (d : Nat) (p : Int) (x5 : List (List Bool)), d + x5.length ≤ 50 → (∀ x ∈ x5, x.length = W) → 0 ≤ p → p + 10 * d ≤ 500 →
  ∃ r : List (List Bool) × Int, Ev (fun k => spec_l20Rows.l0 k 0 x5 W d b p) r ∧ (r.1.length = x5.length + d ∧ (∀ x ∈ r.1, x.length = W) ∧ p ≤ r.2 ∧ r.2 ≤ p + 10 * d) := by
 intro d
 induction d with
 | zero =>
  intro p x5 h5 hl hp hp1
  have ho : Ev (fun k => spec_l20Rd_odd.f k b p 0) (false, p) := by
   unfold spec_l20Rd_odd.f
   exact Ev.ifn (by omega) (Ev.now _)
  have h : Ev (fun k => spec_l20Rows.l0 k 0 x5 W ((0 : Nat) : Int) b p) (x5, p) := by
   refine Ev.step (fun k => by rw [spec_l20Rows.l0]) ?_
   refine Ev.ifn (by omega) ?_
   refine Ev.bind ho ?_
   exact Ev.ifn (by simp) (Ev.now _)
  exact ⟨(x5, p), h, by simp, hl, by simp, by simp⟩
 | succ d ih =>
  intro p x5 h5 hl hp hp1
  have hw : wrap64 (((d + 1 : Nat) : Int) - 1) = (d : Int) := by rw [w64 (by omega) (by omega)]; omega
  obtain ⟨r, hr, hP⟩ := rows_l1 hb x5 (by omega) W hW ((d + 1 : Nat) : Int) (fun r => r.1.length = x5.length + (d + 1) ∧ (∀ x ∈ r.1, x.length = W) ∧ p ≤ r.2 ∧ r.2 ≤ p + 10 * ((d + 1 : Nat) : Int)) W 0 p [] (by omega) rfl hp (by omega) (fun row q h1 h2 h3 => by
   obtain ⟨r, hr, g1, g2, g3, g4⟩ := ih q (x5 ++ [row]) (by simp only [List.length_append, List.length_cons, List.length_nil]; omega) (by intro x hx; rcases List.mem_append.1 hx with hx | hx; exact hl x hx; simp at hx; rw [hx]; exact h1) (by omega) (by omega)
   refine ⟨r, by rw [hw]; exact hr, by rw [g1]; simp only [List.length_append, List.length_cons, List.length_nil]; omega, g2, by omega, by omega⟩)
  have hr' : Ev (fun k => spec_l20Rows.l1 k 0 x5 W ((d + 1 : Nat) : Int) [] 0 b p) r := hr
  have h : Ev (fun k => spec_l20Rows.l0 k 0 x5 W ((d + 1 : Nat) : Int) b p) r := by
   refine Ev.step (fun k => by rw [spec_l20Rows.l0]) ?_
   exact Ev.ifp (by omega) hr'
  exact ⟨r, h, hP⟩
theorem rows_any {b : List Int} (hb : Byts b) : ∃ (rows : List (List Bool)) (W : Nat) (q : Int), Ev (fun k => spec_l20Rows.f k b 0 0) (rows, q) ∧ 1 ≤ rows.length ∧ rows.length ≤ 5 ∧ (∀ x ∈ rows, x.length = W) ∧ 1 ≤ W ∧ W ≤ 5 ∧ 0 ≤ q ∧ q ≤ 100 := by
 obtain ⟨u, hu, u0, u1, _⟩ := pick_any hb (p := 0) (by omega) (by omega) 5 (by omega)
 have u1 := u1 (by omega)
 obtain ⟨v, hv, v0, v1, _⟩ := pick_any hb (p := 0 + 1) (by omega) (by omega) 5 (by omega)
 have v1 := v1 (by omega)
 have hwu : wrap64 (1 + u) = ((u.toNat + 1 : Nat) : Int) := by rw [w64 (by omega) (by omega)]; omega
 have hwv : wrap64 (1 + v) = ((v.toNat + 1 : Nat) : Int) := by rw [w64 (by omega) (by omega)]; omega
 obtain ⟨⟨rows, q⟩, hr, g1, g2, g3, g4⟩ := rows_l0 hb (u.toNat + 1) (by omega) (v.toNat + 1) (0 + 1 + 1) [] (by simp only [List.length_nil]; omega) (by simp) (by omega) (by omega)
 simp only [List.length_nil] at g1 g3 g4
 refine ⟨rows, u.toNat + 1, q, ?_, by omega, by omega, g2, by omega, by omega, by omega, by omega⟩
 unfold spec_l20Rows.f
 refine Ev.bind hu (Ev.bind hv ?_)
 rw [hwu, hwv]
 exact hr
theorem ownrows_l (l : List (List Bool)) (hl : l.length ≤ 100) (hx : ∀ x ∈ l, x.length ≤ 100) : ∀ (d i : Nat), l.length = i + d → Ev (fun k => spec_l1OwnRowsBool.l0 k l (l.take i) i) l := by
 intro d
 induction d with
 | zero =>
  intro i hi
  rw [List.take_of_length_le (by omega)]
  exact Ev.step (fun k => by rw [spec_l1OwnRowsBool.l0]) (Ev.ifn (by omega) (Ev.now _))
 | succ d ih =>
  intro i hi
  have hw : wrap64 ((i : Int) + 1) = ((i + 1 : Nat) : Int) := by rw [w64 (by omega) (by omega)]; omega
  have hlt : i < l.length := by omega
  have h1 := hx _ (List.getElem_mem hlt)
  have h := ih (i + 1) (by omega)
  rw [List.take_succ_eq_append_getElem hlt] at h
  refine Ev.step (fun k => by rw [spec_l1OwnRowsBool.l0]) ?_
  rw [rdL3_nat l i hlt, hw]
  refine Ev.ifp (by omega) ?_
  refine Ev.bindc rfl ?_
  refine Ev.ifp (by omega) (Ev.ifp (by simp only [List.length_nil]; omega) (Ev.ifp (by rw [List.length_take]; omega) ?_))
  rw [List.nil_append]
  exact h
theorem column_l (l : List (List Bool)) (hl : l.length ≤ 100) (c W : Nat) (hx : ∀ x ∈ l, x.length = W) (hc : c < W) : ∀ (d i : Nat) (out : List Bool), l.length = i + d → out.length = i → ∃ r : List Bool, Ev (fun k => spec_l13Column.l0 k l c out i) r ∧ r.length = l.length := by
 intro d
 induction d with
 | zero =>
  intro i out hi ho
  exact ⟨out, Ev.step (fun k => by rw [spec_l13Column.l0]) (Ev.ifn (by omega) (Ev.now _)), by omega⟩
 | succ d ih =>
  intro i out hi ho
  have hw : wrap64 ((i : Int) + 1) = ((i + 1 : Nat) : Int) := by rw [w64 (by omega) (by omega)]; omega
  have hlt : i < l.length := by omega
  have h1 := hx _ (List.getElem_mem hlt)
  obtain ⟨r, hr, hl2⟩ := ih (i + 1) (out ++ [rdOf false l[i] c]) (by omega) (by simp [ho])
  refine ⟨r, ?_, hl2⟩
  refine Ev.step (fun k => by rw [spec_l13Column.l0]) ?_
  rw [rdL3_nat l i hlt, hw]
  exact Ev.ifp (by omega) (Ev.ifp (by omega) (Ev.ifp (by omega) (Ev.ifp (by omega) (Ev.ifp (by omega) hr))))
theorem picof_l1 (l : List (List Bool)) (hl : l.length ≤ 5) (hl1 : 1 ≤ l.length) (W : Nat) (hx : ∀ x ∈ l, x.length = W) (hW : W ≤ 5) (A : List (List Int)) : ∀ (d c : Nat) (B : List (List Int)), W = c + d → B.length = c → (∀ x ∈ B, x.length ≤ 9) →
  ∃ B' : List (List Int), Ev (fun k => spec_PictureOf.l1 k l c A B) (A, B', true) ∧ B'.length = W ∧ ∀ x ∈ B', x.length ≤ 9 := by
 intro d
 induction d with
 | zero =>
  intro c B hc hB hB9
  refine ⟨B, ?_, by omega, hB9⟩
  have := hx _ (List.getElem_mem (show 0 < l.length by omega))
  refine Ev.step (fun k => by rw [spec_PictureOf.l1]) ?_
  rw [show rd_L3 l 0 = l[0] from rdL3_nat l 0 (by omega)]
  exact Ev.ifp (by omega) (Ev.ifn (by omega) (Ev.now _))
 | succ d ih =>
  intro c B hc hB hB9
  have hw : wrap64 ((c : Int) + 1) = ((c + 1 : Nat) : Int) := by rw [w64 (by omega) (by omega)]; omega
  obtain ⟨col, hcol, hcl⟩ := column_l l (by omega) c W hx (by omega) l.length 0 [] (by omega) rfl
  obtain ⟨B', hB', g1, g2⟩ := ih (c + 1) (B ++ [clueL col]) (by omega) (by simp [hB]) (by intro x hx2; rcases List.mem_append.1 hx2 with hx2 | hx2; exact hB9 x hx2; simp at hx2; rw [hx2]; exact clueL_len _)
  refine ⟨B', ?_, g1, g2⟩
  have := hx _ (List.getElem_mem (show 0 < l.length by omega))
  have hcf : Ev (fun k => spec_l13Column.f k l c) col := by unfold spec_l13Column.f; exact hcol
  refine Ev.step (fun k => by rw [spec_PictureOf.l1]) ?_
  rw [show rd_L3 l 0 = l[0] from rdL3_nat l 0 (by omega), hw]
  refine Ev.ifp (by omega) (Ev.ifp (by omega) ?_)
  refine Ev.bind hcf (Ev.bind (spec_clueof col (by omega)) ?_)
  exact Ev.ifp (by omega) hB'
theorem picof_l0 (l : List (List Bool)) (hl : l.length ≤ 5) (hl1 : 1 ≤ l.length) (W : Nat) (hx : ∀ x ∈ l, x.length = W) (hW : W ≤ 5) : ∀ (d i : Nat) (A : List (List Int)), l.length = i + d → A.length = i → (∀ x ∈ A, x.length ≤ 9) →
  ∃ A' B' : List (List Int), Ev (fun k => spec_PictureOf.l0 k l i A) (A', B', true) ∧ A'.length = l.length ∧ B'.length = W ∧ (∀ x ∈ A', x.length ≤ 9) ∧ ∀ x ∈ B', x.length ≤ 9 := by
 intro d
 induction d with
 | zero =>
  intro i A hi hA hA9
  obtain ⟨B', h, g1, g2⟩ := picof_l1 l hl hl1 W hx hW A W 0 [] (by omega) rfl (by simp)
  refine ⟨A, B', ?_, by omega, g1, hA9, g2⟩
  refine Ev.step (fun k => by rw [spec_PictureOf.l0]) ?_
  exact Ev.ifn (by omega) h
 | succ d ih =>
  intro i A hi hA hA9
  have hw : wrap64 ((i : Int) + 1) = ((i + 1 : Nat) : Int) := by rw [w64 (by omega) (by omega)]; omega
  have hlt : i < l.length := by omega
  have h0 := hx _ (List.getElem_mem hlt)
  have h1 := hx _ (List.getElem_mem (show 0 < l.length by omega))
  obtain ⟨A', B', h, g⟩ := ih (i + 1) (A ++ [clueL l[i]]) (by omega) (by simp [hA]) (by intro x hx2; rcases List.mem_append.1 hx2 with hx2 | hx2; exact hA9 x hx2; simp at hx2; rw [hx2]; exact clueL_len _)
  refine ⟨A', B', ?_, g⟩
  refine Ev.step (fun k => by rw [spec_PictureOf.l0]) ?_
  rw [rdL3_nat l i hlt, show rd_L3 l 0 = l[0] from rdL3_nat l 0 (by omega), hw]
  refine Ev.ifp (by omega) (Ev.ifp (by omega) (Ev.ifp (by omega) (Ev.ifp (by omega) ?_)))
  exact Ev.bind (spec_clueof l[i] (by omega)) (Ev.ifp (by omega) h)
theorem l1In_ff (x a b : Int) : spec_l1In.f x a b = some (decide (a ≤ x ∧ x ≤ b)) := by
 unfold spec_l1In.f
 by_cases c : x ≥ a
 ·rw [if_pos c]; simp [show a ≤ x from c]
 ·rw [if_neg c]; simp [show ¬ a ≤ x from c]
theorem picof_any (l : List (List Bool)) (hl : l.length ≤ 5) (hl1 : 1 ≤ l.length) (W : Nat) (hx : ∀ x ∈ l, x.length = W) (hW1 : 1 ≤ W) (hW : W ≤ 5) :
  ∃ A' B' : List (List Int), Ev (fun k => spec_PictureOf.f k l) (A', B', true) ∧ A'.length = l.length ∧ B'.length = W ∧ (∀ x ∈ A', x.length ≤ 9) ∧ ∀ x ∈ B', x.length ≤ 9 := by
 obtain ⟨A', B', h, g⟩ := picof_l0 l hl hl1 W hx hW l.length 0 [] (by omega) rfl (by simp)
 have h1 := hx _ (List.getElem_mem (show 0 < l.length by omega))
 refine ⟨A', B', ?_, g⟩
 unfold spec_PictureOf.f
 have ho : Ev (fun k => spec_l1OwnRowsBool.f k l) l := by
  unfold spec_l1OwnRowsBool.f
  exact ownrows_l l (by omega) (fun x hx2 => by rw [hx x hx2]; omega) l.length 0 (by omega)
 refine Ev.bind ho ?_
 refine Ev.bindc (l1In_ff _ _ _) ?_
 rw [show rd_L3 l 0 = l[0] from rdL3_nat l 0 (by omega)]
 have d1 : decide (1 ≤ (l.length : Int) ∧ (l.length : Int) ≤ 5) = true := decide_eq_true ⟨by omega, by omega⟩
 have d2 : decide ((1 : Int) ≤ ((l[0].length : Nat) : Int) ∧ ((l[0].length : Nat) : Int) ≤ (5 : Int)) = true := decide_eq_true ⟨by omega, by omega⟩
 refine Ev.ifp d1 (Ev.ifp (by omega) ?_)
 refine Ev.bindc (l1In_ff _ _ _) ?_
 rw [d2]
 refine Ev.step (fun k => by rw [spec_PictureOf.j0]) ?_
 exact Ev.ifn (by simp) h
theorem set_len9 {A : List (List Int)} (h : ∀ x ∈ A, x.length ≤ 9) (i : Nat) (v : List Int) (hv : v.length ≤ 9) : ∀ x ∈ A.set i v, x.length ≤ 9 := by
 intro x hx
 rcases List.mem_or_eq_of_mem_set hx with hx | hx
 ·exact h x hx
 ·rw [hx]; exact hv
theorem pic_j0 {b : List Int} (hb : Byts b) (n : Int) (hn : n ≤ 100) (A B : List (List Int)) (hA : 1 ≤ A.length) (hA5 : A.length ≤ 5) (hB : 1 ≤ B.length) (hB5 : B.length ≤ 5) (hA9 : ∀ x ∈ A, x.length ≤ 9) (hB9 : ∀ x ∈ B, x.length ≤ 9) (p : Int) (hp : 0 ≤ p) (hp1 : p ≤ 1000) :
  ∃ (A' B' : List (List Int)) (q : Int), Ev (fun k => spec_l20Picture.j0 k n b p A B) (A', B', q) ∧ A'.length ≤ 5 ∧ B'.length ≤ 5 ∧ (∀ x ∈ A', x.length ≤ 9) ∧ (∀ x ∈ B', x.length ≤ 9) ∧ p ≤ q ∧ q ≤ p + 2 := by
 obtain ⟨o, q, e, hq1, hq2⟩ := odd_any hb hp (by omega) n (by omega)
 cases o with
 | false =>
  refine ⟨A, B, q, ?_, hA5, hB5, hA9, hB9, by omega, by omega⟩
  refine Ev.step (fun k => by rw [spec_l20Picture.j0]) ?_
  exact Ev.bind e (Ev.ifn (by simp) (Ev.now _))
 | true =>
  obtain ⟨v, hv, v0, v1, _⟩ := pick_any hb (p := q) (by omega) (by omega) 3 (by omega)
  by_cases c0 : v = 0
  ·refine ⟨[], B, q + 1, ?_, by simp, hB5, by simp, hB9, by omega, by omega⟩
   refine Ev.step (fun k => by rw [spec_l20Picture.j0]) ?_
   exact Ev.bind e (Ev.ifp rfl (Ev.bind hv (Ev.ifp c0 (Ev.now _))))
  ·by_cases c1 : v = 1
   ·refine ⟨A, B.set 0 [6], q + 1, ?_, hA5, by simpa using hB5, hA9, set_len9 hB9 _ _ (by simp), by omega, by omega⟩
    refine Ev.step (fun k => by rw [spec_l20Picture.j0]) ?_
    exact Ev.bind e (Ev.ifp rfl (Ev.bind hv (Ev.ifn c0 (Ev.ifp c1 (Ev.ifp (by omega) (Ev.now _))))))
   ·refine ⟨A.set 0 [0], B, q + 1, ?_, by simpa using hA5, hB5, set_len9 hA9 _ _ (by simp), hB9, by omega, by omega⟩
    refine Ev.step (fun k => by rw [spec_l20Picture.j0]) ?_
    exact Ev.bind e (Ev.ifp rfl (Ev.bind hv (Ev.ifn c0 (Ev.ifn c1 (Ev.ifp (by omega) (Ev.now _))))))
theorem pic_any {b : List Int} (hb : Byts b) (n : Int) (hn : n ≤ 100) :
  ∃ (A' B' : List (List Int)) (q : Int), Ev (fun k => spec_l20Picture.f k b 0 n) (A', B', q) ∧ A'.length ≤ 5 ∧ B'.length ≤ 5 ∧ (∀ x ∈ A', x.length ≤ 9) ∧ (∀ x ∈ B', x.length ≤ 9) ∧ 0 ≤ q ∧ q ≤ 200 := by
 obtain ⟨rows, W, q, hr, r1, r5, rW, w1, w5, q0, q1⟩ := rows_any hb
 obtain ⟨A, B, hp, gA, gB, gA9, gB9⟩ := picof_any rows r5 r1 W rW w1 w5
 obtain ⟨o, q2, e, hq1, hq2⟩ := odd_any hb q0 (by omega) 5 (by omega)
 cases o with
 | false =>
  obtain ⟨A', B', q', h, h1, h2, h3, h4, h5, h6⟩ := pic_j0 hb n hn A B (by omega) (by omega) (by omega) (by omega) gA9 gB9 q2 (by omega) (by omega)
  exact ⟨A', B', q', by unfold spec_l20Picture.f; exact Ev.bind hr (Ev.bind hp (Ev.bind e (Ev.ifn (by simp) h))), h1, h2, h3, h4, by omega, by omega⟩
 | true =>
  obtain ⟨u, hu, u0, u1, _⟩ := pick_any hb (p := q2) (by omega) (by omega) (A.length : Int) (by omega)
  have u1 := u1 (by omega)
  obtain ⟨v, hv, v0, v1, _⟩ := pick_any hb (p := q2 + 1) (by omega) (by omega) 2 (by omega)
  have v1 := v1 (by omega)
  have hl2 : (lit2 v).length ≤ 9 := by unfold lit2; split <;> simp
  obtain ⟨A', B', q', h, h1, h2, h3, h4, h5, h6⟩ := pic_j0 hb n hn (A.set u.toNat (lit2 v)) B (by simp; omega) (by simp; omega) (by omega) (by omega) (set_len9 gA9 _ _ hl2) gB9 (q2 + 1 + 1) (by omega) (by omega)
  exact ⟨A', B', q', by unfold spec_l20Picture.f; exact Ev.bind hr (Ev.bind hp (Ev.bind e (Ev.ifp rfl (Ev.bind hu (Ev.bind hv (Ev.ifp ⟨u0, by omega⟩ (Ev.ifp (by omega) h))))))), h1, h2, h3, h4, by omega, by omega⟩
theorem FnPictureFirst : laws_FnPictureFirst.Pure := by
 intro l0 hl _ hw
 apply Ev.rounds
 unfold laws_FnPictureFirst.f
 by_cases c : (l0.length : Int) > 1048576
 ·exact Ev.ifp c (Ev.now _)
 refine Ev.ifn c ?_
 obtain ⟨b, ho, hb⟩ := open_ok l0 hl hw
 obtain ⟨A, B, q, hp, a5, b5, a9, b9, _, _⟩ := pic_any hb 9 (by omega)
 have hD : Ev (fun k => spec_DrawPictureFirst.f k l0) (A, B) := by
  unfold spec_DrawPictureFirst.f
  exact Ev.bindc ho (Ev.bind hp (Ev.now _))
 have ha : ∀ x ∈ A, x.length ≤ 1048576 := fun x hx => by have := a9 x hx; omega
 have hbb : ∀ x ∈ B, x.length ≤ 1048576 := fun x hx => by have := b9 x hx; omega
 refine Ev.bind hD ?_
 dsimp only
 refine (Ev.bind (impl_first_ev ha (by omega) hbb (by omega)) (Ev.bind (spec_first_ev ha (by omega) hbb (by omega)) (Ev.ifp rfl ?_)))
 have hne : ((firstV A B).2 != (firstV A B).2) = false := by simp
 rw [hne]
 refine Ev.step (fun k => by rw [laws_FnPictureFirst.j0]) ?_
 refine Ev.ifn (by simp) ?_
 have hnone : firstV A B = ([], false) → Ev (fun k => if (firstV A B).2 = true then (laws_FnPictureFirst.l0 k (firstV A B).1 (firstV A B).1 0 A B) else (if (((firstV A B).1).length : Int) = 0 then ((laws_alive.f k).bind fun t424 => (some t424)) else (some false))) true := by
  intro e
  rw [e]
  exact Ev.ifn (by simp) (Ev.ifp (by simp) (Ev.bind alive_ev (Ev.now _)))
 by_cases cp : picV A B = true
 ·have hP := PicOK.of cp ha hbb
  have a1 := hP.a1
  have b1 := hP.b1
  match hs : solG A B with
  | [] => exact hnone (by unfold firstV; rw [if_pos cp, hs])
  | g :: gs =>
   have hg : g ∈ solG A B := by rw [hs]; simp
   have e : firstV A B = (LB B.length g, true) := by unfold firstV; rw [if_pos cp, hs]
   have hgl : g.length = A.length := (sol_lt (by omega) hg).2
   rw [e]
   refine Ev.ifp rfl ?_
   have hpic : Ev (fun k => impl_PictureOf.f k (LB B.length g)) (A, B, true) := by
    have := picofi_ev (LB B.length g) (by rw [LB_length]; omega) (fun x hx => by rw [LB_row _ _ x hx]; omega)
    rw [sol_picof a1 a5 b1 b5 hg] at this
    exact this
   have hcols : ∀ (d i : Nat), B.length = i + d → Ev (fun k => laws_FnPictureFirst.l2 k true i A B A B) true := by
    intro d
    induction d with
    | zero =>
     intro i hi
     refine Ev.step (fun k => by rw [laws_FnPictureFirst.l2]) ?_
     exact Ev.ifn (by omega) (Ev.ifp rfl (Ev.ifp rfl (Ev.eq (Ev.now _) (by simp))))
    | succ d ih =>
     intro i hi
     have hw : wrap64 ((i : Int) + 1) = ((i + 1 : Nat) : Int) := by rw [w64 (by omega) (by omega)]; omega
     have hlt : i < B.length := by omega
     have h1 := b9 _ (List.getElem_mem hlt)
     refine Ev.step (fun k => by rw [laws_FnPictureFirst.l2, hw, rdL_nat _ i hlt]) ?_
     exact Ev.ifp (int_of_lt hlt) (Ev.ifn (by have := int_of_lt hlt; omega) (Ev.ifp (nat_nn i) (Ev.ifp (int_of_lt hlt) (Ev.bind (sameInts_self _ (Nat.le_trans h1 (by decide))) (Ev.ifp rfl (ih (i + 1) (by omega)))))))
   have hrows : ∀ (d i : Nat), A.length = i + d → Ev (fun k => laws_FnPictureFirst.l1 k true i A B A B) true := by
    intro d
    induction d with
    | zero =>
     intro i hi
     refine Ev.step (fun k => by rw [laws_FnPictureFirst.l1]) ?_
     exact Ev.ifn (by omega) (hcols B.length 0 (by omega))
    | succ d ih =>
     intro i hi
     have hw : wrap64 ((i : Int) + 1) = ((i + 1 : Nat) : Int) := by rw [w64 (by omega) (by omega)]; omega
     have hlt : i < A.length := by omega
     have h1 := a9 _ (List.getElem_mem hlt)
     refine Ev.step (fun k => by rw [laws_FnPictureFirst.l1, hw, rdL_nat _ i hlt]) ?_
     exact Ev.ifp (int_of_lt hlt) (Ev.ifn (by have := int_of_lt hlt; omega) (Ev.ifp (nat_nn i) (Ev.ifp (int_of_lt hlt) (Ev.bind (sameInts_self _ (Nat.le_trans h1 (by decide))) (Ev.ifp rfl (ih (i + 1) (by omega)))))))
   have hflags : ∀ (d i : Nat), (LB B.length g).length = i + d → Ev (fun k => laws_FnPictureFirst.l0 k (LB B.length g) (LB B.length g) i A B) true := by
    intro d
    induction d with
    | zero =>
     intro i hi
     refine Ev.step (fun k => by rw [laws_FnPictureFirst.l0]) ?_
     exact Ev.ifn (by omega) (Ev.bind hpic (hrows A.length 0 (by omega)))
    | succ d ih =>
     intro i hi
     have hLl : (LB B.length g).length ≤ 5 := by rw [LB_length]; omega
     have hw : wrap64 ((i : Int) + 1) = ((i + 1 : Nat) : Int) := by rw [w64 (by omega) (by omega)]; omega
     have hlt : i < (LB B.length g).length := by omega
     have h1 := LB_row _ _ _ (List.getElem_mem hlt)
     refine Ev.step (fun k => by rw [laws_FnPictureFirst.l0, hw, rdB_nat _ i hlt]) ?_
     exact Ev.ifp (int_of_lt hlt) (Ev.ifp (nat_nn i) (Ev.ifp (int_of_lt hlt) (Ev.bind (sameFlags_self _ (by rw [h1]; exact Nat.le_trans b5 (by decide))) (Ev.ifp rfl (ih (i + 1) (by omega))))))
   exact hflags (LB B.length g).length 0 (by omega)
 ·exact hnone (by unfold firstV; rw [if_neg cp])

end Go.Proofs.Ytapnohcfnclleaa.Pure
