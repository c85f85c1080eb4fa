/- For every code of at most a million bytes the program's PictureValid and the reference's agree on the picture puzzle that it draws; without rows, or with a row whose clue is too large, no puzzle is valid. -/
import Derived.Test.YtapnohcfnclleaaPFnPictureValidx8
namespace Go.Proofs.Ytapnohcfnclleaa.Pure
open Go.RowKit Go.Proofs.Ytapnohcfnclleaa.PFnPictureValid Go.Proofs.YtapnohcfnclleaaW.PrintWords Go.Proofs.YtapnohcfnclleaaW.PrintLast Go.Proofs.YtapnohcfnclleaaW.PrintMore
set_option linter.unusedVariables false
set_option linter.unusedSimpArgs false
/-! Ev: small steps. -/
theorem _root_.Go.Proofs.YtapnohcfnclleaaW.PrintWords.Ev.ifp {α : Type} {c : Prop} [Decidable c] {g f : Nat → Option α} {r : α} (hc : c) (h : Ev g r) : Ev (fun k => if c then g k else f k) r :=
  Ev.congr (fun _ => if_pos hc) h
theorem _root_.Go.Proofs.YtapnohcfnclleaaW.PrintWords.Ev.ifn {α : Type} {c : Prop} [Decidable c] {g f : Nat → Option α} {r : α} (hc : ¬ c) (h : Ev f r) : Ev (fun k => if c then g k else f k) r :=
  Ev.congr (fun _ => if_neg hc) h
theorem _root_.Go.Proofs.YtapnohcfnclleaaW.PrintWords.Ev.bindc {α β : Type} {o : Option α} {f : Nat → α → Option β} {a : α} {r : β} (h : o = some a) (k : Ev (fun n => f n a) r) : Ev (fun n => o.bind (f n)) r := by
  subst h; exact k
theorem _root_.Go.Proofs.YtapnohcfnclleaaW.PrintWords.Ev.eq {α : Type} {g : Nat → Option α} {r r' : α} (h : Ev g r) (e : r = r') : Ev g r' := e ▸ h
theorem _root_.Go.Proofs.YtapnohcfnclleaaW.PrintWords.Ev.cst {α : Type} {o : Option α} {r : α} (h : o = some r) : Ev (fun _ => o) r := ⟨0, fun _ _ => h⟩
theorem w64 {x : Int} (h0 : -9223372036854775808 ≤ x) (h1 : x ≤ 9223372036854775807) : wrap64 x = x := by unfold wrap64; omega
theorem wf_i64 {x : Int} (h : (Lit.int .i64 x).wf = true) : -9223372036854775808 ≤ x ∧ x ≤ 9223372036854775807 := by
  have h2 : (decide (IntKind.i64.min ≤ x) && decide (x ≤ IntKind.i64.max)) = true := h
  simp [IntKind.min, IntKind.max, IntKind.bits, IntKind.signed] at h2
  exact h2
theorem wf_u8 {x : Int} (h : (Lit.int .u8 x).wf = true) : 0 ≤ x ∧ x ≤ 255 := by
  have h2 : (decide (IntKind.u8.min ≤ x) && decide (x ≤ IntKind.u8.max)) = true := h
  simp [IntKind.min, IntKind.max, IntKind.bits, IntKind.signed] at h2
  omega
theorem rd_nat (xs : List Int) (i : Nat) (h : i < xs.length) : rd xs (i : Int) = xs[i] := by
  simp [rd, List.getD_eq_getElem?_getD, h]
theorem rd_mem (xs : List Int) (i : Int) (h0 : 0 ≤ i) (h : i < xs.length) : rd xs i ∈ xs := by
  obtain ⟨n, rfl⟩ := Int.eq_ofNat_of_zero_le h0
  rw [rd_nat xs n (by omega)]; exact List.getElem_mem _
theorem alive_ev : Ev (fun k => laws_alive.f k) true := Ev.of (fun k => laws_alive.mono k) (k := 20) (by decide +kernel)
theorem l1In_f (a b c : Int) : spec_l1In.f a b c = some (decide (b ≤ a ∧ a ≤ c)) := by
  unfold spec_l1In.f
  by_cases h : a ≥ b
  · rw [if_pos h]; simp; omega
  · rw [if_neg h]; simp; omega
/-- The cells that a clue takes, with one behind each number. -/
def csum : List Int → Int
  | [] => 0
  | n :: l => n + 1 + csum l
/-- What ClueValid answers. -/
def clueV (c : List Int) (n : Int) : Bool := decide (1 ≤ n ∧ n ≤ 8) && (c.all (fun x => decide (1 ≤ x)) && decide (csum c ≤ n + 1))
theorem csum_nn : ∀ c : List Int, c.all (fun x => decide (1 ≤ x)) = true → 2 * (c.length : Int) ≤ csum c := by
  intro c
  induction c with
  | nil => intro _; simp [csum]
  | cons x c ih =>
    intro h
    simp only [List.all_cons, Bool.and_eq_true, decide_eq_true_eq] at h
    have := ih h.2
    simp only [csum, List.length_cons]
    omega
theorem csum_le : ∀ c : List Int, c.all (fun x => decide (1 ≤ x)) = true → ∀ x ∈ c, x < csum c := by
  intro c
  induction c with
  | nil => intro _ x hx; simp at hx
  | cons y c ih =>
    intro h x hx
    simp only [List.all_cons, Bool.and_eq_true, decide_eq_true_eq] at h
    have hn := csum_nn c h.2
    simp only [csum]
    rcases List.mem_cons.1 hx with hx | hx
    · omega
    · have := ih h.2 x hx
      omega
theorem impl_clue_l (l : List Int) (hl : l.length ≤ 140737488351232) : ∀ (d i : Nat) (t : Int), l.length = i + d → 0 ≤ t → t ≤ 100 →
    Ev (fun k => impl_ClueValid.l0 k t l l.length i) ((l.drop i).all (fun x => decide (1 ≤ x)) && decide (csum (l.drop i) ≤ t)) := by
  intro d
  induction d with
  | zero =>
    intro i t hi h0 h1
    refine Ev.step (fun k => by rw [impl_ClueValid.l0]) (Ev.ifn (by omega) (Ev.eq (Ev.now _) ?_))
    rw [List.drop_eq_nil_of_le (by omega)]; simp [csum, h0]
  | succ d ih =>
    intro i t hi h0 h1
    have hlt : i < l.length := by omega
    have hw : wrap64 ((i : Int) + 1) = ((i + 1 : Nat) : Int) := by rw [w64 (by omega) (by omega)]; omega
    refine Ev.step (fun k => by rw [impl_ClueValid.l0]) ?_
    rw [rd_nat l i hlt, hw, List.drop_eq_getElem_cons hlt, List.all_cons]
    rw [show csum (l[i] :: l.drop (i + 1)) = l[i] + 1 + csum (l.drop (i + 1)) from rfl]
    refine Ev.ifp (by omega) (Ev.ifp (by omega) (Ev.ifp (by omega) ?_))
    by_cases c1 : l[i] < 1
    · have h : ¬ 1 ≤ l[i] := by omega
      exact Ev.ifp c1 (Ev.eq (Ev.now _) (by simp [h]))
    refine Ev.ifn c1 ?_
    have g : 1 ≤ l[i] := by omega
    by_cases c2 : l[i] ≥ t
    · refine Ev.ifp c2 (Ev.eq (Ev.now _) ?_)
      symm
      rw [Bool.and_eq_false_iff]
      cases ha : (l.drop (i + 1)).all (fun x => decide (1 ≤ x))
      · left; simp
      · right
        have := csum_nn _ ha
        simp; omega
    · refine Ev.ifn c2 ?_
      rw [w64 (x := l[i] + 1) (by omega) (by omega), w64 (by omega) (by omega)]
      refine Ev.eq (ih (i + 1) (t - (l[i] + 1)) (by omega) (by omega) (by omega)) ?_
      simp only [g, decide_true, Bool.true_and]
      congr 1
      rw [decide_eq_decide]; omega
theorem impl_clue (l : List Int) (n : Int) (hl : l.length ≤ 140737488351232) : Ev (fun k => impl_ClueValid.f k l n) (clueV l n) := by
  have no : ∀ b : Bool, b = true → ¬ (1 ≤ n ∧ n ≤ 8) → Ev (fun k => impl_ClueValid.j0 k l n b) (clueV l n) := by
    intro b hb h
    refine Ev.step (fun k => by rw [impl_ClueValid.j0]) (Ev.ifp hb (Ev.eq (Ev.now _) ?_))
    unfold clueV
    rw [decide_eq_false h]; simp
  unfold impl_ClueValid.f
  by_cases c1 : n < 1
  · exact Ev.ifp c1 (no _ rfl (by omega))
  refine Ev.ifn c1 ?_
  by_cases c2 : n > 8
  · exact no _ (by simpa using c2) (by omega)
  refine Ev.step (fun k => by rw [impl_ClueValid.j0]) (Ev.ifn (by simpa using c2) ?_)
  rw [w64 (by omega) (by omega)]
  refine Ev.eq (impl_clue_l l hl l.length 0 (n + 1) (by omega) (by omega) (by omega)) ?_
  unfold clueV
  rw [decide_eq_true (show 1 ≤ n ∧ n ≤ 8 by omega)]; simp
def isum : List Int → Int
  | [] => 0
  | n :: l => n + isum l
theorem csum_isum : ∀ c : List Int, csum c = isum c + c.length := by
  intro c
  induction c with
  | nil => rfl
  | cons x c ih => simp only [csum, isum, List.length_cons]; omega
theorem spec_clue_l (l : List Int) (n : Int) (hl : l.length ≤ 1000000000) : ∀ (d i : Nat) (t : Int), l.length = i + d → -1 ≤ t → t ≤ 1000000000 + 8 * i →
    Ev (fun k => spec_ClueValid.l0 k l n t i) ((l.drop i).all (fun x => decide (1 ≤ x ∧ x ≤ 8)) && (decide (1 ≤ n ∧ n ≤ 8) && decide (t + isum (l.drop i) ≤ n))) := by
  intro d
  induction d with
  | zero =>
    intro i t hi h0 h1
    refine Ev.step (fun k => by rw [spec_ClueValid.l0]) (Ev.ifn (by omega) (Ev.bindc (l1In_f _ _ _) ?_))
    rw [List.drop_eq_nil_of_le (by omega)]
    rw [show isum [] = 0 from rfl, Int.add_zero]
    simp only [List.all_nil, Bool.true_and]
    by_cases c : 1 ≤ n ∧ n ≤ 8
    · exact Ev.ifp (by simpa using c) (Ev.eq (Ev.now _) (by simp [c]))
    · refine Ev.ifn (by simpa using c) (Ev.eq (Ev.now _) ?_)
      rw [decide_eq_false c]; simp
  | succ d ih =>
    intro i t hi h0 h1
    have hlt : i < l.length := by omega
    have hw : wrap64 ((i : Int) + 1) = ((i + 1 : Nat) : Int) := by rw [w64 (by omega) (by omega)]; omega
    refine Ev.step (fun k => by rw [spec_ClueValid.l0]) ?_
    rw [rd_nat l i hlt, hw, List.drop_eq_getElem_cons hlt, List.all_cons]
    rw [show isum (l[i] :: l.drop (i + 1)) = l[i] + isum (l.drop (i + 1)) from rfl]
    refine Ev.ifp (by omega) (Ev.ifp (by omega) (Ev.bindc (l1In_f _ _ _) ?_))
    by_cases c1 : 1 ≤ l[i] ∧ l[i] ≤ 8
    · refine Ev.ifp (by simpa using c1) ?_
      rw [w64 (by omega) (by omega)]
      refine Ev.eq (ih (i + 1) (t + l[i]) (by omega) (by omega) (by omega)) ?_
      simp only [c1, and_self, decide_true, Bool.true_and]
      congr 2
      rw [decide_eq_decide]; omega
    · refine Ev.ifn (by simpa using c1) (Ev.eq (Ev.now _) ?_)
      rw [decide_eq_false c1]; simp
theorem spec_clue (l : List Int) (n : Int) (hl : l.length ≤ 1000000000) : Ev (fun k => spec_ClueValid.f k l n) (clueV l n) := by
  unfold spec_ClueValid.f
  rw [w64 (by omega) (by omega)]
  refine Ev.eq (spec_clue_l l n hl l.length 0 ((l.length : Int) - 1) (by omega) (by omega) (by omega)) ?_
  unfold clueV
  rw [List.drop_zero]
  by_cases c : 1 ≤ n ∧ n ≤ 8
  · simp only [c, and_self, decide_true, Bool.true_and]
    have e := csum_isum l
    rw [Bool.eq_iff_iff]
    simp only [Bool.and_eq_true, decide_eq_true_eq]
    constructor
    · rintro ⟨h1, h2⟩
      refine ⟨?_, by omega⟩
      rw [List.all_eq_true] at h1 ⊢
      intro x hx
      have := h1 x hx
      simp only [decide_eq_true_eq] at this ⊢
      exact this.1
    · rintro ⟨h1, h2⟩
      refine ⟨?_, by omega⟩
      have h3 := csum_le l h1
      rw [List.all_eq_true] at h1 ⊢
      intro x hx
      have a := h1 x hx
      have b := h3 x hx
      simp only [decide_eq_true_eq] at a ⊢
      omega
  · rw [decide_eq_false c]; simp
theorem rdL_nat (xs : List (List Int)) (i : Nat) (h : i < xs.length) : rd_L1 xs (i : Int) = xs[i] := by
  simp [rd_L1, List.getD_eq_getElem?_getD, h]
/-- What PictureValid answers. -/
def picV (a b : List (List Int)) : Bool := (decide (1 ≤ a.length ∧ a.length ≤ 5) && decide (1 ≤ b.length ∧ b.length ≤ 5)) && (a.all (fun c => clueV c b.length) && b.all (fun c => clueV c a.length))
theorem spec_pic_l1 (a b : List (List Int)) (hb : ∀ x ∈ b, x.length ≤ 1048576) (hl : b.length ≤ 1048576) : ∀ (d i : Nat), b.length = i + d →
    Ev (fun k => spec_PictureValid.l1 k i a b) ((b.drop i).all (fun c => clueV c a.length) && (decide (1 ≤ a.length ∧ a.length ≤ 5) && decide (1 ≤ b.length ∧ b.length ≤ 5))) := by
  intro d
  induction d with
  | zero =>
    intro i hi
    refine Ev.step (fun k => by rw [spec_PictureValid.l1]) (Ev.ifn (by omega) (Ev.bindc (l1In_f _ _ _) ?_))
    rw [List.drop_eq_nil_of_le (by omega)]
    by_cases c : 1 ≤ (a.length : Int) ∧ (a.length : Int) ≤ 5
    · refine Ev.ifp (by simpa using c) (Ev.bindc (l1In_f _ _ _) (Ev.eq (Ev.now _) ?_))
      have h : 1 ≤ a.length ∧ a.length ≤ 5 := by omega
      rw [show decide (1 ≤ (b.length : Int) ∧ (b.length : Int) ≤ 5) = decide (1 ≤ b.length ∧ b.length ≤ 5) from by rw [decide_eq_decide]; omega]
      simp [h]
    · refine Ev.ifn (by simpa using c) (Ev.eq (Ev.now _) ?_)
      have h : ¬ (1 ≤ a.length ∧ a.length ≤ 5) := by omega
      simp [h]
  | succ d ih =>
    intro i hi
    have hw : wrap64 ((i : Int) + 1) = ((i + 1 : Nat) : Int) := by rw [w64 (by omega) (by omega)]; omega
    have hlt : i < b.length := by omega
    refine Ev.step (fun k => by rw [spec_PictureValid.l1]) ?_
    rw [rdL_nat b i hlt, hw, List.drop_eq_getElem_cons hlt, List.all_cons]
    refine Ev.ifp (by omega) (Ev.ifp (by omega) (Ev.bind (spec_clue _ _ (by have := hb _ (List.getElem_mem hlt); omega)) ?_))
    cases hc : clueV b[i] a.length
    · exact Ev.ifn (by simp) (Ev.eq (Ev.now _) (by simp))
    · exact Ev.ifp rfl (Ev.eq (ih (i + 1) (by omega)) (by simp))
theorem spec_pic_l0 (a b : List (List Int)) (ha : ∀ x ∈ a, x.length ≤ 1048576) (hal : a.length ≤ 1048576) (hb : ∀ x ∈ b, x.length ≤ 1048576) (hl : b.length ≤ 1048576) : ∀ (d i : Nat), a.length = i + d →
    Ev (fun k => spec_PictureValid.l0 k i a b) ((a.drop i).all (fun c => clueV c b.length) && (b.all (fun c => clueV c a.length) && (decide (1 ≤ a.length ∧ a.length ≤ 5) && decide (1 ≤ b.length ∧ b.length ≤ 5)))) := by
  intro d
  induction d with
  | zero =>
    intro i hi
    have h1 : Ev (fun k => spec_PictureValid.l1 k 0 a b) _ := spec_pic_l1 a b hb hl b.length 0 (by omega)
    refine Ev.step (fun k => by rw [spec_PictureValid.l0]) (Ev.ifn (by omega) (Ev.eq h1 ?_))
    rw [List.drop_eq_nil_of_le (show a.length ≤ i by omega)]; simp
  | succ d ih =>
    intro i hi
    have hw : wrap64 ((i : Int) + 1) = ((i + 1 : Nat) : Int) := by rw [w64 (by omega) (by omega)]; omega
    have hlt : i < a.length := by omega
    refine Ev.step (fun k => by rw [spec_PictureValid.l0]) ?_
    rw [rdL_nat a i hlt, hw, List.drop_eq_getElem_cons hlt, List.all_cons]
    refine Ev.ifp (by omega) (Ev.ifp (by omega) (Ev.bind (spec_clue _ _ (by have := ha _ (List.getElem_mem hlt); omega)) ?_))
    cases hc : clueV a[i] b.length
    · exact Ev.ifn (by simp) (Ev.eq (Ev.now _) (by simp))
    · exact Ev.ifp rfl (Ev.eq (ih (i + 1) (by omega)) (by simp))
theorem spec_pic (a b : List (List Int)) (ha : ∀ x ∈ a, x.length ≤ 1048576) (hal : a.length ≤ 1048576) (hb : ∀ x ∈ b, x.length ≤ 1048576) (hl : b.length ≤ 1048576) : Ev (fun k => spec_PictureValid.f k a b) (picV a b) := by
  unfold spec_PictureValid.f
  refine Ev.eq (spec_pic_l0 a b ha hal hb hl a.length 0 (by omega)) ?_
  rw [List.drop_zero]; unfold picV
  ac_rfl
theorem impl_pic_l1 (a b : List (List Int)) (hb : ∀ x ∈ b, x.length ≤ 1048576) (hl : b.length ≤ 1048576) : ∀ (d i : Nat), b.length = i + d →
    Ev (fun k => impl_PictureValid.l1 k b b.length i a b) ((b.drop i).all (fun c => clueV c a.length)) := by
  intro d
  induction d with
  | zero =>
    intro i hi
    refine Ev.step (fun k => by rw [impl_PictureValid.l1]) (Ev.ifn (by omega) (Ev.eq (Ev.now _) ?_))
    rw [List.drop_eq_nil_of_le (by omega)]; simp
  | succ d ih =>
    intro i hi
    have hw : wrap64 ((i : Int) + 1) = ((i + 1 : Nat) : Int) := by rw [w64 (by omega) (by omega)]; omega
    have hlt : i < b.length := by omega
    refine Ev.step (fun k => by rw [impl_PictureValid.l1]) ?_
    rw [rdL_nat b i hlt, hw, List.drop_eq_getElem_cons hlt, List.all_cons]
    refine Ev.ifp (by omega) (Ev.ifp (by omega) (Ev.ifp (by omega) (Ev.bind (impl_clue _ _ (by have := hb _ (List.getElem_mem hlt); omega)) ?_)))
    cases hc : clueV b[i] a.length
    · exact Ev.ifn (by simp) (Ev.eq (Ev.now _) (by simp))
    · exact Ev.ifp rfl (Ev.eq (ih (i + 1) (by omega)) (by simp))
theorem impl_pic_l0 (a b : List (List Int)) (ha : ∀ x ∈ a, x.length ≤ 1048576) (hal : a.length ≤ 1048576) (hb : ∀ x ∈ b, x.length ≤ 1048576) (hl : b.length ≤ 1048576) : ∀ (d i : Nat), a.length = i + d →
    Ev (fun k => impl_PictureValid.l0 k a a.length i a b) ((a.drop i).all (fun c => clueV c b.length) && b.all (fun c => clueV c a.length)) := by
  intro d
  induction d with
  | zero =>
    intro i hi
    have h1 : Ev (fun k => impl_PictureValid.l1 k b b.length 0 a b) _ := impl_pic_l1 a b hb hl b.length 0 (by omega)
    refine Ev.step (fun k => by rw [impl_PictureValid.l0]) (Ev.ifn (by omega) (Ev.eq h1 ?_))
    rw [List.drop_eq_nil_of_le (show a.length ≤ i by omega)]; simp
  | succ d ih =>
    intro i hi
    have hw : wrap64 ((i : Int) + 1) = ((i + 1 : Nat) : Int) := by rw [w64 (by omega) (by omega)]; omega
    have hlt : i < a.length := by omega
    refine Ev.step (fun k => by rw [impl_PictureValid.l0]) ?_
    rw [rdL_nat a i hlt, hw, List.drop_eq_getElem_cons hlt, List.all_cons]
    refine Ev.ifp (by omega) (Ev.ifp (by omega) (Ev.ifp (by omega) (Ev.bind (impl_clue _ _ (by have := ha _ (List.getElem_mem hlt); omega)) ?_)))
    cases hc : clueV a[i] b.length
    · exact Ev.ifn (by simp) (Ev.eq (Ev.now _) (by simp))
    · exact Ev.ifp rfl (Ev.eq (ih (i + 1) (by omega)) (by simp))
theorem impl_pic_j (a b : List (List Int)) (ha : ∀ x ∈ a, x.length ≤ 1048576) (hal : a.length ≤ 1048576) (hb : ∀ x ∈ b, x.length ≤ 1048576) (hl : b.length ≤ 1048576) (x : Bool) :
    Ev (fun k => impl_PictureValid.j0 k x a b) (!x && (a.all (fun c => clueV c b.length) && b.all (fun c => clueV c a.length))) := by
  refine Ev.step (fun k => by rw [impl_PictureValid.j0]) ?_
  cases x
  · exact Ev.ifn (by simp) (Ev.eq (impl_pic_l0 a b ha hal hb hl a.length 0 (by omega)) (by simp))
  · exact Ev.ifp rfl (Ev.eq (Ev.now _) (by simp))
theorem impl_pic (a b : List (List Int)) (ha : ∀ x ∈ a, x.length ≤ 1048576) (hal : a.length ≤ 1048576) (hb : ∀ x ∈ b, x.length ≤ 1048576) (hl : b.length ≤ 1048576) : Ev (fun k => impl_PictureValid.f k a b) (picV a b) := by
  unfold impl_PictureValid.f picV
  have hj := impl_pic_j a b ha hal hb hl
  by_cases c1 : (a.length : Int) < 1
  · refine Ev.ifp c1 (Ev.eq (hj true) ?_)
    have h : ¬ (1 ≤ a.length ∧ a.length ≤ 5) := by omega
    simp [h]
  refine Ev.ifn c1 ?_
  by_cases c2 : (a.length : Int) > 5
  · refine Ev.ifp c2 (Ev.eq (hj true) ?_)
    have h : ¬ (1 ≤ a.length ∧ a.length ≤ 5) := by omega
    simp [h]
  refine Ev.ifn c2 ?_
  have h : (1 ≤ a.length ∧ a.length ≤ 5) := by omega
  by_cases c3 : (b.length : Int) < 1
  · refine Ev.ifp c3 (Ev.eq (hj true) ?_)
    have h : ¬ (1 ≤ b.length ∧ b.length ≤ 5) := by omega
    simp [h]
  refine Ev.ifn c3 (Ev.eq (hj _) ?_)
  by_cases c4 : (b.length : Int) > 5
  · have h5 : ¬ (1 ≤ b.length ∧ b.length ≤ 5) := by omega
    simp [h5, c4]
  · have h5 : (1 ≤ b.length ∧ b.length ≤ 5) := by omega
    simp [h5, h, c4]
/-! The reader of draws: only that each number drawn lies in its range. -/
structure Byts (b : List Int) : Prop where
  len : b.length ≤ 2000
  val : ∀ x ∈ b, 0 ≤ x ∧ x ≤ 255
theorem xor_nn {a b : Int} (ha : 0 ≤ a) (ha1 : a < 4611686018427387904) (hb : 0 ≤ b) (hb1 : b < 4611686018427387904) : 0 ≤ Go.bits .xor .i64 a b := by
  obtain ⟨m, rfl⟩ := Int.eq_ofNat_of_zero_le ha
  obtain ⟨n, rfl⟩ := Int.eq_ofNat_of_zero_le hb
  have h : (m ^^^ n) < 2 ^ 62 := Nat.xor_lt_two_pow (by omega) (by omega)
  have hm : m % 2 ^ IntKind.i64.bits = m := Nat.mod_eq_of_lt (show m < 2 ^ 64 by omega)
  have hn : n % 2 ^ IntKind.i64.bits = n := Nat.mod_eq_of_lt (show n < 2 ^ 64 by omega)
  simp only [Go.bits, BitVec.ofInt_natCast, BitVec.toNat_xor, BitVec.toNat_ofNat, hm, hn]
  rw [IntKind.wrap_i64]
  omega
theorem open_ok (l : List Int) (h : l.length ≤ maxLen) (hb : ∀ x ∈ l, (Lit.int .u8 x).wf = true) : ∃ b, spec_l20Open.f l = some (b, 0) ∧ Byts b := by
  unfold spec_l20Open.f
  by_cases c : (l.length : Int) > 2000
  · rw [if_pos c, if_pos (by omega)]
    exact ⟨_, rfl, by rw [List.length_take]; omega, fun x hx => wf_u8 (hb x (List.mem_of_mem_take hx))⟩
  · rw [if_neg c]
    exact ⟨_, rfl, by omega, fun x hx => wf_u8 (hb x hx)⟩
theorem pick_any {b : List Int} (hb : Byts b) {p : Int} (hp : 0 ≤ p) (hp1 : p ≤ 1000000) (n : Int) (hn1 : n ≤ 9223372036854775807) :
    ∃ r, Ev (fun k => spec_l20Rd_pick.f k b p n) (r, p + 1) ∧ 0 ≤ r ∧ (1 ≤ n → r < n) ∧ (n < 1 → r = 0) := by
  have hw : wrap64 (p + 1) = p + 1 := w64 (by omega) (by omega)
  have hw2 : wrap64 (p + 1 - 1) = p := by rw [w64 (by omega) (by omega)]; omega
  have hl := hb.len
  unfold spec_l20Rd_pick.f
  by_cases c : n < 1
  · refine ⟨0, Ev.ifp c (Ev.step (f := fun _ => some (0, p + 1)) (fun k => ?_) (Ev.now _)), by omega, by omega, fun _ => rfl⟩
    rw [spec_l20Rd_pick.j0]; rw [if_pos rfl, hw]
  · by_cases c0 : b.length = 0
    · refine ⟨0, Ev.ifn c (Ev.step (f := fun _ => some (0, p + 1)) (fun k => ?_) (Ev.now _)), by omega, by omega, fun _ => rfl⟩
      rw [spec_l20Rd_pick.j0]
      rw [c0, if_pos (by decide), hw]
    · have c0' : ((b.length : Int) == 0) = false := by simp; intro h; simp [h] at c0
      by_cases c1 : p < (b.length : Int)
      · have hm := hb.val _ (rd_mem b p hp c1)
        refine ⟨Int.tmod (rd b p) n, Ev.ifn c (Ev.step (f := fun _ => some (Int.tmod (rd b p) n, p + 1)) (fun k => ?_) (Ev.now _)), Int.tmod_nonneg _ hm.1, fun h => Int.tmod_lt_of_pos _ (by omega), fun h => absurd h c⟩
        rw [spec_l20Rd_pick.j0]
        rw [c0', if_neg (by decide), hw, hw2, if_pos c1, if_pos hp, if_neg (by omega), w64 (by omega) (by omega)]
      · have hL : (0 : Int) < (b.length : Int) := by omega
        have e1 := Int.tmod_nonneg (b.length : Int) hp
        have e2 := Int.tmod_lt_of_pos p hL
        have k7 : wrap64 (p * 7) = p * 7 := w64 (by omega) (by omega)
        have k73 : wrap64 (p * 7 + 3) = p * 7 + 3 := w64 (by omega) (by omega)
        have e3 := Int.tmod_nonneg (b.length : Int) (show 0 ≤ p * 7 + 3 by omega)
        have e4 := Int.tmod_lt_of_pos (p * 7 + 3) hL
        have m1 := hb.val _ (rd_mem b _ e1 e2)
        have m2 := hb.val _ (rd_mem b _ e3 e4)
        have d0 : Int.tdiv p (b.length : Int) = p / (b.length : Int) := Int.tdiv_eq_ediv_of_nonneg hp
        have d1 : 0 ≤ p / (b.length : Int) := Int.ediv_nonneg hp (by omega)
        have d2 : p / (b.length : Int) ≤ p := Int.ediv_le_self _ hp
        generalize hx1 : rd b (Int.tmod p (b.length : Int)) = x1 at m1
        generalize hx2 : rd b (Int.tmod (p * 7 + 3) (b.length : Int)) = x2 at m2
        generalize hq : p / (b.length : Int) = q at d0 d1 d2
        have hX : 0 ≤ Go.bits .xor .i64 (x1 * 131 + x2 * 1117 + p * 29 + q * 53) ((x1 * 131 + x2 * 1117 + p * 29 + q * 53) / 64) := xor_nn (by omega) (by omega) (by omega) (by omega)
        generalize hR : Go.bits .xor .i64 (x1 * 131 + x2 * 1117 + p * 29 + q * 53) ((x1 * 131 + x2 * 1117 + p * 29 + q * 53) / 64) = X at hX
        refine ⟨Int.tmod X n, Ev.ifn c (Ev.step (f := fun _ => some (Int.tmod X n, p + 1)) (fun k => ?_) (Ev.now _)), Int.tmod_nonneg _ hX, fun h => Int.tmod_lt_of_pos _ (by omega), fun h => absurd h c⟩
        rw [spec_l20Rd_pick.j0]
        rw [c0', if_neg (by decide), hw, hw2, if_neg c1, if_neg (by omega), k7, k73, if_pos e1, if_pos e2, if_pos e3, if_pos e4, if_neg (by omega), hx1, hx2, d0]
        rw [w64 (x := x1) (by omega) (by omega), w64 (x := x2) (by omega) (by omega), w64 (x := q) (by omega) (by omega), w64 (x := x1 * 131) (by omega) (by omega), w64 (x := x2 * 1117) (by omega) (by omega), w64 (x := p * 29) (by omega) (by omega), w64 (x := q * 53) (by omega) (by omega)]
        rw [w64 (x := x1 * 131 + x2 * 1117) (by omega) (by omega), w64 (x := x1 * 131 + x2 * 1117 + p * 29) (by omega) (by omega), w64 (x := x1 * 131 + x2 * 1117 + p * 29 + q * 53) (by omega) (by omega)]
        rw [Int.tdiv_eq_ediv_of_nonneg (by omega), w64 (by omega) (by omega), hR]
theorem odd_any {b : List Int} (hb : Byts b) {p : Int} (hp : 0 ≤ p) (hp1 : p ≤ 1000000) (n : Int) (hn1 : n ≤ 9223372036854775807) :
    ∃ r q, Ev (fun k => spec_l20Rd_odd.f k b p n) (r, q) ∧ p ≤ q ∧ q ≤ p + 1 := by
  unfold spec_l20Rd_odd.f
  by_cases c : n > 0
  · obtain ⟨r, e, _⟩ := pick_any hb hp hp1 n hn1
    exact ⟨_, _, Ev.ifp c (Ev.bind e (Ev.now _)), by omega, by omega⟩
  · exact ⟨_, _, Ev.ifn c (Ev.now _), by omega, by omega⟩
/-- The clue of a line, r cells being filled ahead of it. -/
def clueR : Int → List Bool → List Int
  | r, [] => if 0 < r then [r] else []
  | r, true :: l => clueR (r + 1) l
  | r, false :: l => if 0 < r then r :: clueR 0 l else clueR 0 l
/-- What ClueOf answers. -/
def clueL (l : List Bool) : List Int := if l.length ≤ 8 then clueR 0 l else []
theorem rdOf_nat (xs : List Bool) (i : Nat) (h : i < xs.length) : rdOf false xs (i : Int) = xs[i] := by
  simp [rdOf, List.getD_eq_getElem?_getD, h]
theorem clueR_f : ∀ (l : List Bool) (r : Int), clueR r (l ++ [false]) = clueR r l := by
  intro l
  induction l with
  | nil => intro r; simp [clueR]
  | cons b l ih =>
    intro r
    cases b
    · simp only [List.cons_append, clueR, ih]
    · simp only [List.cons_append, clueR, ih]
theorem clueR_ft : ∀ (l : List Bool) (r : Int), clueR r (l ++ [false] ++ [true]) = clueR r l ++ [1] := by
  intro l
  induction l with
  | nil =>
    intro r
    by_cases h : 0 < r <;> simp [clueR, h]
  | cons b l ih =>
    intro r
    cases b
    · simp only [List.cons_append, clueR]
      rw [ih]
      by_cases h : 0 < r <;> simp [h]
    · simp only [List.cons_append, clueR]
      exact ih _
theorem clueR_tt : ∀ (l : List Bool) (r : Int), 0 ≤ r → ∃ ys z, clueR r (l ++ [true]) = ys ++ [z] ∧ clueR r (l ++ [true] ++ [true]) = ys ++ [z + 1] := by
  intro l
  induction l with
  | nil =>
    intro r hr
    refine ⟨[], r + 1, ?_, ?_⟩
    · simp [clueR]; omega
    · simp [clueR]; omega
  | cons b l ih =>
    intro r hr
    cases b
    · obtain ⟨ys, z, h1, h2⟩ := ih 0 (by omega)
      by_cases h : 0 < r
      · refine ⟨r :: ys, z, ?_, ?_⟩
        · simp only [List.cons_append, clueR, h, if_true, h1]
        · simp only [List.cons_append, clueR, h, if_true]
          rw [h2]
      · refine ⟨ys, z, ?_, ?_⟩
        · simp only [List.cons_append, clueR, h, if_false, h1]
        · simp only [List.cons_append, clueR, h, if_false]
          rw [h2]
    · obtain ⟨ys, z, h1, h2⟩ := ih (r + 1) (by omega)
      exact ⟨ys, z, by simpa only [List.cons_append, clueR] using h1, by simpa only [List.cons_append, clueR] using h2⟩
theorem clueR_le : ∀ (l : List Bool) (r : Int), 0 ≤ r → ∀ x ∈ clueR r l, 1 ≤ x ∧ x ≤ r + l.length := by
  intro l
  induction l with
  | nil =>
    intro r hr x hx
    simp only [clueR] at hx
    split at hx
    · simp at hx; simp; omega
    · simp at hx
  | cons b l ih =>
    intro r hr x hx
    cases b
    · simp only [clueR] at hx
      split at hx
      · rcases List.mem_cons.1 hx with hx | hx
        · simp; omega
        · have := ih 0 (by omega) x hx; simp; omega
      · have := ih 0 (by omega) x hx; simp; omega
    · simp only [clueR] at hx
      have := ih (r + 1) (by omega) x hx; simp; omega
theorem clueR_len : ∀ (l : List Bool) (r : Int), (clueR r l).length ≤ l.length + 1 := by
  intro l
  induction l with
  | nil => intro r; simp only [clueR]; split <;> simp
  | cons b l ih =>
    intro r
    cases b
    · simp only [clueR]
      have := ih 0
      split <;> (simp; omega)
    · simp only [clueR]
      have := ih (r + 1)
      simp; omega
theorem clueL_len (l : List Bool) : (clueL l).length ≤ 9 := by
  unfold clueL
  split
  · have := clueR_len l 0; omega
  · simp
theorem spec_clueof_end (l : List Bool) (out : List Int) (run : Int) (h8 : l.length ≤ 8) : Ev (fun k => spec_ClueOf.l0 k l out run ((l.length + 1 : Nat) : Int)) out := by
  refine Ev.step (fun k => by rw [spec_ClueOf.l0]) (Ev.ifn (by omega) ?_)
  exact Ev.step (fun k => by rw [spec_ClueOf.j1]) (Ev.ifn (by decide) (Ev.now _))
theorem spec_clueof_l (l : List Bool) (h8 : l.length ≤ 8) : ∀ (d i : Nat) (run : Int) (out : List Int), l.length = i + d → 0 ≤ run → run ≤ i → out.length ≤ i →
    Ev (fun k => spec_ClueOf.l0 k l out run i) (out ++ clueR run (l.drop i)) := by
  intro d
  induction d with
  | zero =>
    intro i run out hi h0 h1 h2
    have hw : wrap64 ((i : Int) + 1) = ((l.length + 1 : Nat) : Int) := by rw [w64 (by omega) (by omega)]; omega
    refine Ev.step (fun k => by rw [spec_ClueOf.l0]) (Ev.ifp (by omega) ?_)
    refine Ev.step (fun k => by rw [spec_ClueOf.j1]) (Ev.ifp (by simp; omega) (Ev.ifn (by omega) ?_))
    refine Ev.step (fun k => by rw [spec_ClueOf.j2]) (Ev.ifn (by decide) ?_)
    rw [hw, List.drop_eq_nil_of_le (by omega)]
    by_cases c : run > 0
    · refine Ev.ifp c (Ev.ifp (by omega) (Ev.eq (spec_clueof_end l _ _ h8) ?_))
      simp [clueR, show 0 < run from c]
    · refine Ev.ifn c (Ev.eq (spec_clueof_end l _ _ h8) ?_)
      have : ¬ 0 < run := c
      simp [clueR, this]
  | succ d ih =>
    intro i run out hi h0 h1 h2
    have hlt : i < l.length := by omega
    have hw : wrap64 ((i : Int) + 1) = ((i + 1 : Nat) : Int) := by rw [w64 (by omega) (by omega)]; omega
    refine Ev.step (fun k => by rw [spec_ClueOf.l0]) (Ev.ifp (by omega) ?_)
    refine Ev.step (fun k => by rw [spec_ClueOf.j1]) (Ev.ifp (by simp; omega) (Ev.ifp (by omega) (Ev.ifp (by omega) ?_)))
    refine Ev.step (fun k => by rw [spec_ClueOf.j2]) ?_
    rw [hw, rdOf_nat l i hlt, List.drop_eq_getElem_cons hlt]
    cases hb : l[i]
    · refine Ev.ifn (by decide) ?_
      by_cases c : run > 0
      · refine Ev.ifp c (Ev.ifp (by omega) (Ev.eq (ih (i + 1) 0 (out ++ [run]) (by omega) (by omega) (by omega) (by simp; omega)) ?_))
        simp [clueR, show 0 < run from c]
      · have hr : run = 0 := by omega
        refine Ev.ifn c (Ev.eq (ih (i + 1) run out (by omega) (by omega) (by omega) (by omega)) ?_)
        simp [clueR, hr]
    · refine Ev.ifp rfl ?_
      rw [w64 (x := run + 1) (by omega) (by omega)]
      refine Ev.eq (ih (i + 1) (run + 1) out (by omega) (by omega) (by omega) (by omega)) ?_
      simp [clueR]
theorem spec_clueof (l : List Bool) (hl : l.length ≤ 140737488351232) : Ev (fun k => spec_ClueOf.f k l) (clueL l) := by
  unfold spec_ClueOf.f clueL
  by_cases h8 : l.length ≤ 8
  · exact Ev.eq (spec_clueof_l l h8 l.length 0 0 [] (by omega) (by omega) (by omega) (by simp)) (by rw [if_pos h8]; simp)
  · refine Ev.step (fun k => by rw [spec_ClueOf.l0]) (Ev.ifp (by omega) ?_)
    exact Ev.step (fun k => by rw [spec_ClueOf.j1]) (Ev.ifn (by simp; omega) (Ev.eq (Ev.now _) (by rw [if_neg h8])))
theorem rdL3_nat (xs : List (List Bool)) (i : Nat) (h : i < xs.length) : rd_L3 xs (i : Int) = xs[i] := by
  simp [rd_L3, List.getD_eq_getElem?_getD, h]
theorem rows_l1 {b : List Int} (hb : Byts b) (x5 : List (List Bool)) (h5 : x5.length ≤ 100) (W : Nat) (hW : W ≤ 5) (x7 : Int) (P : List (List Bool) × Int → Prop) :
    ∀ (e j : Nat) (p : Int) (x8 : List Bool), W = j + e → x8.length = j → 0 ≤ p → p + e ≤ 1000 →
    (∀ (row : List Bool) (q : Int), row.length = W → p ≤ q → q ≤ p + e → ∃ r, Ev (fun k => spec_l20Rows.l0 k 0 (x5 ++ [row]) W (wrap64 (x7 - 1)) b q) r ∧ P r) →
    ∃ r, Ev (fun k => spec_l20Rows.l1 k 0 x5 W x7 x8 j b p) r ∧ P r := by
  intro e
  induction e with
  | zero =>
    intro j p x8 hj h8 hp hp1 K
    obtain ⟨r, hr, hP⟩ := K x8 p (by omega) (by omega) (by omega)
    exact ⟨r, Ev.step (fun k => by rw [spec_l20Rows.l1]) (Ev.ifn (by omega) (Ev.ifp (by omega) hr)), hP⟩
  | succ e ih =>
    intro j p x8 hj h8 hp hp1 K
    have hw : wrap64 ((j : Int) + 1) = ((j + 1 : Nat) : Int) := by rw [w64 (by omega) (by omega)]; omega
    obtain ⟨v, hv, _⟩ := pick_any hb hp (by omega) 2 (by omega)
    obtain ⟨r, hr, hP⟩ := ih (j + 1) (p + 1) (x8 ++ [v == 0]) (by omega) (by simp [h8]) (by omega) (by omega) (fun row q a1 a2 a3 => K row q a1 (by omega) (by omega))
    refine ⟨r, ?_, hP⟩
    refine Ev.step (fun k => by rw [spec_l20Rows.l1]) ?_
    rw [hw]
    refine Ev.ifp (by omega) ?_
    refine Ev.bind hv ?_
    exact Ev.ifp (by omega) hr
theorem rows_l0 {b : List Int} (hb : Byts b) (W : Nat) (hW : W ≤ 5) : ∀ (d : Nat) (p : Int) (x5 : List (List Bool)), d + x5.length ≤ 50 → (∀ x ∈ x5, x.length = W) → 0 ≤ p → p + 10 * d ≤ 500 →
    ∃ r : List (List Bool) × Int, Ev (fun k => spec_l20Rows.l0 k 0 x5 W d b p) r ∧ (r.1.length = x5.length + d ∧ (∀ x ∈ r.1, x.length = W) ∧ p ≤ r.2 ∧ r.2 ≤ p + 10 * d) := by
  intro d
  induction d with
  | zero =>
    intro p x5 h5 hl hp hp1
    have ho : Ev (fun k => spec_l20Rd_odd.f k b p 0) (false, p) := by
      unfold spec_l20Rd_odd.f
      exact Ev.ifn (by omega) (Ev.now _)
    have h : Ev (fun k => spec_l20Rows.l0 k 0 x5 W ((0 : Nat) : Int) b p) (x5, p) := by
      refine Ev.step (fun k => by rw [spec_l20Rows.l0]) ?_
      refine Ev.ifn (by omega) ?_
      refine Ev.bind ho ?_
      exact Ev.ifn (by simp) (Ev.now _)
    exact ⟨(x5, p), h, by simp, hl, by simp, by simp⟩
  | succ d ih =>
    intro p x5 h5 hl hp hp1
    have hw : wrap64 (((d + 1 : Nat) : Int) - 1) = (d : Int) := by rw [w64 (by omega) (by omega)]; omega
    obtain ⟨r, hr, hP⟩ := rows_l1 hb x5 (by omega) W hW ((d + 1 : Nat) : Int) (fun r => r.1.length = x5.length + (d + 1) ∧ (∀ x ∈ r.1, x.length = W) ∧ p ≤ r.2 ∧ r.2 ≤ p + 10 * ((d + 1 : Nat) : Int)) W 0 p [] (by omega) rfl hp (by omega) (fun row q h1 h2 h3 => by
      obtain ⟨r, hr, g1, g2, g3, g4⟩ := ih q (x5 ++ [row]) (by simp only [List.length_append, List.length_cons, List.length_nil]; omega) (by intro x hx; rcases List.mem_append.1 hx with hx | hx; exact hl x hx; simp at hx; rw [hx]; exact h1) (by omega) (by omega)
      refine ⟨r, by rw [hw]; exact hr, by rw [g1]; simp only [List.length_append, List.length_cons, List.length_nil]; omega, g2, by omega, by omega⟩)
    have hr' : Ev (fun k => spec_l20Rows.l1 k 0 x5 W ((d + 1 : Nat) : Int) [] 0 b p) r := hr
    have h : Ev (fun k => spec_l20Rows.l0 k 0 x5 W ((d + 1 : Nat) : Int) b p) r := by
      refine Ev.step (fun k => by rw [spec_l20Rows.l0]) ?_
      exact Ev.ifp (by omega) hr'
    exact ⟨r, h, hP⟩
theorem rows_any {b : List Int} (hb : Byts b) : ∃ (rows : List (List Bool)) (W : Nat) (q : Int), Ev (fun k => spec_l20Rows.f k b 0 0) (rows, q) ∧ 1 ≤ rows.length ∧ rows.length ≤ 5 ∧ (∀ x ∈ rows, x.length = W) ∧ 1 ≤ W ∧ W ≤ 5 ∧ 0 ≤ q ∧ q ≤ 100 := by
  obtain ⟨u, hu, u0, u1, _⟩ := pick_any hb (p := 0) (by omega) (by omega) 5 (by omega)
  have u1 := u1 (by omega)
  obtain ⟨v, hv, v0, v1, _⟩ := pick_any hb (p := 0 + 1) (by omega) (by omega) 5 (by omega)
  have v1 := v1 (by omega)
  have hwu : wrap64 (1 + u) = ((u.toNat + 1 : Nat) : Int) := by rw [w64 (by omega) (by omega)]; omega
  have hwv : wrap64 (1 + v) = ((v.toNat + 1 : Nat) : Int) := by rw [w64 (by omega) (by omega)]; omega
  obtain ⟨⟨rows, q⟩, hr, g1, g2, g3, g4⟩ := rows_l0 hb (u.toNat + 1) (by omega) (v.toNat + 1) (0 + 1 + 1) [] (by simp only [List.length_nil]; omega) (by simp) (by omega) (by omega)
  simp only [List.length_nil] at g1 g3 g4
  refine ⟨rows, u.toNat + 1, q, ?_, by omega, by omega, g2, by omega, by omega, by omega, by omega⟩
  unfold spec_l20Rows.f
  refine Ev.bind hu (Ev.bind hv ?_)
  rw [hwu, hwv]
  exact hr
theorem ownrows_l (l : List (List Bool)) (hl : l.length ≤ 100) (hx : ∀ x ∈ l, x.length ≤ 100) : ∀ (d i : Nat), l.length = i + d → Ev (fun k => spec_l1OwnRowsBool.l0 k l (l.take i) i) l := by
  intro d
  induction d with
  | zero =>
    intro i hi
    rw [List.take_of_length_le (by omega)]
    exact Ev.step (fun k => by rw [spec_l1OwnRowsBool.l0]) (Ev.ifn (by omega) (Ev.now _))
  | succ d ih =>
    intro i hi
    have hw : wrap64 ((i : Int) + 1) = ((i + 1 : Nat) : Int) := by rw [w64 (by omega) (by omega)]; omega
    have hlt : i < l.length := by omega
    have h1 := hx _ (List.getElem_mem hlt)
    have h := ih (i + 1) (by omega)
    rw [List.take_succ_eq_append_getElem hlt] at h
    refine Ev.step (fun k => by rw [spec_l1OwnRowsBool.l0]) ?_
    rw [rdL3_nat l i hlt, hw]
    refine Ev.ifp (by omega) ?_
    refine Ev.bindc rfl ?_
    refine Ev.ifp (by omega) (Ev.ifp (by simp only [List.length_nil]; omega) (Ev.ifp (by rw [List.length_take]; omega) ?_))
    rw [List.nil_append]
    exact h
theorem column_l (l : List (List Bool)) (hl : l.length ≤ 100) (c W : Nat) (hx : ∀ x ∈ l, x.length = W) (hc : c < W) : ∀ (d i : Nat) (out : List Bool), l.length = i + d → out.length = i → ∃ r : List Bool, Ev (fun k => spec_l13Column.l0 k l c out i) r ∧ r.length = l.length := by
  intro d
  induction d with
  | zero =>
    intro i out hi ho
    exact ⟨out, Ev.step (fun k => by rw [spec_l13Column.l0]) (Ev.ifn (by omega) (Ev.now _)), by omega⟩
  | succ d ih =>
    intro i out hi ho
    have hw : wrap64 ((i : Int) + 1) = ((i + 1 : Nat) : Int) := by rw [w64 (by omega) (by omega)]; omega
    have hlt : i < l.length := by omega
    have h1 := hx _ (List.getElem_mem hlt)
    obtain ⟨r, hr, hl2⟩ := ih (i + 1) (out ++ [rdOf false l[i] c]) (by omega) (by simp [ho])
    refine ⟨r, ?_, hl2⟩
    refine Ev.step (fun k => by rw [spec_l13Column.l0]) ?_
    rw [rdL3_nat l i hlt, hw]
    exact Ev.ifp (by omega) (Ev.ifp (by omega) (Ev.ifp (by omega) (Ev.ifp (by omega) (Ev.ifp (by omega) hr))))
theorem picof_l1 (l : List (List Bool)) (hl : l.length ≤ 5) (hl1 : 1 ≤ l.length) (W : Nat) (hx : ∀ x ∈ l, x.length = W) (hW : W ≤ 5) (A : List (List Int)) : ∀ (d c : Nat) (B : List (List Int)), W = c + d → B.length = c → (∀ x ∈ B, x.length ≤ 9) →
    ∃ B' : List (List Int), Ev (fun k => spec_PictureOf.l1 k l c A B) (A, B', true) ∧ B'.length = W ∧ ∀ x ∈ B', x.length ≤ 9 := by
  intro d
  induction d with
  | zero =>
    intro c B hc hB hB9
    refine ⟨B, ?_, by omega, hB9⟩
    have := hx _ (List.getElem_mem (show 0 < l.length by omega))
    refine Ev.step (fun k => by rw [spec_PictureOf.l1]) ?_
    rw [show rd_L3 l 0 = l[0] from rdL3_nat l 0 (by omega)]
    exact Ev.ifp (by omega) (Ev.ifn (by omega) (Ev.now _))
  | succ d ih =>
    intro c B hc hB hB9
    have hw : wrap64 ((c : Int) + 1) = ((c + 1 : Nat) : Int) := by rw [w64 (by omega) (by omega)]; omega
    obtain ⟨col, hcol, hcl⟩ := column_l l (by omega) c W hx (by omega) l.length 0 [] (by omega) rfl
    obtain ⟨B', hB', g1, g2⟩ := ih (c + 1) (B ++ [clueL col]) (by omega) (by simp [hB]) (by intro x hx2; rcases List.mem_append.1 hx2 with hx2 | hx2; exact hB9 x hx2; simp at hx2; rw [hx2]; exact clueL_len _)
    refine ⟨B', ?_, g1, g2⟩
    have := hx _ (List.getElem_mem (show 0 < l.length by omega))
    have hcf : Ev (fun k => spec_l13Column.f k l c) col := by unfold spec_l13Column.f; exact hcol
    refine Ev.step (fun k => by rw [spec_PictureOf.l1]) ?_
    rw [show rd_L3 l 0 = l[0] from rdL3_nat l 0 (by omega), hw]
    refine Ev.ifp (by omega) (Ev.ifp (by omega) ?_)
    refine Ev.bind hcf (Ev.bind (spec_clueof col (by omega)) ?_)
    exact Ev.ifp (by omega) hB'
theorem picof_l0 (l : List (List Bool)) (hl : l.length ≤ 5) (hl1 : 1 ≤ l.length) (W : Nat) (hx : ∀ x ∈ l, x.length = W) (hW : W ≤ 5) : ∀ (d i : Nat) (A : List (List Int)), l.length = i + d → A.length = i → (∀ x ∈ A, x.length ≤ 9) →
    ∃ A' B' : List (List Int), Ev (fun k => spec_PictureOf.l0 k l i A) (A', B', true) ∧ A'.length = l.length ∧ B'.length = W ∧ (∀ x ∈ A', x.length ≤ 9) ∧ ∀ x ∈ B', x.length ≤ 9 := by
  intro d
  induction d with
  | zero =>
    intro i A hi hA hA9
    obtain ⟨B', h, g1, g2⟩ := picof_l1 l hl hl1 W hx hW A W 0 [] (by omega) rfl (by simp)
    refine ⟨A, B', ?_, by omega, g1, hA9, g2⟩
    refine Ev.step (fun k => by rw [spec_PictureOf.l0]) ?_
    exact Ev.ifn (by omega) h
  | succ d ih =>
    intro i A hi hA hA9
    have hw : wrap64 ((i : Int) + 1) = ((i + 1 : Nat) : Int) := by rw [w64 (by omega) (by omega)]; omega
    have hlt : i < l.length := by omega
    have h0 := hx _ (List.getElem_mem hlt)
    have h1 := hx _ (List.getElem_mem (show 0 < l.length by omega))
    obtain ⟨A', B', h, g⟩ := ih (i + 1) (A ++ [clueL l[i]]) (by omega) (by simp [hA]) (by intro x hx2; rcases List.mem_append.1 hx2 with hx2 | hx2; exact hA9 x hx2; simp at hx2; rw [hx2]; exact clueL_len _)
    refine ⟨A', B', ?_, g⟩
    refine Ev.step (fun k => by rw [spec_PictureOf.l0]) ?_
    rw [rdL3_nat l i hlt, show rd_L3 l 0 = l[0] from rdL3_nat l 0 (by omega), hw]
    refine Ev.ifp (by omega) (Ev.ifp (by omega) (Ev.ifp (by omega) (Ev.ifp (by omega) ?_)))
    exact Ev.bind (spec_clueof l[i] (by omega)) (Ev.ifp (by omega) h)
theorem l1In_ff (x a b : Int) : spec_l1In.f x a b = some (decide (a ≤ x ∧ x ≤ b)) := by
  unfold spec_l1In.f
  by_cases c : x ≥ a
  · rw [if_pos c]; simp [show a ≤ x from c]
  · rw [if_neg c]; simp [show ¬ a ≤ x from c]
theorem picof_any (l : List (List Bool)) (hl : l.length ≤ 5) (hl1 : 1 ≤ l.length) (W : Nat) (hx : ∀ x ∈ l, x.length = W) (hW1 : 1 ≤ W) (hW : W ≤ 5) :
    ∃ A' B' : List (List Int), Ev (fun k => spec_PictureOf.f k l) (A', B', true) ∧ A'.length = l.length ∧ B'.length = W ∧ (∀ x ∈ A', x.length ≤ 9) ∧ ∀ x ∈ B', x.length ≤ 9 := by
  obtain ⟨A', B', h, g⟩ := picof_l0 l hl hl1 W hx hW l.length 0 [] (by omega) rfl (by simp)
  have h1 := hx _ (List.getElem_mem (show 0 < l.length by omega))
  refine ⟨A', B', ?_, g⟩
  unfold spec_PictureOf.f
  have ho : Ev (fun k => spec_l1OwnRowsBool.f k l) l := by
    unfold spec_l1OwnRowsBool.f
    exact ownrows_l l (by omega) (fun x hx2 => by rw [hx x hx2]; omega) l.length 0 (by omega)
  refine Ev.bind ho ?_
  refine Ev.bindc (l1In_ff _ _ _) ?_
  rw [show rd_L3 l 0 = l[0] from rdL3_nat l 0 (by omega)]
  have d1 : decide (1 ≤ (l.length : Int) ∧ (l.length : Int) ≤ 5) = true := decide_eq_true ⟨by omega, by omega⟩
  have d2 : decide ((1 : Int) ≤ ((l[0].length : Nat) : Int) ∧ ((l[0].length : Nat) : Int) ≤ (5 : Int)) = true := decide_eq_true ⟨by omega, by omega⟩
  refine Ev.ifp d1 (Ev.ifp (by omega) ?_)
  refine Ev.bindc (l1In_ff _ _ _) ?_
  rw [d2]
  refine Ev.step (fun k => by rw [spec_PictureOf.j0]) ?_
  exact Ev.ifn (by simp) h
theorem set_len9 {A : List (List Int)} (h : ∀ x ∈ A, x.length ≤ 9) (i : Nat) (v : List Int) (hv : v.length ≤ 9) : ∀ x ∈ A.set i v, x.length ≤ 9 := by
  intro x hx
  rcases List.mem_or_eq_of_mem_set hx with hx | hx
  · exact h x hx
  · rw [hx]; exact hv
theorem pic_j0 {b : List Int} (hb : Byts b) (n : Int) (hn : n ≤ 100) (A B : List (List Int)) (hA : 1 ≤ A.length) (hA5 : A.length ≤ 5) (hB : 1 ≤ B.length) (hB5 : B.length ≤ 5) (hA9 : ∀ x ∈ A, x.length ≤ 9) (hB9 : ∀ x ∈ B, x.length ≤ 9) (p : Int) (hp : 0 ≤ p) (hp1 : p ≤ 1000) :
    ∃ (A' B' : List (List Int)) (q : Int), Ev (fun k => spec_l20Picture.j0 k n b p A B) (A', B', q) ∧ A'.length ≤ 5 ∧ B'.length ≤ 5 ∧ (∀ x ∈ A', x.length ≤ 9) ∧ (∀ x ∈ B', x.length ≤ 9) ∧ p ≤ q ∧ q ≤ p + 2 := by
  obtain ⟨o, q, e, hq1, hq2⟩ := odd_any hb hp (by omega) n (by omega)
  cases o with
  | false =>
    refine ⟨A, B, q, ?_, hA5, hB5, hA9, hB9, by omega, by omega⟩
    refine Ev.step (fun k => by rw [spec_l20Picture.j0]) ?_
    exact Ev.bind e (Ev.ifn (by simp) (Ev.now _))
  | true =>
    obtain ⟨v, hv, v0, v1, _⟩ := pick_any hb (p := q) (by omega) (by omega) 3 (by omega)
    by_cases c0 : v = 0
    · refine ⟨[], B, q + 1, ?_, by simp, hB5, by simp, hB9, by omega, by omega⟩
      refine Ev.step (fun k => by rw [spec_l20Picture.j0]) ?_
      exact Ev.bind e (Ev.ifp rfl (Ev.bind hv (Ev.ifp c0 (Ev.now _))))
    · by_cases c1 : v = 1
      · refine ⟨A, B.set 0 [6], q + 1, ?_, hA5, by simpa using hB5, hA9, set_len9 hB9 _ _ (by simp), by omega, by omega⟩
        refine Ev.step (fun k => by rw [spec_l20Picture.j0]) ?_
        exact Ev.bind e (Ev.ifp rfl (Ev.bind hv (Ev.ifn c0 (Ev.ifp c1 (Ev.ifp (by omega) (Ev.now _))))))
      · refine ⟨A.set 0 [0], B, q + 1, ?_, by simpa using hA5, hB5, set_len9 hA9 _ _ (by simp), hB9, by omega, by omega⟩
        refine Ev.step (fun k => by rw [spec_l20Picture.j0]) ?_
        exact Ev.bind e (Ev.ifp rfl (Ev.bind hv (Ev.ifn c0 (Ev.ifn c1 (Ev.ifp (by omega) (Ev.now _))))))
theorem pic_any {b : List Int} (hb : Byts b) (n : Int) (hn : n ≤ 100) :
    ∃ (A' B' : List (List Int)) (q : Int), Ev (fun k => spec_l20Picture.f k b 0 n) (A', B', q) ∧ A'.length ≤ 5 ∧ B'.length ≤ 5 ∧ (∀ x ∈ A', x.length ≤ 9) ∧ (∀ x ∈ B', x.length ≤ 9) ∧ 0 ≤ q ∧ q ≤ 200 := by
  obtain ⟨rows, W, q, hr, r1, r5, rW, w1, w5, q0, q1⟩ := rows_any hb
  obtain ⟨A, B, hp, gA, gB, gA9, gB9⟩ := picof_any rows r5 r1 W rW w1 w5
  obtain ⟨o, q2, e, hq1, hq2⟩ := odd_any hb q0 (by omega) 5 (by omega)
  cases o with
  | false =>
    obtain ⟨A', B', q', h, h1, h2, h3, h4, h5, h6⟩ := pic_j0 hb n hn A B (by omega) (by omega) (by omega) (by omega) gA9 gB9 q2 (by omega) (by omega)
    exact ⟨A', B', q', by unfold spec_l20Picture.f; exact Ev.bind hr (Ev.bind hp (Ev.bind e (Ev.ifn (by simp) h))), h1, h2, h3, h4, by omega, by omega⟩
  | true =>
    obtain ⟨u, hu, u0, u1, _⟩ := pick_any hb (p := q2) (by omega) (by omega) (A.length : Int) (by omega)
    have u1 := u1 (by omega)
    obtain ⟨v, hv, v0, v1, _⟩ := pick_any hb (p := q2 + 1) (by omega) (by omega) 2 (by omega)
    have v1 := v1 (by omega)
    have hl2 : (lit2 v).length ≤ 9 := by unfold lit2; split <;> simp
    obtain ⟨A', B', q', h, h1, h2, h3, h4, h5, h6⟩ := pic_j0 hb n hn (A.set u.toNat (lit2 v)) B (by simp; omega) (by simp; omega) (by omega) (by omega) (set_len9 gA9 _ _ hl2) gB9 (q2 + 1 + 1) (by omega) (by omega)
    exact ⟨A', B', q', by unfold spec_l20Picture.f; exact Ev.bind hr (Ev.bind hp (Ev.bind e (Ev.ifp rfl (Ev.bind hu (Ev.bind hv (Ev.ifp ⟨u0, by omega⟩ (Ev.ifp (by omega) h))))))), h1, h2, h3, h4, by omega, by omega⟩
theorem picV_nil (b : List (List Int)) : picV [] b = false := by simp [picV]
theorem picV_six (a b : List (List Int)) (hb : b.length ≤ 5) : picV (a ++ [[6]]) b = false := by
  have h : clueV [6] (b.length : Int) = false := by
    unfold clueV
    simp only [csum, List.all_cons, List.all_nil]
    have : ¬ (((6 : Int) + 1 + 0) ≤ (b.length : Int) + 1) := by omega
    simp
    intro _ _
    omega
  unfold picV
  simp [List.all_append, h]
theorem FnPictureValid : laws_FnPictureValid.Pure := by
  intro l0 hl _ hw
  apply Ev.rounds
  unfold laws_FnPictureValid.f
  by_cases c : (l0.length : Int) > 1048576
  · exact Ev.ifp c (Ev.now _)
  · refine Ev.ifn c ?_
    obtain ⟨b, ho, hb⟩ := open_ok l0 hl hw
    obtain ⟨A, B, q, hp, a5, b5, a9, b9, _, _⟩ := pic_any hb 2 (by omega)
    have hD : Ev (fun k => spec_DrawPictureValid.f k l0) (A, B) := by
      unfold spec_DrawPictureValid.f
      exact Ev.bindc ho (Ev.bind hp (Ev.now _))
    have ha : ∀ x ∈ A, x.length ≤ 1048576 := fun x hx => by have := a9 x hx; omega
    have hbb : ∀ x ∈ B, x.length ≤ 1048576 := fun x hx => by have := b9 x hx; omega
    have ha6 : ∀ x ∈ (A ++ [[6]]), x.length ≤ 1048576 := by
      intro x hx
      rcases List.mem_append.1 hx with hx | hx
      · exact ha x hx
      · simp at hx; rw [hx]; simp
    refine Ev.bind hD (Ev.bind (impl_pic A B ha (by omega) hbb (by omega)) (Ev.bind (spec_pic A B ha (by omega) hbb (by omega)) (Ev.ifn (by simp) (Ev.bind (impl_pic [] B (by simp) (by simp) hbb (by omega)) (Ev.ifn (by rw [picV_nil]; simp) (Ev.bindc rfl (Ev.ifp (by simp; omega) (Ev.bindc rfl (Ev.bindc rfl (Ev.ifp (by simp; omega) (Ev.bind (a := false) ?_ (Ev.ifn (by simp) (Ev.bind alive_ev (Ev.now _))))))))))))))
    have h := impl_pic (A ++ [[6]]) B ha6 (by simp; omega) hbb (by omega)
    rw [picV_six A B b5] at h
    simpa using h

end Go.Proofs.Ytapnohcfnclleaa.Pure
