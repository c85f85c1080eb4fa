/- For every picture puzzle PictureValid of the program answers what PictureValid of the reference answers, and leaves its argument as it was. No conditions beyond the fields' types. -/
import Derived.Test.YtapnohcfnclleaaPFnExactPictureValidx4
namespace Go.Proofs.Ytapnohcfnclleaa.Pure
open Go.RowKit Go.Proofs.Ytapnohcfnclleaa.PFnExactPictureValid Go.Proofs.YtapnohcfnclleaaW.PrintWords Go.Proofs.YtapnohcfnclleaaW.PrintLast Go.Proofs.YtapnohcfnclleaaW.PrintMore
set_option linter.unusedVariables false
set_option linter.unusedSimpArgs false
/-! Ev: small steps. -/
theorem _root_.Go.Proofs.YtapnohcfnclleaaW.PrintWords.Ev.ifp {α : Type} {c : Prop} [Decidable c] {g f : Nat → Option α} {r : α} (hc : c) (h : Ev g r) : Ev (fun k => if c then g k else f k) r :=
  Ev.congr (fun _ => if_pos hc) h
theorem _root_.Go.Proofs.YtapnohcfnclleaaW.PrintWords.Ev.ifn {α : Type} {c : Prop} [Decidable c] {g f : Nat → Option α} {r : α} (hc : ¬ c) (h : Ev f r) : Ev (fun k => if c then g k else f k) r :=
  Ev.congr (fun _ => if_neg hc) h
theorem _root_.Go.Proofs.YtapnohcfnclleaaW.PrintWords.Ev.bindc {α β : Type} {o : Option α} {f : Nat → α → Option β} {a : α} {r : β} (h : o = some a) (k : Ev (fun n => f n a) r) : Ev (fun n => o.bind (f n)) r := by
  subst h; exact k
theorem _root_.Go.Proofs.YtapnohcfnclleaaW.PrintWords.Ev.eq {α : Type} {g : Nat → Option α} {r r' : α} (h : Ev g r) (e : r = r') : Ev g r' := e ▸ h
theorem _root_.Go.Proofs.YtapnohcfnclleaaW.PrintWords.Ev.cst {α : Type} {o : Option α} {r : α} (h : o = some r) : Ev (fun _ => o) r := ⟨0, fun _ _ => h⟩
theorem w64 {x : Int} (h0 : -9223372036854775808 ≤ x) (h1 : x ≤ 9223372036854775807) : wrap64 x = x := by unfold wrap64; omega
theorem wf_i64 {x : Int} (h : (Lit.int .i64 x).wf = true) : -9223372036854775808 ≤ x ∧ x ≤ 9223372036854775807 := by
  have h2 : (decide (IntKind.i64.min ≤ x) && decide (x ≤ IntKind.i64.max)) = true := h
  simp [IntKind.min, IntKind.max, IntKind.bits, IntKind.signed] at h2
  exact h2
theorem wf_u8 {x : Int} (h : (Lit.int .u8 x).wf = true) : 0 ≤ x ∧ x ≤ 255 := by
  have h2 : (decide (IntKind.u8.min ≤ x) && decide (x ≤ IntKind.u8.max)) = true := h
  simp [IntKind.min, IntKind.max, IntKind.bits, IntKind.signed] at h2
  omega
theorem rd_nat (xs : List Int) (i : Nat) (h : i < xs.length) : rd xs (i : Int) = xs[i] := by
  simp [rd, List.getD_eq_getElem?_getD, h]
theorem rd_mem (xs : List Int) (i : Int) (h0 : 0 ≤ i) (h : i < xs.length) : rd xs i ∈ xs := by
  obtain ⟨n, rfl⟩ := Int.eq_ofNat_of_zero_le h0
  rw [rd_nat xs n (by omega)]; exact List.getElem_mem _
theorem l1In_f (a b c : Int) : spec_l1In.f a b c = some (decide (b ≤ a ∧ a ≤ c)) := by
  unfold spec_l1In.f
  by_cases h : a ≥ b
  · rw [if_pos h]; simp; omega
  · rw [if_neg h]; simp; omega
/-- The cells that a clue takes, with one behind each number. -/
def csum : List Int → Int
  | [] => 0
  | n :: l => n + 1 + csum l
/-- What ClueValid answers. -/
def clueV (c : List Int) (n : Int) : Bool := decide (1 ≤ n ∧ n ≤ 8) && (c.all (fun x => decide (1 ≤ x)) && decide (csum c ≤ n + 1))
theorem csum_nn : ∀ c : List Int, c.all (fun x => decide (1 ≤ x)) = true → 2 * (c.length : Int) ≤ csum c := by
  intro c
  induction c with
  | nil => intro _; simp [csum]
  | cons x c ih =>
    intro h
    simp only [List.all_cons, Bool.and_eq_true, decide_eq_true_eq] at h
    have := ih h.2
    simp only [csum, List.length_cons]
    omega
theorem csum_le : ∀ c : List Int, c.all (fun x => decide (1 ≤ x)) = true → ∀ x ∈ c, x < csum c := by
  intro c
  induction c with
  | nil => intro _ x hx; simp at hx
  | cons y c ih =>
    intro h x hx
    simp only [List.all_cons, Bool.and_eq_true, decide_eq_true_eq] at h
    have hn := csum_nn c h.2
    simp only [csum]
    rcases List.mem_cons.1 hx with hx | hx
    · omega
    · have := ih h.2 x hx
      omega
theorem impl_clue_l (l : List Int) (hl : l.length ≤ 140737488351232) : ∀ (d i : Nat) (t : Int), l.length = i + d → 0 ≤ t → t ≤ 100 →
    Ev (fun k => impl_ClueValid.l0 k t l l.length i) ((l.drop i).all (fun x => decide (1 ≤ x)) && decide (csum (l.drop i) ≤ t)) := by
  intro d
  induction d with
  | zero =>
    intro i t hi h0 h1
    refine Ev.step (fun k => by rw [impl_ClueValid.l0]) (Ev.ifn (by omega) (Ev.eq (Ev.now _) ?_))
    rw [List.drop_eq_nil_of_le (by omega)]; simp [csum, h0]
  | succ d ih =>
    intro i t hi h0 h1
    have hlt : i < l.length := by omega
    have hw : wrap64 ((i : Int) + 1) = ((i + 1 : Nat) : Int) := by rw [w64 (by omega) (by omega)]; omega
    refine Ev.step (fun k => by rw [impl_ClueValid.l0]) ?_
    rw [rd_nat l i hlt, hw, List.drop_eq_getElem_cons hlt, List.all_cons]
    rw [show csum (l[i] :: l.drop (i + 1)) = l[i] + 1 + csum (l.drop (i + 1)) from rfl]
    refine Ev.ifp (by omega) (Ev.ifp (by omega) (Ev.ifp (by omega) ?_))
    by_cases c1 : l[i] < 1
    · have h : ¬ 1 ≤ l[i] := by omega
      exact Ev.ifp c1 (Ev.eq (Ev.now _) (by simp [h]))
    refine Ev.ifn c1 ?_
    have g : 1 ≤ l[i] := by omega
    by_cases c2 : l[i] ≥ t
    · refine Ev.ifp c2 (Ev.eq (Ev.now _) ?_)
      symm
      rw [Bool.and_eq_false_iff]
      cases ha : (l.drop (i + 1)).all (fun x => decide (1 ≤ x))
      · left; simp
      · right
        have := csum_nn _ ha
        simp; omega
    · refine Ev.ifn c2 ?_
      rw [w64 (x := l[i] + 1) (by omega) (by omega), w64 (by omega) (by omega)]
      refine Ev.eq (ih (i + 1) (t - (l[i] + 1)) (by omega) (by omega) (by omega)) ?_
      simp only [g, decide_true, Bool.true_and]
      congr 1
      rw [decide_eq_decide]; omega
theorem impl_clue (l : List Int) (n : Int) (hl : l.length ≤ 140737488351232) : Ev (fun k => impl_ClueValid.f k l n) (clueV l n) := by
  have no : ∀ b : Bool, b = true → ¬ (1 ≤ n ∧ n ≤ 8) → Ev (fun k => impl_ClueValid.j0 k l n b) (clueV l n) := by
    intro b hb h
    refine Ev.step (fun k => by rw [impl_ClueValid.j0]) (Ev.ifp hb (Ev.eq (Ev.now _) ?_))
    unfold clueV
    rw [decide_eq_false h]; simp
  unfold impl_ClueValid.f
  by_cases c1 : n < 1
  · exact Ev.ifp c1 (no _ rfl (by omega))
  refine Ev.ifn c1 ?_
  by_cases c2 : n > 8
  · exact no _ (by simpa using c2) (by omega)
  refine Ev.step (fun k => by rw [impl_ClueValid.j0]) (Ev.ifn (by simpa using c2) ?_)
  rw [w64 (by omega) (by omega)]
  refine Ev.eq (impl_clue_l l hl l.length 0 (n + 1) (by omega) (by omega) (by omega)) ?_
  unfold clueV
  rw [decide_eq_true (show 1 ≤ n ∧ n ≤ 8 by omega)]; simp
def isum : List Int → Int
  | [] => 0
  | n :: l => n + isum l
theorem csum_isum : ∀ c : List Int, csum c = isum c + c.length := by
  intro c
  induction c with
  | nil => rfl
  | cons x c ih => simp only [csum, isum, List.length_cons]; omega
theorem spec_clue_l (l : List Int) (n : Int) (hl : l.length ≤ 1000000000) : ∀ (d i : Nat) (t : Int), l.length = i + d → -1 ≤ t → t ≤ 1000000000 + 8 * i →
    Ev (fun k => spec_ClueValid.l0 k l n t i) ((l.drop i).all (fun x => decide (1 ≤ x ∧ x ≤ 8)) && (decide (1 ≤ n ∧ n ≤ 8) && decide (t + isum (l.drop i) ≤ n))) := by
  intro d
  induction d with
  | zero =>
    intro i t hi h0 h1
    refine Ev.step (fun k => by rw [spec_ClueValid.l0]) (Ev.ifn (by omega) (Ev.bindc (l1In_f _ _ _) ?_))
    rw [List.drop_eq_nil_of_le (by omega)]
    rw [show isum [] = 0 from rfl, Int.add_zero]
    simp only [List.all_nil, Bool.true_and]
    by_cases c : 1 ≤ n ∧ n ≤ 8
    · exact Ev.ifp (by simpa using c) (Ev.eq (Ev.now _) (by simp [c]))
    · refine Ev.ifn (by simpa using c) (Ev.eq (Ev.now _) ?_)
      rw [decide_eq_false c]; simp
  | succ d ih =>
    intro i t hi h0 h1
    have hlt : i < l.length := by omega
    have hw : wrap64 ((i : Int) + 1) = ((i + 1 : Nat) : Int) := by rw [w64 (by omega) (by omega)]; omega
    refine Ev.step (fun k => by rw [spec_ClueValid.l0]) ?_
    rw [rd_nat l i hlt, hw, List.drop_eq_getElem_cons hlt, List.all_cons]
    rw [show isum (l[i] :: l.drop (i + 1)) = l[i] + isum (l.drop (i + 1)) from rfl]
    refine Ev.ifp (by omega) (Ev.ifp (by omega) (Ev.bindc (l1In_f _ _ _) ?_))
    by_cases c1 : 1 ≤ l[i] ∧ l[i] ≤ 8
    · refine Ev.ifp (by simpa using c1) ?_
      rw [w64 (by omega) (by omega)]
      refine Ev.eq (ih (i + 1) (t + l[i]) (by omega) (by omega) (by omega)) ?_
      simp only [c1, and_self, decide_true, Bool.true_and]
      congr 2
      rw [decide_eq_decide]; omega
    · refine Ev.ifn (by simpa using c1) (Ev.eq (Ev.now _) ?_)
      rw [decide_eq_false c1]; simp
theorem spec_clue (l : List Int) (n : Int) (hl : l.length ≤ 1000000000) : Ev (fun k => spec_ClueValid.f k l n) (clueV l n) := by
  unfold spec_ClueValid.f
  rw [w64 (by omega) (by omega)]
  refine Ev.eq (spec_clue_l l n hl l.length 0 ((l.length : Int) - 1) (by omega) (by omega) (by omega)) ?_
  unfold clueV
  rw [List.drop_zero]
  by_cases c : 1 ≤ n ∧ n ≤ 8
  · simp only [c, and_self, decide_true, Bool.true_and]
    have e := csum_isum l
    rw [Bool.eq_iff_iff]
    simp only [Bool.and_eq_true, decide_eq_true_eq]
    constructor
    · rintro ⟨h1, h2⟩
      refine ⟨?_, by omega⟩
      rw [List.all_eq_true] at h1 ⊢
      intro x hx
      have := h1 x hx
      simp only [decide_eq_true_eq] at this ⊢
      exact this.1
    · rintro ⟨h1, h2⟩
      refine ⟨?_, by omega⟩
      have h3 := csum_le l h1
      rw [List.all_eq_true] at h1 ⊢
      intro x hx
      have a := h1 x hx
      have b := h3 x hx
      simp only [decide_eq_true_eq] at a ⊢
      omega
  · rw [decide_eq_false c]; simp
theorem toIntS_l (xs : List Int) (hn : xs.length ≤ 35184372088832) : ∀ (d : Nat) (ys : List Int) (i : Nat), ys.length = xs.length → xs.length = i + d →
    Ev (fun k => laws_toIntS.l0 k xs ys i) (ys.take i ++ xs.drop i) := by
  intro d
  induction d with
  | zero =>
    intro ys i hy hi
    refine Ev.step (f := fun _ => some ys) (fun k => ?_) ((Ev.now _).eq ?_)
    · rw [laws_toIntS.l0]; rw [if_neg (by omega)]
    · rw [List.drop_eq_nil_of_le (by omega), List.take_of_length_le (by omega)]; simp
  | succ d ih =>
    intro ys i hy hi
    have hw : wrap64 ((i : Int) + 1) = ((i + 1 : Nat) : Int) := by rw [w64 (by omega) (by omega)]; omega
    have hlt : i < xs.length := by omega
    refine Ev.step (f := fun k => laws_toIntS.l0 k xs (ys.set i xs[i]) ((i + 1 : Nat) : Int)) (fun k => ?_) ((ih (ys.set i xs[i]) (i + 1) (by simp [hy]) (by omega)).eq ?_)
    · rw [laws_toIntS.l0]; rw [if_pos (by omega), if_pos (by omega), if_pos (by omega), rd_nat xs i hlt, hw]; simp
    · rw [List.take_add_one, List.take_set_of_le (Nat.le_refl i), List.drop_eq_getElem_cons hlt]
      simp [show i < ys.length by omega]
theorem toIntS_ev (xs : List Int) (hn : xs.length ≤ 35184372088832) : Ev (fun k => laws_toIntS.f k xs) xs := by
  unfold laws_toIntS.f
  refine Ev.ifp (by omega) (Ev.ifp (by omega) ?_)
  have h := toIntS_l xs hn xs.length (List.replicate xs.length 0) 0 (by simp) (by omega)
  simpa using h
theorem eqIntS_l (a b : List Int) (h : a.length = b.length) (hl : a.length ≤ 140737488351232) : ∀ (d i : Nat), a.length = i + d → Ev (fun k => laws_eqIntS.l0 k a b i) (decide (a.drop i = b.drop i)) := by
  intro d
  induction d with
  | zero =>
    intro i hi
    refine Ev.step (f := fun _ => some (decide (a.drop i = b.drop i))) (fun k => ?_) (Ev.now _)
    rw [laws_eqIntS.l0]; rw [if_neg (by omega), List.drop_eq_nil_of_le (by omega), List.drop_eq_nil_of_le (by omega)]; simp
  | succ d ih =>
    intro i hi
    have ha : i < a.length := by omega
    have hb : i < b.length := by omega
    have hw : wrap64 ((i : Int) + 1) = ((i + 1 : Nat) : Int) := by rw [w64 (by omega) (by omega)]; omega
    by_cases c : a[i] = b[i]
    · refine Ev.step (f := fun k => laws_eqIntS.l0 k a b ((i + 1 : Nat) : Int)) (fun k => ?_) ((ih (i + 1) (by omega)).eq ?_)
      · rw [laws_eqIntS.l0]; rw [if_pos (by omega), if_pos (by omega), if_pos (by omega), rd_nat a i ha, rd_nat b i hb, if_pos c, hw]
      · rw [List.drop_eq_getElem_cons ha, List.drop_eq_getElem_cons hb, c]; simp only [List.cons.injEq, true_and]
    · refine Ev.step (f := fun k => some false) (fun k => ?_) ((Ev.now _).eq ?_)
      · rw [laws_eqIntS.l0]; rw [if_pos (by omega), if_pos (by omega), if_pos (by omega), rd_nat a i ha, rd_nat b i hb, if_neg c]
      · rw [List.drop_eq_getElem_cons ha, List.drop_eq_getElem_cons hb]; simp only [List.cons.injEq, c, false_and, decide_false]
theorem eqIntS_ev (a b : List Int) (hl : a.length ≤ 140737488351232) : Ev (fun k => laws_eqIntS.f k a b) (decide (a = b)) := by
  unfold laws_eqIntS.f
  by_cases h : a.length = b.length
  · exact Ev.ifp (by omega) ((eqIntS_l a b h hl a.length 0 (by omega)).eq (by simp))
  · refine Ev.ifn (by omega) ((Ev.now false).eq ?_)
    symm; simp; intro e; exact h (by rw [e])
theorem eqIntS_self (a : List Int) (hl : a.length ≤ 140737488351232) : Ev (fun k => laws_eqIntS.f k a a) true := (eqIntS_ev a a hl).eq (by simp)
/-- All numbers of the rows. -/
def tot : List (List Int) → Nat
  | [] => 0
  | x :: l => x.length + tot l
theorem tot_mem : ∀ (l : List (List Int)), ∀ x ∈ l, x.length ≤ tot l := by
  intro l
  induction l with
  | nil => intro x hx; simp at hx
  | cons y l ih =>
    intro x hx
    simp only [tot]
    rcases List.mem_cons.1 hx with hx | hx
    · subst hx; omega
    · have := ih x hx; omega
theorem rdL_nat (xs : List (List Int)) (i : Nat) (h : i < xs.length) : rd_L1 xs (i : Int) = xs[i] := by
  simp [rd_L1, List.getD_eq_getElem?_getD, h]
theorem szIntS_f (l : List Int) (a : Int) (hl : l.length ≤ 9223372036854775807) (h0 : 0 ≤ a) (h1 : a ≤ 1048576) : laws_szIntS.f l a = some (if (l.length : Int) ≤ a then a - l.length else -1) := by
  unfold laws_szIntS.f
  rw [w64 (by omega) (by omega)]
  by_cases c : (l.length : Int) ≤ a
  · rw [if_neg (by omega), if_pos c]
  · rw [if_pos (by omega), if_neg c]
theorem szIntSS_l (l : List (List Int)) (hr : ∀ x ∈ l, x.length ≤ 9223372036854775807) (hl : l.length ≤ 1048576) : ∀ (d i : Nat) (a : Int), l.length = i + d → 0 ≤ a → a ≤ 1048576 →
    Ev (fun k => laws_szIntSS.l0 k l a i) (if (tot (l.drop i) : Int) ≤ a then a - tot (l.drop i) else -1) := by
  intro d
  induction d with
  | zero =>
    intro i a hi h0 h1
    refine Ev.step (fun k => by rw [laws_szIntSS.l0]) (Ev.ifn (by omega) (Ev.eq (Ev.now _) ?_))
    rw [List.drop_eq_nil_of_le (by omega)]; simp [tot, h0]
  | succ d ih =>
    intro i a hi h0 h1
    have hlt : i < l.length := by omega
    have hw : wrap64 ((i : Int) + 1) = ((i + 1 : Nat) : Int) := by rw [w64 (by omega) (by omega)]; omega
    refine Ev.step (fun k => by rw [laws_szIntSS.l0]) ?_
    rw [rdL_nat l i hlt, hw, List.drop_eq_getElem_cons hlt]
    refine Ev.ifp (by omega) (Ev.ifp (by omega) (Ev.bindc (szIntS_f _ a (hr _ (List.getElem_mem hlt)) h0 h1) ?_))
    rw [show tot (l[i] :: l.drop (i + 1)) = l[i].length + tot (l.drop (i + 1)) from rfl]
    by_cases c : (l[i].length : Int) ≤ a
    · rw [if_pos c]
      refine Ev.ifn (by omega) (Ev.eq (ih (i + 1) _ (by omega) (by omega) (by omega)) ?_)
      by_cases c2 : (tot (l.drop (i + 1)) : Int) ≤ a - l[i].length
      · rw [if_pos c2, if_pos (by omega)]; omega
      · rw [if_neg c2, if_neg (by omega)]
    · rw [if_neg c]
      refine Ev.ifp (by omega) (Ev.eq (Ev.now _) ?_)
      rw [if_neg (by omega)]
theorem szIntSS_ev (l : List (List Int)) (hr : ∀ x ∈ l, x.length ≤ 9223372036854775807) (hl : l.length ≤ 9223372036854775807) (a : Int) (h0 : 0 ≤ a) (h1 : a ≤ 1048576) :
    Ev (fun k => laws_szIntSS.f k l a) (if (l.length : Int) + tot l ≤ a then a - l.length - tot l else -1) := by
  unfold laws_szIntSS.f
  rw [w64 (by omega) (by omega)]
  by_cases c : a - (l.length : Int) < 0
  · exact Ev.ifp c (Ev.eq (Ev.now _) (by rw [if_neg (by omega)]))
  refine Ev.ifn c (Ev.eq (szIntSS_l l hr (by omega) l.length 0 _ (by omega) (by omega) (by omega)) ?_)
  rw [List.drop_zero]
  by_cases c2 : (tot l : Int) ≤ a - l.length
  · rw [if_pos c2, if_pos (by omega)]
  · rw [if_neg c2, if_neg (by omega)]
theorem toIntSS_l (xs : List (List Int)) (hr : ∀ x ∈ xs, x.length ≤ 35184372088832) (hn : xs.length ≤ 11728124029610) : ∀ (d : Nat) (ys : List (List Int)) (i : Nat), ys.length = xs.length → xs.length = i + d →
    Ev (fun k => laws_toIntSS.l0 k xs ys i) (ys.take i ++ xs.drop i) := by
  intro d
  induction d with
  | zero =>
    intro ys i hy hi
    refine Ev.step (f := fun _ => some ys) (fun k => ?_) ((Ev.now _).eq ?_)
    · rw [laws_toIntSS.l0]; rw [if_neg (by omega)]
    · rw [List.drop_eq_nil_of_le (by omega), List.take_of_length_le (by omega)]; simp
  | succ d ih =>
    intro ys i hy hi
    have hw : wrap64 ((i : Int) + 1) = ((i + 1 : Nat) : Int) := by rw [w64 (by omega) (by omega)]; omega
    have hlt : i < xs.length := by omega
    refine Ev.step (fun k => by rw [laws_toIntSS.l0]) ?_
    rw [rdL_nat xs i hlt, hw]
    refine Ev.ifp (by omega) (Ev.ifp (by omega) (Ev.bind (toIntS_ev _ (hr _ (List.getElem_mem hlt))) (Ev.ifp (by omega) (Ev.eq (ih (ys.set i xs[i]) (i + 1) (by simp [hy]) (by omega)) ?_))))
    rw [List.take_add_one, List.take_set_of_le (Nat.le_refl i), List.drop_eq_getElem_cons hlt]
    simp [show i < ys.length by omega]
theorem toIntSS_ev (xs : List (List Int)) (hr : ∀ x ∈ xs, x.length ≤ 35184372088832) (hn : xs.length ≤ 11728124029610) : Ev (fun k => laws_toIntSS.f k xs) xs := by
  unfold laws_toIntSS.f
  refine Ev.ifp (by omega) (Ev.ifp (by omega) ?_)
  have h := toIntSS_l xs hr hn xs.length (List.replicate xs.length []) 0 (by simp) (by omega)
  simpa using h
theorem eqIntSS_self_l (a : List (List Int)) (hr : ∀ x ∈ a, x.length ≤ 140737488351232) (hl : a.length ≤ 140737488351232) : ∀ (d i : Nat), a.length = i + d → Ev (fun k => laws_eqIntSS.l0 k a a i) true := by
  intro d
  induction d with
  | zero => intro i hi; exact Ev.step (fun k => by rw [laws_eqIntSS.l0]) (Ev.ifn (by omega) (Ev.now _))
  | succ d ih =>
    intro i hi
    have hw : wrap64 ((i : Int) + 1) = ((i + 1 : Nat) : Int) := by rw [w64 (by omega) (by omega)]; omega
    have hlt : i < a.length := by omega
    refine Ev.step (fun k => by rw [laws_eqIntSS.l0]) ?_
    rw [rdL_nat a i hlt, hw]
    exact Ev.ifp (by omega) (Ev.ifp (by omega) (Ev.ifp (by omega) (Ev.bind (eqIntS_self _ (hr _ (List.getElem_mem hlt))) (Ev.ifp rfl (ih (i + 1) (by omega))))))
theorem eqIntSS_self (a : List (List Int)) (hr : ∀ x ∈ a, x.length ≤ 140737488351232) (hl : a.length ≤ 140737488351232) : Ev (fun k => laws_eqIntSS.f k a a) true := by
  unfold laws_eqIntSS.f
  exact Ev.ifp rfl (eqIntSS_self_l a hr hl a.length 0 (by omega))
/-- What PictureValid answers. -/
def picV (a b : List (List Int)) : Bool := (decide (1 ≤ a.length ∧ a.length ≤ 5) && decide (1 ≤ b.length ∧ b.length ≤ 5)) && (a.all (fun c => clueV c b.length) && b.all (fun c => clueV c a.length))
theorem spec_pic_l1 (a b : List (List Int)) (hb : ∀ x ∈ b, x.length ≤ 1048576) (hl : b.length ≤ 1048576) : ∀ (d i : Nat), b.length = i + d →
    Ev (fun k => spec_PictureValid.l1 k i a b) ((b.drop i).all (fun c => clueV c a.length) && (decide (1 ≤ a.length ∧ a.length ≤ 5) && decide (1 ≤ b.length ∧ b.length ≤ 5))) := by
  intro d
  induction d with
  | zero =>
    intro i hi
    refine Ev.step (fun k => by rw [spec_PictureValid.l1]) (Ev.ifn (by omega) (Ev.bindc (l1In_f _ _ _) ?_))
    rw [List.drop_eq_nil_of_le (by omega)]
    by_cases c : 1 ≤ (a.length : Int) ∧ (a.length : Int) ≤ 5
    · refine Ev.ifp (by simpa using c) (Ev.bindc (l1In_f _ _ _) (Ev.eq (Ev.now _) ?_))
      have h : 1 ≤ a.length ∧ a.length ≤ 5 := by omega
      rw [show decide (1 ≤ (b.length : Int) ∧ (b.length : Int) ≤ 5) = decide (1 ≤ b.length ∧ b.length ≤ 5) from by rw [decide_eq_decide]; omega]
      simp [h]
    · refine Ev.ifn (by simpa using c) (Ev.eq (Ev.now _) ?_)
      have h : ¬ (1 ≤ a.length ∧ a.length ≤ 5) := by omega
      simp [h]
  | succ d ih =>
    intro i hi
    have hw : wrap64 ((i : Int) + 1) = ((i + 1 : Nat) : Int) := by rw [w64 (by omega) (by omega)]; omega
    have hlt : i < b.length := by omega
    refine Ev.step (fun k => by rw [spec_PictureValid.l1]) ?_
    rw [rdL_nat b i hlt, hw, List.drop_eq_getElem_cons hlt, List.all_cons]
    refine Ev.ifp (by omega) (Ev.ifp (by omega) (Ev.bind (spec_clue _ _ (by have := hb _ (List.getElem_mem hlt); omega)) ?_))
    cases hc : clueV b[i] a.length
    · exact Ev.ifn (by simp) (Ev.eq (Ev.now _) (by simp))
    · exact Ev.ifp rfl (Ev.eq (ih (i + 1) (by omega)) (by simp))
theorem spec_pic_l0 (a b : List (List Int)) (ha : ∀ x ∈ a, x.length ≤ 1048576) (hal : a.length ≤ 1048576) (hb : ∀ x ∈ b, x.length ≤ 1048576) (hl : b.length ≤ 1048576) : ∀ (d i : Nat), a.length = i + d →
    Ev (fun k => spec_PictureValid.l0 k i a b) ((a.drop i).all (fun c => clueV c b.length) && (b.all (fun c => clueV c a.length) && (decide (1 ≤ a.length ∧ a.length ≤ 5) && decide (1 ≤ b.length ∧ b.length ≤ 5)))) := by
  intro d
  induction d with
  | zero =>
    intro i hi
    have h1 : Ev (fun k => spec_PictureValid.l1 k 0 a b) _ := spec_pic_l1 a b hb hl b.length 0 (by omega)
    refine Ev.step (fun k => by rw [spec_PictureValid.l0]) (Ev.ifn (by omega) (Ev.eq h1 ?_))
    rw [List.drop_eq_nil_of_le (show a.length ≤ i by omega)]; simp
  | succ d ih =>
    intro i hi
    have hw : wrap64 ((i : Int) + 1) = ((i + 1 : Nat) : Int) := by rw [w64 (by omega) (by omega)]; omega
    have hlt : i < a.length := by omega
    refine Ev.step (fun k => by rw [spec_PictureValid.l0]) ?_
    rw [rdL_nat a i hlt, hw, List.drop_eq_getElem_cons hlt, List.all_cons]
    refine Ev.ifp (by omega) (Ev.ifp (by omega) (Ev.bind (spec_clue _ _ (by have := ha _ (List.getElem_mem hlt); omega)) ?_))
    cases hc : clueV a[i] b.length
    · exact Ev.ifn (by simp) (Ev.eq (Ev.now _) (by simp))
    · exact Ev.ifp rfl (Ev.eq (ih (i + 1) (by omega)) (by simp))
theorem spec_pic (a b : List (List Int)) (ha : ∀ x ∈ a, x.length ≤ 1048576) (hal : a.length ≤ 1048576) (hb : ∀ x ∈ b, x.length ≤ 1048576) (hl : b.length ≤ 1048576) : Ev (fun k => spec_PictureValid.f k a b) (picV a b) := by
  unfold spec_PictureValid.f
  refine Ev.eq (spec_pic_l0 a b ha hal hb hl a.length 0 (by omega)) ?_
  rw [List.drop_zero]; unfold picV
  ac_rfl
theorem impl_pic_l1 (a b : List (List Int)) (hb : ∀ x ∈ b, x.length ≤ 1048576) (hl : b.length ≤ 1048576) : ∀ (d i : Nat), b.length = i + d →
    Ev (fun k => impl_PictureValid.l1 k b b.length i a b) ((b.drop i).all (fun c => clueV c a.length)) := by
  intro d
  induction d with
  | zero =>
    intro i hi
    refine Ev.step (fun k => by rw [impl_PictureValid.l1]) (Ev.ifn (by omega) (Ev.eq (Ev.now _) ?_))
    rw [List.drop_eq_nil_of_le (by omega)]; simp
  | succ d ih =>
    intro i hi
    have hw : wrap64 ((i : Int) + 1) = ((i + 1 : Nat) : Int) := by rw [w64 (by omega) (by omega)]; omega
    have hlt : i < b.length := by omega
    refine Ev.step (fun k => by rw [impl_PictureValid.l1]) ?_
    rw [rdL_nat b i hlt, hw, List.drop_eq_getElem_cons hlt, List.all_cons]
    refine Ev.ifp (by omega) (Ev.ifp (by omega) (Ev.ifp (by omega) (Ev.bind (impl_clue _ _ (by have := hb _ (List.getElem_mem hlt); omega)) ?_)))
    cases hc : clueV b[i] a.length
    · exact Ev.ifn (by simp) (Ev.eq (Ev.now _) (by simp))
    · exact Ev.ifp rfl (Ev.eq (ih (i + 1) (by omega)) (by simp))
theorem impl_pic_l0 (a b : List (List Int)) (ha : ∀ x ∈ a, x.length ≤ 1048576) (hal : a.length ≤ 1048576) (hb : ∀ x ∈ b, x.length ≤ 1048576) (hl : b.length ≤ 1048576) : ∀ (d i : Nat), a.length = i + d →
    Ev (fun k => impl_PictureValid.l0 k a a.length i a b) ((a.drop i).all (fun c => clueV c b.length) && b.all (fun c => clueV c a.length)) := by
  intro d
  induction d with
  | zero =>
    intro i hi
    have h1 : Ev (fun k => impl_PictureValid.l1 k b b.length 0 a b) _ := impl_pic_l1 a b hb hl b.length 0 (by omega)
    refine Ev.step (fun k => by rw [impl_PictureValid.l0]) (Ev.ifn (by omega) (Ev.eq h1 ?_))
    rw [List.drop_eq_nil_of_le (show a.length ≤ i by omega)]; simp
  | succ d ih =>
    intro i hi
    have hw : wrap64 ((i : Int) + 1) = ((i + 1 : Nat) : Int) := by rw [w64 (by omega) (by omega)]; omega
    have hlt : i < a.length := by omega
    refine Ev.step (fun k => by rw [impl_PictureValid.l0]) ?_
    rw [rdL_nat a i hlt, hw, List.drop_eq_getElem_cons hlt, List.all_cons]
    refine Ev.ifp (by omega) (Ev.ifp (by omega) (Ev.ifp (by omega) (Ev.bind (impl_clue _ _ (by have := ha _ (List.getElem_mem hlt); omega)) ?_)))
    cases hc : clueV a[i] b.length
    · exact Ev.ifn (by simp) (Ev.eq (Ev.now _) (by simp))
    · exact Ev.ifp rfl (Ev.eq (ih (i + 1) (by omega)) (by simp))
theorem impl_pic_j (a b : List (List Int)) (ha : ∀ x ∈ a, x.length ≤ 1048576) (hal : a.length ≤ 1048576) (hb : ∀ x ∈ b, x.length ≤ 1048576) (hl : b.length ≤ 1048576) (x : Bool) :
    Ev (fun k => impl_PictureValid.j0 k x a b) (!x && (a.all (fun c => clueV c b.length) && b.all (fun c => clueV c a.length))) := by
  refine Ev.step (fun k => by rw [impl_PictureValid.j0]) ?_
  cases x
  · exact Ev.ifn (by simp) (Ev.eq (impl_pic_l0 a b ha hal hb hl a.length 0 (by omega)) (by simp))
  · exact Ev.ifp rfl (Ev.eq (Ev.now _) (by simp))
theorem impl_pic (a b : List (List Int)) (ha : ∀ x ∈ a, x.length ≤ 1048576) (hal : a.length ≤ 1048576) (hb : ∀ x ∈ b, x.length ≤ 1048576) (hl : b.length ≤ 1048576) : Ev (fun k => impl_PictureValid.f k a b) (picV a b) := by
  unfold impl_PictureValid.f picV
  have hj := impl_pic_j a b ha hal hb hl
  by_cases c1 : (a.length : Int) < 1
  · refine Ev.ifp c1 (Ev.eq (hj true) ?_)
    have h : ¬ (1 ≤ a.length ∧ a.length ≤ 5) := by omega
    simp [h]
  refine Ev.ifn c1 ?_
  by_cases c2 : (a.length : Int) > 5
  · refine Ev.ifp c2 (Ev.eq (hj true) ?_)
    have h : ¬ (1 ≤ a.length ∧ a.length ≤ 5) := by omega
    simp [h]
  refine Ev.ifn c2 ?_
  have h : (1 ≤ a.length ∧ a.length ≤ 5) := by omega
  by_cases c3 : (b.length : Int) < 1
  · refine Ev.ifp c3 (Ev.eq (hj true) ?_)
    have h : ¬ (1 ≤ b.length ∧ b.length ≤ 5) := by omega
    simp [h]
  refine Ev.ifn c3 (Ev.eq (hj _) ?_)
  by_cases c4 : (b.length : Int) > 5
  · have h5 : ¬ (1 ≤ b.length ∧ b.length ≤ 5) := by omega
    simp [h5, c4]
  · have h5 : (1 ≤ b.length ∧ b.length ≤ 5) := by omega
    simp [h5, h, c4]
theorem FnExactPictureValid (a b : List (List Int)) (ha : ∀ x ∈ a, x.length ≤ 9223372036854775807) (hal : a.length ≤ 9223372036854775807) (hb : ∀ x ∈ b, x.length ≤ 9223372036854775807) (hbl : b.length ≤ 9223372036854775807) : ∃ k, laws_FnExactPictureValid.f k a b = some true := by
  apply Ev.rounds
  unfold laws_FnExactPictureValid.f
  have hz : Ev (fun k => laws_szPicture.f k a b 1048576) (if (a.length : Int) + tot a + (b.length + tot b) ≤ 1048576 then 1048576 - a.length - tot a - b.length - tot b else -1) := by
    unfold laws_szPicture.f
    refine Ev.bind (szIntSS_ev a ha hal 1048576 (by omega) (by omega)) ?_
    by_cases c : (a.length : Int) + tot a ≤ 1048576
    · rw [if_pos c]
      refine Ev.ifn (by omega) (Ev.bind (szIntSS_ev b hb hbl _ (by omega) (by omega)) ?_)
      by_cases c2 : (b.length : Int) + tot b ≤ 1048576 - a.length - tot a
      · rw [if_pos c2]; exact Ev.ifn (by omega) (Ev.eq (Ev.now _) (by rw [if_pos (by omega)]))
      · rw [if_neg c2]; exact Ev.ifp (by omega) (Ev.eq (Ev.now _) (by rw [if_neg (by omega)]))
    · rw [if_neg c]; exact Ev.ifp (by omega) (Ev.eq (Ev.now _) (by rw [if_neg (by omega)]))
  refine Ev.bind hz ?_
  by_cases c : (a.length : Int) + tot a + (b.length + tot b) ≤ 1048576
  · rw [if_pos c]
    refine Ev.ifn (by omega) ?_
    have ra : ∀ x ∈ a, x.length ≤ 1048576 := fun x hx => by have := tot_mem a x hx; omega
    have rb : ∀ x ∈ b, x.length ≤ 1048576 := fun x hx => by have := tot_mem b x hx; omega
    have hT : Ev (fun k => laws_toPicture.f k a b) (a, b) := by
      unfold laws_toPicture.f
      exact Ev.bind (toIntSS_ev a (fun x hx => by have := ra x hx; omega) (by omega)) (Ev.bind (toIntSS_ev b (fun x hx => by have := rb x hx; omega) (by omega)) (Ev.now _))
    have hE : Ev (fun k => laws_eqPicture.f k a b a b) true := by
      unfold laws_eqPicture.f
      exact Ev.bind (eqIntSS_self a (fun x hx => by have := ra x hx; omega) (by omega)) (Ev.ifp rfl (Ev.bind (eqIntSS_self b (fun x hx => by have := rb x hx; omega) (by omega)) (Ev.ifp rfl (Ev.now _))))
    exact Ev.bind hT (Ev.bind (spec_pic a b ra (by omega) rb (by omega)) (Ev.bind hT (Ev.bind (impl_pic a b ra (by omega) rb (by omega)) (Ev.ifn (by simp) (Ev.bind hT (Ev.bind hE (Ev.ifp rfl (Ev.now _))))))))
  · rw [if_neg c]; exact Ev.ifp (by omega) (Ev.now _)

end Go.Proofs.Ytapnohcfnclleaa.Pure
