/- For every code: the clue of the line that the code draws is what the reference answers; its numbers together are the filled cells, the line in reverse order has the clue in reverse order, and the clue is valid. No conditions beyond the code being bytes. -/
import Derived.Test.YtnmlcbdbbnaabaaPFnClueOfx5
namespace Go.Proofs.Ytnmlcbdbbnaabaa.Pure
open Go.RowKit Go.Proofs.Ytnmlcbdbbnaabaa.PFnClueOf Go.Proofs.YtnmlcbdbbnaabaaW.PrintWords Go.Proofs.YtnmlcbdbbnaabaaW.PrintLast Go.Proofs.YtnmlcbdbbnaabaaW.PrintMore
set_option linter.unusedVariables false
set_option linter.unusedSimpArgs false
/-! Ev: small steps. -/
theorem _root_.Go.Proofs.YtnmlcbdbbnaabaaW.PrintWords.Ev.ifp {α : Type} {c : Prop} [Decidable c] {g f : Nat → Option α} {r : α} (hc : c) (h : Ev g r) : Ev (fun k => if c then g k else f k) r :=
  Ev.congr (fun _ => if_pos hc) h
theorem _root_.Go.Proofs.YtnmlcbdbbnaabaaW.PrintWords.Ev.ifn {α : Type} {c : Prop} [Decidable c] {g f : Nat → Option α} {r : α} (hc : ¬ c) (h : Ev f r) : Ev (fun k => if c then g k else f k) r :=
  Ev.congr (fun _ => if_neg hc) h
theorem _root_.Go.Proofs.YtnmlcbdbbnaabaaW.PrintWords.Ev.bindc {α β : Type} {o : Option α} {f : Nat → α → Option β} {a : α} {r : β} (h : o = some a) (k : Ev (fun n => f n a) r) : Ev (fun n => o.bind (f n)) r := by
  subst h; exact k
theorem _root_.Go.Proofs.YtnmlcbdbbnaabaaW.PrintWords.Ev.eq {α : Type} {g : Nat → Option α} {r r' : α} (h : Ev g r) (e : r = r') : Ev g r' := e ▸ h
theorem _root_.Go.Proofs.YtnmlcbdbbnaabaaW.PrintWords.Ev.cst {α : Type} {o : Option α} {r : α} (h : o = some r) : Ev (fun _ => o) r := ⟨0, fun _ _ => h⟩
theorem w64 {x : Int} (h0 : -9223372036854775808 ≤ x) (h1 : x ≤ 9223372036854775807) : wrap64 x = x := by unfold wrap64; omega
theorem wf_i64 {x : Int} (h : (Lit.int .i64 x).wf = true) : -9223372036854775808 ≤ x ∧ x ≤ 9223372036854775807 := by
  have h2 : (decide (IntKind.i64.min ≤ x) && decide (x ≤ IntKind.i64.max)) = true := h
  simp [IntKind.min, IntKind.max, IntKind.bits, IntKind.signed] at h2
  exact h2
theorem wf_u8 {x : Int} (h : (Lit.int .u8 x).wf = true) : 0 ≤ x ∧ x ≤ 255 := by
  have h2 : (decide (IntKind.u8.min ≤ x) && decide (x ≤ IntKind.u8.max)) = true := h
  simp [IntKind.min, IntKind.max, IntKind.bits, IntKind.signed] at h2
  omega
theorem rd_nat (xs : List Int) (i : Nat) (h : i < xs.length) : rd xs (i : Int) = xs[i] := by
  simp [rd, List.getD_eq_getElem?_getD, h]
theorem rd_mem (xs : List Int) (i : Int) (h0 : 0 ≤ i) (h : i < xs.length) : rd xs i ∈ xs := by
  obtain ⟨n, rfl⟩ := Int.eq_ofNat_of_zero_le h0
  rw [rd_nat xs n (by omega)]; exact List.getElem_mem _
/-- The cells that a clue takes, with one behind each number. -/
def csum : List Int → Int
  | [] => 0
  | n :: l => n + 1 + csum l
/-- What ClueValid answers. -/
def clueV (c : List Int) (n : Int) : Bool := decide (1 ≤ n ∧ n ≤ 8) && (c.all (fun x => decide (1 ≤ x)) && decide (csum c ≤ n + 1))
theorem csum_nn : ∀ c : List Int, c.all (fun x => decide (1 ≤ x)) = true → 2 * (c.length : Int) ≤ csum c := by
  intro c
  induction c with
  | nil => intro _; simp [csum]
  | cons x c ih =>
    intro h
    simp only [List.all_cons, Bool.and_eq_true, decide_eq_true_eq] at h
    have := ih h.2
    simp only [csum, List.length_cons]
    omega
theorem csum_le : ∀ c : List Int, c.all (fun x => decide (1 ≤ x)) = true → ∀ x ∈ c, x < csum c := by
  intro c
  induction c with
  | nil => intro _ x hx; simp at hx
  | cons y c ih =>
    intro h x hx
    simp only [List.all_cons, Bool.and_eq_true, decide_eq_true_eq] at h
    have hn := csum_nn c h.2
    simp only [csum]
    rcases List.mem_cons.1 hx with hx | hx
    · omega
    · have := ih h.2 x hx
      omega
theorem impl_clue_l (l : List Int) (hl : l.length ≤ 140737488351232) : ∀ (d i : Nat) (t : Int), l.length = i + d → 0 ≤ t → t ≤ 100 →
    Ev (fun k => impl_ClueValid.l0 k t l l.length i) ((l.drop i).all (fun x => decide (1 ≤ x)) && decide (csum (l.drop i) ≤ t)) := by
  intro d
  induction d with
  | zero =>
    intro i t hi h0 h1
    refine Ev.step (fun k => by rw [impl_ClueValid.l0]) (Ev.ifn (by omega) (Ev.eq (Ev.now _) ?_))
    rw [List.drop_eq_nil_of_le (by omega)]; simp [csum, h0]
  | succ d ih =>
    intro i t hi h0 h1
    have hlt : i < l.length := by omega
    have hw : wrap64 ((i : Int) + 1) = ((i + 1 : Nat) : Int) := by rw [w64 (by omega) (by omega)]; omega
    refine Ev.step (fun k => by rw [impl_ClueValid.l0]) ?_
    rw [rd_nat l i hlt, hw, List.drop_eq_getElem_cons hlt, List.all_cons]
    rw [show csum (l[i] :: l.drop (i + 1)) = l[i] + 1 + csum (l.drop (i + 1)) from rfl]
    refine Ev.ifp (by omega) (Ev.ifp (by omega) (Ev.ifp (by omega) ?_))
    by_cases c1 : l[i] < 1
    · have h : ¬ 1 ≤ l[i] := by omega
      exact Ev.ifp c1 (Ev.eq (Ev.now _) (by simp [h]))
    refine Ev.ifn c1 ?_
    have g : 1 ≤ l[i] := by omega
    by_cases c2 : l[i] ≥ t
    · refine Ev.ifp c2 (Ev.eq (Ev.now _) ?_)
      symm
      rw [Bool.and_eq_false_iff]
      cases ha : (l.drop (i + 1)).all (fun x => decide (1 ≤ x))
      · left; simp
      · right
        have := csum_nn _ ha
        simp; omega
    · refine Ev.ifn c2 ?_
      rw [w64 (x := l[i] + 1) (by omega) (by omega), w64 (by omega) (by omega)]
      refine Ev.eq (ih (i + 1) (t - (l[i] + 1)) (by omega) (by omega) (by omega)) ?_
      simp only [g, decide_true, Bool.true_and]
      congr 1
      rw [decide_eq_decide]; omega
theorem impl_clue (l : List Int) (n : Int) (hl : l.length ≤ 140737488351232) : Ev (fun k => impl_ClueValid.f k l n) (clueV l n) := by
  have no : ∀ b : Bool, b = true → ¬ (1 ≤ n ∧ n ≤ 8) → Ev (fun k => impl_ClueValid.j0 k l n b) (clueV l n) := by
    intro b hb h
    refine Ev.step (fun k => by rw [impl_ClueValid.j0]) (Ev.ifp hb (Ev.eq (Ev.now _) ?_))
    unfold clueV
    rw [decide_eq_false h]; simp
  unfold impl_ClueValid.f
  by_cases c1 : n < 1
  · exact Ev.ifp c1 (no _ rfl (by omega))
  refine Ev.ifn c1 ?_
  by_cases c2 : n > 8
  · exact no _ (by simpa using c2) (by omega)
  refine Ev.step (fun k => by rw [impl_ClueValid.j0]) (Ev.ifn (by simpa using c2) ?_)
  rw [w64 (by omega) (by omega)]
  refine Ev.eq (impl_clue_l l hl l.length 0 (n + 1) (by omega) (by omega) (by omega)) ?_
  unfold clueV
  rw [decide_eq_true (show 1 ≤ n ∧ n ≤ 8 by omega)]; simp
def isum : List Int → Int
  | [] => 0
  | n :: l => n + isum l
theorem csum_isum : ∀ c : List Int, csum c = isum c + c.length := by
  intro c
  induction c with
  | nil => rfl
  | cons x c ih => simp only [csum, isum, List.length_cons]; omega
/-- The clue of a line, r cells being filled ahead of it. -/
def clueR : Int → List Bool → List Int
  | r, [] => if 0 < r then [r] else []
  | r, true :: l => clueR (r + 1) l
  | r, false :: l => if 0 < r then r :: clueR 0 l else clueR 0 l
/-- What ClueOf answers. -/
def clueL (l : List Bool) : List Int := if l.length ≤ 8 then clueR 0 l else []
theorem rdOf_nat (xs : List Bool) (i : Nat) (h : i < xs.length) : rdOf false xs (i : Int) = xs[i] := by
  simp [rdOf, List.getD_eq_getElem?_getD, h]
theorem clueR_f : ∀ (l : List Bool) (r : Int), clueR r (l ++ [false]) = clueR r l := by
  intro l
  induction l with
  | nil => intro r; simp [clueR]
  | cons b l ih =>
    intro r
    cases b
    · simp only [List.cons_append, clueR, ih]
    · simp only [List.cons_append, clueR, ih]
theorem clueR_ft : ∀ (l : List Bool) (r : Int), clueR r (l ++ [false] ++ [true]) = clueR r l ++ [1] := by
  intro l
  induction l with
  | nil =>
    intro r
    by_cases h : 0 < r <;> simp [clueR, h]
  | cons b l ih =>
    intro r
    cases b
    · simp only [List.cons_append, clueR]
      rw [ih]
      by_cases h : 0 < r <;> simp [h]
    · simp only [List.cons_append, clueR]
      exact ih _
theorem clueR_tt : ∀ (l : List Bool) (r : Int), 0 ≤ r → ∃ ys z, clueR r (l ++ [true]) = ys ++ [z] ∧ clueR r (l ++ [true] ++ [true]) = ys ++ [z + 1] := by
  intro l
  induction l with
  | nil =>
    intro r hr
    refine ⟨[], r + 1, ?_, ?_⟩
    · simp [clueR]; omega
    · simp [clueR]; omega
  | cons b l ih =>
    intro r hr
    cases b
    · obtain ⟨ys, z, h1, h2⟩ := ih 0 (by omega)
      by_cases h : 0 < r
      · refine ⟨r :: ys, z, ?_, ?_⟩
        · simp only [List.cons_append, clueR, h, if_true, h1]
        · simp only [List.cons_append, clueR, h, if_true]
          rw [h2]
      · refine ⟨ys, z, ?_, ?_⟩
        · simp only [List.cons_append, clueR, h, if_false, h1]
        · simp only [List.cons_append, clueR, h, if_false]
          rw [h2]
    · obtain ⟨ys, z, h1, h2⟩ := ih (r + 1) (by omega)
      exact ⟨ys, z, by simpa only [List.cons_append, clueR] using h1, by simpa only [List.cons_append, clueR] using h2⟩
theorem clueR_le : ∀ (l : List Bool) (r : Int), 0 ≤ r → ∀ x ∈ clueR r l, 1 ≤ x ∧ x ≤ r + l.length := by
  intro l
  induction l with
  | nil =>
    intro r hr x hx
    simp only [clueR] at hx
    split at hx
    · simp at hx; simp; omega
    · simp at hx
  | cons b l ih =>
    intro r hr x hx
    cases b
    · simp only [clueR] at hx
      split at hx
      · rcases List.mem_cons.1 hx with hx | hx
        · simp; omega
        · have := ih 0 (by omega) x hx; simp; omega
      · have := ih 0 (by omega) x hx; simp; omega
    · simp only [clueR] at hx
      have := ih (r + 1) (by omega) x hx; simp; omega
theorem clueR_len : ∀ (l : List Bool) (r : Int), (clueR r l).length ≤ l.length + 1 := by
  intro l
  induction l with
  | nil => intro r; simp only [clueR]; split <;> simp
  | cons b l ih =>
    intro r
    cases b
    · simp only [clueR]
      have := ih 0
      split <;> (simp; omega)
    · simp only [clueR]
      have := ih (r + 1)
      simp; omega
theorem clueL_len (l : List Bool) : (clueL l).length ≤ 9 := by
  unfold clueL
  split
  · have := clueR_len l 0; omega
  · simp
theorem impl_clueof_l (l : List Bool) (h8 : l.length ≤ 8) : ∀ (d i : Nat), l.length = i + d →
    Ev (fun k => impl_ClueOf.l0 k l (clueR 0 (l.take i)) l l.length i) (clueR 0 l) := by
  intro d
  induction d with
  | zero =>
    intro i hi
    refine Ev.step (fun k => by rw [impl_ClueOf.l0]) (Ev.ifn (by omega) (Ev.eq (Ev.now _) ?_))
    rw [List.take_of_length_le (by omega)]
  | succ d ih =>
    intro i hi
    have hlt : i < l.length := by omega
    have hw : wrap64 ((i : Int) + 1) = ((i + 1 : Nat) : Int) := by rw [w64 (by omega) (by omega)]; omega
    have hlen := clueR_len (l.take i) 0
    rw [List.length_take] at hlen
    have h1 := ih (i + 1) (by omega)
    have ht : l.take (i + 1) = l.take i ++ [l[i]] := by rw [List.take_succ_eq_append_getElem hlt]
    refine Ev.step (fun k => by rw [impl_ClueOf.l0]) (Ev.ifp (by omega) (Ev.ifp (by omega) (Ev.ifp (by omega) ?_)))
    rw [hw, rdOf_nat l i hlt]
    cases hb : l[i]
    · refine Ev.ifn (by decide) ?_
      rw [ht, hb, clueR_f] at h1
      exact h1
    · refine Ev.ifp rfl ?_
      by_cases c : (i : Int) > 0
      · have hlt1 : i - 1 < l.length := by omega
        have hw1 : wrap64 ((i : Int) - 1) = ((i - 1 : Nat) : Int) := by rw [w64 (by omega) (by omega)]; omega
        have ht1 : l.take i = l.take (i - 1) ++ [l[i - 1]] := by
          have := List.take_succ_eq_append_getElem hlt1
          rw [show i - 1 + 1 = i by omega] at this
          exact this
        rw [hw1, rdOf_nat l (i - 1) hlt1]
        refine Ev.ifp c (Ev.ifp (by omega) (Ev.ifp (by omega) ?_))
        cases hb1 : l[i - 1]
        · refine Ev.ifn (by decide) (Ev.ifp (by omega) ?_)
          rw [ht, hb, ht1, hb1, clueR_ft] at h1
          rw [ht1, hb1, clueR_f]
          exact h1
        · obtain ⟨ys, z, g1, g2⟩ := clueR_tt (l.take (i - 1)) 0 (by omega)
          have e1 : clueR 0 (l.take i) = ys ++ [z] := by rw [ht1, hb1]; exact g1
          have e2 : clueR 0 (l.take (i + 1)) = ys ++ [z + 1] := by rw [ht, hb, ht1, hb1]; exact g2
          have hz := clueR_le (l.take i) 0 (by omega) z (by rw [e1]; simp)
          rw [List.length_take] at hz
          rw [e1] at hlen ⊢
          rw [e2] at h1
          have hyl : (ys ++ [z]).length = ys.length + 1 := by simp
          have hw2 : wrap64 (((ys ++ [z]).length : Int) - 1) = ((ys.length : Nat) : Int) := by rw [w64 (by omega) (by omega)]; omega
          have hr : rd (ys ++ [z]) ((ys.length : Nat) : Int) = z := by rw [rd_nat _ _ (by omega)]; simp
          rw [hw2, hr, w64 (x := z + 1) (by omega) (by omega)]
          refine Ev.ifp rfl (Ev.ifp (by omega) (Ev.ifp (by omega) ?_))
          have hs : (ys ++ [z]).set ((ys.length : Nat) : Int).toNat (z + 1) = ys ++ [z + 1] := by
            rw [Int.toNat_natCast, List.set_append_right _ _ (Nat.le_refl _)]; simp
          rw [hs]; exact h1
      · have hi0 : i = 0 := by omega
        subst hi0
        refine Ev.ifn c (Ev.ifp (by omega) ?_)
        rw [ht, hb] at h1
        simpa [clueR] using h1
theorem impl_clueof (l : List Bool) (hl : l.length ≤ 140737488351232) : Ev (fun k => impl_ClueOf.f k l) (clueL l) := by
  unfold impl_ClueOf.f clueL
  by_cases h8 : l.length ≤ 8
  · refine Ev.ifn (by omega) (Ev.eq (?_ : Ev _ (clueR 0 l)) (by rw [if_pos h8]))
    have := impl_clueof_l l h8 l.length 0 (by omega)
    simpa [clueR] using this
  · exact Ev.ifp (by omega) (Ev.eq (Ev.now _) (by rw [if_neg h8]))
theorem spec_clueof_end (l : List Bool) (out : List Int) (run : Int) (h8 : l.length ≤ 8) : Ev (fun k => spec_ClueOf.l0 k l out run ((l.length + 1 : Nat) : Int)) out := by
  refine Ev.step (fun k => by rw [spec_ClueOf.l0]) (Ev.ifn (by omega) ?_)
  exact Ev.step (fun k => by rw [spec_ClueOf.j1]) (Ev.ifn (by decide) (Ev.now _))
theorem spec_clueof_l (l : List Bool) (h8 : l.length ≤ 8) : ∀ (d i : Nat) (run : Int) (out : List Int), l.length = i + d → 0 ≤ run → run ≤ i → out.length ≤ i →
    Ev (fun k => spec_ClueOf.l0 k l out run i) (out ++ clueR run (l.drop i)) := by
  intro d
  induction d with
  | zero =>
    intro i run out hi h0 h1 h2
    have hw : wrap64 ((i : Int) + 1) = ((l.length + 1 : Nat) : Int) := by rw [w64 (by omega) (by omega)]; omega
    refine Ev.step (fun k => by rw [spec_ClueOf.l0]) (Ev.ifp (by omega) ?_)
    refine Ev.step (fun k => by rw [spec_ClueOf.j1]) (Ev.ifp (by simp; omega) (Ev.ifn (by omega) ?_))
    refine Ev.step (fun k => by rw [spec_ClueOf.j2]) (Ev.ifn (by decide) ?_)
    rw [hw, List.drop_eq_nil_of_le (by omega)]
    by_cases c : run > 0
    · refine Ev.ifp c (Ev.ifp (by omega) (Ev.eq (spec_clueof_end l _ _ h8) ?_))
      simp [clueR, show 0 < run from c]
    · refine Ev.ifn c (Ev.eq (spec_clueof_end l _ _ h8) ?_)
      have : ¬ 0 < run := c
      simp [clueR, this]
  | succ d ih =>
    intro i run out hi h0 h1 h2
    have hlt : i < l.length := by omega
    have hw : wrap64 ((i : Int) + 1) = ((i + 1 : Nat) : Int) := by rw [w64 (by omega) (by omega)]; omega
    refine Ev.step (fun k => by rw [spec_ClueOf.l0]) (Ev.ifp (by omega) ?_)
    refine Ev.step (fun k => by rw [spec_ClueOf.j1]) (Ev.ifp (by simp; omega) (Ev.ifp (by omega) (Ev.ifp (by omega) ?_)))
    refine Ev.step (fun k => by rw [spec_ClueOf.j2]) ?_
    rw [hw, rdOf_nat l i hlt, List.drop_eq_getElem_cons hlt]
    cases hb : l[i]
    · refine Ev.ifn (by decide) ?_
      by_cases c : run > 0
      · refine Ev.ifp c (Ev.ifp (by omega) (Ev.eq (ih (i + 1) 0 (out ++ [run]) (by omega) (by omega) (by omega) (by simp; omega)) ?_))
        simp [clueR, show 0 < run from c]
      · have hr : run = 0 := by omega
        refine Ev.ifn c (Ev.eq (ih (i + 1) run out (by omega) (by omega) (by omega) (by omega)) ?_)
        simp [clueR, hr]
    · refine Ev.ifp rfl ?_
      rw [w64 (x := run + 1) (by omega) (by omega)]
      refine Ev.eq (ih (i + 1) (run + 1) out (by omega) (by omega) (by omega) (by omega)) ?_
      simp [clueR]
theorem spec_clueof (l : List Bool) (hl : l.length ≤ 140737488351232) : Ev (fun k => spec_ClueOf.f k l) (clueL l) := by
  unfold spec_ClueOf.f clueL
  by_cases h8 : l.length ≤ 8
  · exact Ev.eq (spec_clueof_l l h8 l.length 0 0 [] (by omega) (by omega) (by omega) (by simp)) (by rw [if_pos h8]; simp)
  · refine Ev.step (fun k => by rw [spec_ClueOf.l0]) (Ev.ifp (by omega) ?_)
    exact Ev.step (fun k => by rw [spec_ClueOf.j1]) (Ev.ifn (by simp; omega) (Ev.eq (Ev.now _) (by rw [if_neg h8])))
theorem clueR_rep : ∀ (c : Nat) (r : Int) (l : List Bool), clueR r (List.replicate c true ++ l) = clueR (r + c) l := by
  intro c
  induction c with
  | zero => intro r l; simp
  | succ c ih =>
    intro r l
    rw [List.replicate_succ, List.cons_append]
    simp only [clueR]
    rw [ih]
    congr 1
    omega
def onesL (l : List Bool) : Int := (l.countP id : Nat)
theorem onesL_cons (b : Bool) (l : List Bool) : onesL (b :: l) = onesL l + if b = true then 1 else 0 := by
  unfold onesL
  cases b <;> simp
theorem isum_clue : ∀ (l : List Bool) (r : Int), 0 ≤ r → isum (clueR r l) = r + onesL l := by
  intro l
  induction l with
  | nil =>
    intro r hr
    by_cases h : 0 < r
    · simp [clueR, h, isum, onesL]
    · simp [clueR, h, isum, onesL]; omega
  | cons b l ih =>
    intro r hr
    rw [onesL_cons]
    cases b
    · have := ih 0 (by omega)
      by_cases h : 0 < r
      · simp only [clueR, h, if_true, isum]; simp; omega
      · simp only [clueR, h, if_false]; simp; omega
    · have := ih (r + 1) (by omega)
      simp only [clueR]; simp; omega
theorem csum_clue : ∀ (l : List Bool) (r : Int), 0 ≤ r → csum (clueR r l) ≤ r + l.length + 1 := by
  intro l
  induction l with
  | nil =>
    intro r hr
    by_cases h : 0 < r
    · simp [clueR, h, csum]
    · simp [clueR, h, csum]; omega
  | cons b l ih =>
    intro r hr
    cases b
    · have := ih 0 (by omega)
      by_cases h : 0 < r
      · simp only [clueR, h, if_true, csum, List.length_cons]; omega
      · simp only [clueR, h, if_false, List.length_cons]; omega
    · have := ih (r + 1) (by omega)
      simp only [clueR, List.length_cons]; omega
theorem clueV_of (l : List Bool) (h1 : 1 ≤ l.length) (h8 : l.length ≤ 8) : clueV (clueL l) l.length = true := by
  unfold clueV clueL
  rw [if_pos h8]
  simp only [Bool.and_eq_true, decide_eq_true_eq, List.all_eq_true]
  refine ⟨by omega, fun x hx => (clueR_le l 0 (by omega) x hx).1, ?_⟩
  have := csum_clue l 0 (by omega)
  omega
theorem clueR_sep : ∀ (m : List Bool) (s : Int) (t : List Bool), clueR s (m ++ false :: t) = clueR s m ++ clueR 0 t := by
  intro m
  induction m with
  | nil =>
    intro s t
    by_cases h : 0 < s <;> simp [clueR, h]
  | cons b m ih =>
    intro s t
    cases b
    · simp only [List.cons_append, clueR, ih]
      by_cases h : 0 < s <;> simp [h]
    · simp only [List.cons_append, clueR, ih]
theorem clueR_turn : ∀ (l : List Bool) (r : Nat), clueR 0 (l.reverse ++ List.replicate r true) = (clueR (r : Int) l).reverse := by
  intro l
  induction l with
  | nil =>
    intro r
    have h := clueR_rep r 0 []
    rw [List.append_nil, Int.zero_add] at h
    rw [List.reverse_nil, List.nil_append, h]
    simp only [clueR]
    split <;> simp
  | cons b l ih =>
    intro r
    cases b
    · have h := clueR_rep r 0 []
      rw [List.append_nil, Int.zero_add] at h
      have h2 := ih 0
      rw [List.replicate_zero, List.append_nil] at h2
      rw [List.reverse_cons, List.append_assoc, List.singleton_append, clueR_sep, h, h2]
      simp only [clueR, Int.natCast_zero]
      split <;> simp
    · have h := ih (r + 1)
      rw [List.replicate_succ] at h
      rw [List.reverse_cons, List.append_assoc, List.singleton_append, h]
      simp [clueR]
theorem clueL_rev (l : List Bool) (h8 : l.length ≤ 8) : clueL l.reverse = (clueL l).reverse := by
  unfold clueL
  rw [List.length_reverse, if_pos h8, if_pos h8]
  have h := clueR_turn l 0
  rw [List.replicate_zero, List.append_nil] at h
  exact h
theorem isum_drop (x : List Int) (i : Nat) (h : i < x.length) : isum (x.drop i) = x[i] + isum (x.drop (i + 1)) := by
  rw [List.drop_eq_getElem_cons h]; rfl
theorem isum_nn : ∀ c : List Int, (∀ x ∈ c, 1 ≤ x) → 0 ≤ isum c
  | [], _ => by simp [isum]
  | x :: c, h => by
    have h1 := h x List.mem_cons_self
    have h2 := isum_nn c (fun y hy => h y (List.mem_cons_of_mem _ hy))
    simp only [isum]; omega
/-! The reader of draws: only that each number drawn lies in its range. -/
structure Byts (b : List Int) : Prop where
  len : b.length ≤ 2000
  val : ∀ x ∈ b, 0 ≤ x ∧ x ≤ 255
theorem xor_nn {a b : Int} (ha : 0 ≤ a) (ha1 : a < 4611686018427387904) (hb : 0 ≤ b) (hb1 : b < 4611686018427387904) : 0 ≤ Go.bits .xor .i64 a b := by
  obtain ⟨m, rfl⟩ := Int.eq_ofNat_of_zero_le ha
  obtain ⟨n, rfl⟩ := Int.eq_ofNat_of_zero_le hb
  have h : (m ^^^ n) < 2 ^ 62 := Nat.xor_lt_two_pow (by omega) (by omega)
  have hm : m % 2 ^ IntKind.i64.bits = m := Nat.mod_eq_of_lt (show m < 2 ^ 64 by omega)
  have hn : n % 2 ^ IntKind.i64.bits = n := Nat.mod_eq_of_lt (show n < 2 ^ 64 by omega)
  simp only [Go.bits, BitVec.ofInt_natCast, BitVec.toNat_xor, BitVec.toNat_ofNat, hm, hn]
  rw [IntKind.wrap_i64]
  omega
theorem open_ok (l : List Int) (h : l.length ≤ maxLen) (hb : ∀ x ∈ l, (Lit.int .u8 x).wf = true) : ∃ b, spec_l20Open.f l = some (b, 0) ∧ Byts b := by
  unfold spec_l20Open.f
  by_cases c : (l.length : Int) > 2000
  · rw [if_pos c, if_pos (by omega)]
    exact ⟨_, rfl, by rw [List.length_take]; omega, fun x hx => wf_u8 (hb x (List.mem_of_mem_take hx))⟩
  · rw [if_neg c]
    exact ⟨_, rfl, by omega, fun x hx => wf_u8 (hb x hx)⟩
theorem pick_any {b : List Int} (hb : Byts b) {p : Int} (hp : 0 ≤ p) (hp1 : p ≤ 1000000) (n : Int) (hn1 : n ≤ 9223372036854775807) :
    ∃ r, Ev (fun k => spec_l20Rd_pick.f k b p n) (r, p + 1) ∧ 0 ≤ r ∧ (1 ≤ n → r < n) ∧ (n < 1 → r = 0) := by
  have hw : wrap64 (p + 1) = p + 1 := w64 (by omega) (by omega)
  have hw2 : wrap64 (p + 1 - 1) = p := by rw [w64 (by omega) (by omega)]; omega
  have hl := hb.len
  unfold spec_l20Rd_pick.f
  by_cases c : n < 1
  · refine ⟨0, Ev.ifp c (Ev.step (f := fun _ => some (0, p + 1)) (fun k => ?_) (Ev.now _)), by omega, by omega, fun _ => rfl⟩
    rw [spec_l20Rd_pick.j0]; rw [if_pos rfl, hw]
  · by_cases c0 : b.length = 0
    · refine ⟨0, Ev.ifn c (Ev.step (f := fun _ => some (0, p + 1)) (fun k => ?_) (Ev.now _)), by omega, by omega, fun _ => rfl⟩
      rw [spec_l20Rd_pick.j0]
      rw [c0, if_pos (by decide), hw]
    · have c0' : ((b.length : Int) == 0) = false := by simp; intro h; simp [h] at c0
      by_cases c1 : p < (b.length : Int)
      · have hm := hb.val _ (rd_mem b p hp c1)
        refine ⟨Int.tmod (rd b p) n, Ev.ifn c (Ev.step (f := fun _ => some (Int.tmod (rd b p) n, p + 1)) (fun k => ?_) (Ev.now _)), Int.tmod_nonneg _ hm.1, fun h => Int.tmod_lt_of_pos _ (by omega), fun h => absurd h c⟩
        rw [spec_l20Rd_pick.j0]
        rw [c0', if_neg (by decide), hw, hw2, if_pos c1, if_pos hp, if_neg (by omega), w64 (by omega) (by omega)]
      · have hL : (0 : Int) < (b.length : Int) := by omega
        have e1 := Int.tmod_nonneg (b.length : Int) hp
        have e2 := Int.tmod_lt_of_pos p hL
        have k7 : wrap64 (p * 7) = p * 7 := w64 (by omega) (by omega)
        have k73 : wrap64 (p * 7 + 3) = p * 7 + 3 := w64 (by omega) (by omega)
        have e3 := Int.tmod_nonneg (b.length : Int) (show 0 ≤ p * 7 + 3 by omega)
        have e4 := Int.tmod_lt_of_pos (p * 7 + 3) hL
        have m1 := hb.val _ (rd_mem b _ e1 e2)
        have m2 := hb.val _ (rd_mem b _ e3 e4)
        have d0 : Int.tdiv p (b.length : Int) = p / (b.length : Int) := Int.tdiv_eq_ediv_of_nonneg hp
        have d1 : 0 ≤ p / (b.length : Int) := Int.ediv_nonneg hp (by omega)
        have d2 : p / (b.length : Int) ≤ p := Int.ediv_le_self _ hp
        generalize hx1 : rd b (Int.tmod p (b.length : Int)) = x1 at m1
        generalize hx2 : rd b (Int.tmod (p * 7 + 3) (b.length : Int)) = x2 at m2
        generalize hq : p / (b.length : Int) = q at d0 d1 d2
        have hX : 0 ≤ Go.bits .xor .i64 (x1 * 131 + x2 * 1117 + p * 29 + q * 53) ((x1 * 131 + x2 * 1117 + p * 29 + q * 53) / 64) := xor_nn (by omega) (by omega) (by omega) (by omega)
        generalize hR : Go.bits .xor .i64 (x1 * 131 + x2 * 1117 + p * 29 + q * 53) ((x1 * 131 + x2 * 1117 + p * 29 + q * 53) / 64) = X at hX
        refine ⟨Int.tmod X n, Ev.ifn c (Ev.step (f := fun _ => some (Int.tmod X n, p + 1)) (fun k => ?_) (Ev.now _)), Int.tmod_nonneg _ hX, fun h => Int.tmod_lt_of_pos _ (by omega), fun h => absurd h c⟩
        rw [spec_l20Rd_pick.j0]
        rw [c0', if_neg (by decide), hw, hw2, if_neg c1, if_neg (by omega), k7, k73, if_pos e1, if_pos e2, if_pos e3, if_pos e4, if_neg (by omega), hx1, hx2, d0]
        rw [w64 (x := x1) (by omega) (by omega), w64 (x := x2) (by omega) (by omega), w64 (x := q) (by omega) (by omega), w64 (x := x1 * 131) (by omega) (by omega), w64 (x := x2 * 1117) (by omega) (by omega), w64 (x := p * 29) (by omega) (by omega), w64 (x := q * 53) (by omega) (by omega)]
        rw [w64 (x := x1 * 131 + x2 * 1117) (by omega) (by omega), w64 (x := x1 * 131 + x2 * 1117 + p * 29) (by omega) (by omega), w64 (x := x1 * 131 + x2 * 1117 + p * 29 + q * 53) (by omega) (by omega)]
        rw [Int.tdiv_eq_ediv_of_nonneg (by omega), w64 (by omega) (by omega), hR]
theorem odd_any {b : List Int} (hb : Byts b) {p : Int} (hp : 0 ≤ p) (hp1 : p ≤ 1000000) (n : Int) (hn1 : n ≤ 9223372036854775807) :
    ∃ r q, Ev (fun k => spec_l20Rd_odd.f k b p n) (r, q) ∧ p ≤ q ∧ q ≤ p + 1 := by
  unfold spec_l20Rd_odd.f
  by_cases c : n > 0
  · obtain ⟨r, e, _⟩ := pick_any hb hp hp1 n hn1
    exact ⟨_, _, Ev.ifp c (Ev.bind e (Ev.now _)), by omega, by omega⟩
  · exact ⟨_, _, Ev.ifn c (Ev.now _), by omega, by omega⟩
theorem drawLine_l {b : List Int} (hb : Byts b) : ∀ (d : Nat) (out : List Bool) (p : Int), out.length + d ≤ 100 → 0 ≤ p → p ≤ 10000 - d →
    ∃ l q, Ev (fun k => spec_l20Line.l0 k out d b p) (l, q) ∧ l.length = out.length + d ∧ p ≤ q ∧ q ≤ p + d := by
  intro d
  induction d with
  | zero =>
    intro out p ho hp hp1
    exact ⟨out, p, Ev.step (fun k => by rw [spec_l20Line.l0]) (Ev.ifn (by omega) (Ev.now _)), by omega, by omega, by omega⟩
  | succ d ih =>
    intro out p ho hp hp1
    obtain ⟨r, e, _⟩ := pick_any hb hp (by omega) 2 (by omega)
    obtain ⟨l, q, e1, h1, h2, h3⟩ := ih (out ++ [r == 0]) (p + 1) (by simp; omega) (by omega) (by omega)
    refine ⟨l, q, Ev.step (fun k => by rw [spec_l20Line.l0]) ?_, by rw [h1]; simp; omega, by omega, by omega⟩
    refine Ev.ifp (by omega) (Ev.bind e (Ev.ifp (by omega) ?_))
    rw [show wrap64 (((d + 1 : Nat) : Int) - 1) = (d : Int) from by rw [w64 (by omega) (by omega)]; omega]
    exact e1
theorem drawLine {b : List Int} (hb : Byts b) {p : Int} (hp : 0 ≤ p) (hp1 : p ≤ 1000) (n : Int) (hn0 : 1 ≤ n) (hn : n ≤ 8) :
    ∃ l q, Ev (fun k => spec_l20Line.f k b p n) (l, q) ∧ 1 ≤ l.length ∧ l.length ≤ 8 ∧ p ≤ q ∧ q ≤ p + 9 := by
  obtain ⟨r, e, h0, h1, _⟩ := pick_any hb hp (by omega) n (by omega)
  have h1 := h1 hn0
  obtain ⟨l, q, e1, g1, g2, g3⟩ := drawLine_l hb (1 + r).toNat [] (p + 1) (by simp; omega) (by omega) (by omega)
  refine ⟨l, q, ?_, by simp at g1; omega, by simp at g1; omega, by omega, by omega⟩
  unfold spec_l20Line.f
  refine Ev.bind e ?_
  rw [w64 (by omega) (by omega)]
  rw [show (((1 + r).toNat : Nat) : Int) = 1 + r by omega] at e1
  exact e1
theorem drawClue (l : List Int) (h : l.length ≤ maxLen) (hb : ∀ x ∈ l, (Lit.int .u8 x).wf = true) : ∃ L, Ev (fun k => spec_DrawClueOf.f k l) L ∧ L.length ≤ 9 := by
  obtain ⟨b, e, hB⟩ := open_ok l h hb
  obtain ⟨o, q, e1, p1, p2⟩ := odd_any hB (p := 0) (by omega) (by omega) 9 (by omega)
  unfold spec_DrawClueOf.f
  · cases o
    · obtain ⟨L, q2, e2, h1, h2, _⟩ := drawLine hB (p := q) (by omega) (by omega) 8 (by omega) (by omega)
      exact ⟨L, Ev.bindc e (Ev.bind e1 (Ev.ifn (by simp) (Ev.bind e2 (Ev.now _)))), by omega⟩
    · obtain ⟨r, e2, h1, h2, _⟩ := pick_any hB (p := q) (by omega) (by omega) 2 (by omega)
      have h2 := h2 (by omega)
      by_cases c : r = 0
      · exact ⟨[], Ev.bindc e (Ev.bind e1 (Ev.ifp rfl (Ev.bind e2 (Ev.ifp c (Ev.now _))))), by simp⟩
      · exact ⟨List.replicate 9 false, Ev.bindc e (Ev.bind e1 (Ev.ifp rfl (Ev.bind e2 (Ev.ifn c (Ev.ifp (by show r = 1; omega) (Ev.now _)))))), by simp⟩
theorem sameInts_l (a b : List Int) (h : a.length = b.length) (hl : a.length ≤ 140737488351232) : ∀ (d i : Nat), a.length = i + d → Ev (fun k => laws_sameInts.l0 k a b i) (decide (a.drop i = b.drop i)) := by
  intro d
  induction d with
  | zero =>
    intro i hi
    refine Ev.step (f := fun _ => some (decide (a.drop i = b.drop i))) (fun k => ?_) (Ev.now _)
    rw [laws_sameInts.l0]; rw [if_neg (by omega), List.drop_eq_nil_of_le (by omega), List.drop_eq_nil_of_le (by omega)]; simp
  | succ d ih =>
    intro i hi
    have ha : i < a.length := by omega
    have hb : i < b.length := by omega
    have hw : wrap64 ((i : Int) + 1) = ((i + 1 : Nat) : Int) := by rw [w64 (by omega) (by omega)]; omega
    by_cases c : a[i] = b[i]
    · refine Ev.step (f := fun k => laws_sameInts.l0 k a b ((i + 1 : Nat) : Int)) (fun k => ?_) ((ih (i + 1) (by omega)).eq ?_)
      · rw [laws_sameInts.l0]; rw [if_pos (by omega), if_pos (by omega), if_pos (by omega), rd_nat a i ha, rd_nat b i hb, if_pos c, hw]
      · rw [List.drop_eq_getElem_cons ha, List.drop_eq_getElem_cons hb, c]; simp only [List.cons.injEq, true_and]
    · refine Ev.step (f := fun k => some false) (fun k => ?_) ((Ev.now _).eq ?_)
      · rw [laws_sameInts.l0]; rw [if_pos (by omega), if_pos (by omega), if_pos (by omega), rd_nat a i ha, rd_nat b i hb, if_neg c]
      · rw [List.drop_eq_getElem_cons ha, List.drop_eq_getElem_cons hb]; simp only [List.cons.injEq, c, false_and, decide_false]
theorem sameInts_ev (a b : List Int) (hl : a.length ≤ 140737488351232) : Ev (fun k => laws_sameInts.f k a b) (decide (a = b)) := by
  unfold laws_sameInts.f
  by_cases h : a.length = b.length
  · exact Ev.ifp (by omega) ((sameInts_l a b h hl a.length 0 (by omega)).eq (by simp))
  · refine Ev.ifn (by omega) ((Ev.now false).eq ?_)
    symm; simp; intro e; exact h (by rw [e])
theorem sameInts_self (a : List Int) (hl : a.length ≤ 140737488351232) : Ev (fun k => laws_sameInts.f k a a) true := (sameInts_ev a a hl).eq (by simp)
theorem alive_ev : Ev (fun k => laws_alive.f k) true := Ev.of (fun k => laws_alive.mono k) (k := 20) (by decide +kernel)
theorem onesL_take (L : List Bool) (m : Nat) (h : m < L.length) : onesL (L.take (m + 1)) = onesL (L.take m) + if L[m] = true then 1 else 0 := by
  unfold onesL
  rw [List.take_succ_eq_append_getElem h, List.countP_append]
  cases L[m] <;> simp
theorem law_l2 (L : List Bool) (h8 : L.length ≤ 8) : ∀ (d i : Nat), (clueL L).length = i + d →
    Ev (fun k => laws_FnClueOf.l2 k L (clueL L) 0 (clueL L).reverse i) true := by
  have hl := clueL_len L
  intro d
  induction d with
  | zero =>
    intro i hi
    refine Ev.step (fun k => by rw [laws_FnClueOf.l2]) (Ev.ifn (by rw [List.length_reverse]; omega) (Ev.ifp rfl (Ev.ifp (by rw [List.length_reverse]) ?_)))
    by_cases c : (L.length : Int) = 0
    · exact Ev.ifp c (Ev.now _)
    · exact Ev.ifn c (Ev.bind (impl_clue (clueL L) L.length (by omega)) (Ev.eq (Ev.now _) (clueV_of L (by omega) h8)))
  | succ d ih =>
    intro i hi
    have hw : wrap64 ((i : Int) + 1) = ((i + 1 : Nat) : Int) := by rw [w64 (by omega) (by omega)]; omega
    have hw2 : wrap64 (wrap64 (((clueL L).length : Int) - 1) - i) = (((clueL L).length - 1 - i : Nat) : Int) := by rw [w64 (x := ((clueL L).length : Int) - 1) (by omega) (by omega), w64 (by omega) (by omega)]; omega
    refine Ev.step (fun k => by rw [laws_FnClueOf.l2, hw, hw2]) (Ev.ifp (by rw [List.length_reverse]; omega) (Ev.ifn (by omega) (Ev.ifp (by omega) (Ev.ifp (by omega) (Ev.ifp (by omega) ?_)))))
    refine Ev.ifp ?_ (ih (i + 1) (by omega))
    rw [rd_nat _ i (by rw [List.length_reverse]; omega), rd_nat _ _ (by omega), List.getElem_reverse]
theorem law_l1 (L : List Bool) (h8 : L.length ≤ 8) : ∀ (m : Nat) (s : Int), m ≤ L.length → s = onesL (L.take m) → s ≤ 8 →
    Ev (fun k => laws_FnClueOf.l1 k L (clueL L) s (L.drop m).reverse ((m : Int) - 1)) true := by
  intro m
  induction m with
  | zero =>
    intro s hm hs _
    have hs0 : s = 0 := by rw [hs]; simp [onesL]
    subst hs0
    refine Ev.step (fun k => by rw [laws_FnClueOf.l1]) (Ev.ifn (by omega) ?_)
    rw [List.drop_zero]
    refine Ev.bind (impl_clueof L.reverse (by rw [List.length_reverse]; omega)) ?_
    rw [clueL_rev L h8]
    exact law_l2 L h8 (clueL L).length 0 (by omega)
  | succ m ih =>
    intro s hm hs h8'
    have hw : wrap64 (((m + 1 : Nat) : Int) - 1 - 1) = (m : Int) - 1 := by rw [w64 (by omega) (by omega)]; omega
    have e1 : ((m + 1 : Nat) : Int) - 1 = (m : Int) := by omega
    rw [e1] at hw ⊢
    have ht := onesL_take L m (by omega)
    have hn : 0 ≤ onesL (L.take m) := by unfold onesL; omega
    refine Ev.step (fun k => by rw [laws_FnClueOf.l1, hw]) (Ev.ifp (by omega) (Ev.ifp (by omega) (Ev.ifp (by omega) (Ev.ifp (by rw [List.length_reverse, List.length_drop]; omega) (Ev.bindc rfl ?_)))))
    rw [rdOf_nat L m (by omega)]
    have ed : (L.drop (m + 1)).reverse ++ [L[m]] = (L.drop m).reverse := by
      rw [List.drop_eq_getElem_cons (l := L) (i := m) (by omega), List.reverse_cons]
    rw [ed]
    by_cases c : L[m] = true
    · rw [if_pos c] at ht
      refine Ev.ifp c ?_
      rw [w64 (by omega) (by omega)]
      exact ih (s - 1) (by omega) (by omega) (by omega)
    · rw [if_neg c] at ht
      exact Ev.ifn c (ih s (by omega) (by omega) (by omega))
theorem law_l0 (L : List Bool) (h8 : L.length ≤ 8) : ∀ (d i : Nat) (s : Int), (clueL L).length = i + d → 0 ≤ s → s + isum ((clueL L).drop i) = onesL L →
    Ev (fun k => laws_FnClueOf.l0 k L (clueL L) s i) true := by
  have hone : onesL L ≤ 8 := by unfold onesL; have := List.countP_le_length (p := id) (l := L); omega
  have hx : ∀ x ∈ clueL L, 1 ≤ x := by
    unfold clueL
    rw [if_pos h8]
    exact fun x hx => (clueR_le L 0 (by omega) x hx).1
  have hl := clueL_len L
  intro d
  induction d with
  | zero =>
    intro i s hi h0 hs
    rw [List.drop_eq_nil_of_le (by omega)] at hs
    simp only [isum] at hs
    have hw : wrap64 ((L.length : Int) - 1) = (L.length : Int) - 1 := w64 (by omega) (by omega)
    refine Ev.step (fun k => by rw [laws_FnClueOf.l0, hw]) (Ev.ifn (by omega) ?_)
    have h1 := law_l1 L h8 L.length s (by omega) (by rw [List.take_length]; omega) (by omega)
    rw [List.drop_length] at h1
    exact h1
  | succ d ih =>
    intro i s hi h0 hs
    have hlt : i < (clueL L).length := by omega
    have hw : wrap64 ((i : Int) + 1) = ((i + 1 : Nat) : Int) := by rw [w64 (by omega) (by omega)]; omega
    rw [isum_drop _ i hlt] at hs
    have h1 := hx _ (List.getElem_mem hlt)
    have h2 := isum_nn ((clueL L).drop (i + 1)) (fun y hy => hx y (List.mem_of_mem_drop hy))
    refine Ev.step (fun k => by rw [laws_FnClueOf.l0, hw]) (Ev.ifp (by omega) (Ev.ifp (by omega) ?_))
    rw [rd_nat _ i hlt, w64 (by omega) (by omega)]
    exact ih (i + 1) _ (by omega) (by omega) (by omega)
theorem FnClueOf : laws_FnClueOf.Pure := by
  intro l h _ hb
  apply Ev.rounds
  unfold laws_FnClueOf.f
  by_cases c0 : (l.length : Int) > 1048576
  · exact Ev.ifp c0 (Ev.now _)
  refine Ev.ifn c0 ?_
  obtain ⟨L, e, h9⟩ := drawClue l h hb
  have hl := clueL_len L
  refine Ev.bind e (Ev.bind (impl_clueof L (by omega)) (Ev.bind (spec_clueof L (by omega)) (Ev.bind (sameInts_self _ (by omega)) (Ev.ifp rfl ?_))))
  by_cases c : (L.length : Int) > 8
  · refine Ev.ifp c (Ev.ifp ?_ (Ev.bind alive_ev (Ev.now _)))
    unfold clueL
    rw [if_neg (by omega)]; rfl
  · refine Ev.ifn c ?_
    refine law_l0 L (by omega) (clueL L).length 0 0 (by omega) (by omega) ?_
    rw [List.drop_zero]
    unfold clueL
    rw [if_pos (by omega), isum_clue L 0 (by omega)]; omega

end Go.Proofs.Ytnmlcbdbbnaabaa.Pure
