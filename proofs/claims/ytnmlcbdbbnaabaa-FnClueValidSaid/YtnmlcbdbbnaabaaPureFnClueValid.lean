/- For every code: at the clue and the number that the code draws ClueValid answers what the reference answers, and a clue is valid exactly if some line has it. No conditions beyond the code being bytes. -/
import Derived.Test.YtnmlcbdbbnaabaaPFnClueValidx5
namespace Go.Proofs.Ytnmlcbdbbnaabaa.Pure
open Go.RowKit Go.Proofs.Ytnmlcbdbbnaabaa.PFnClueValid Go.Proofs.YtnmlcbdbbnaabaaW.PrintWords Go.Proofs.YtnmlcbdbbnaabaaW.PrintLast Go.Proofs.YtnmlcbdbbnaabaaW.PrintMore
set_option linter.unusedVariables false
set_option linter.unusedSimpArgs false
/-! Ev: small steps. -/
theorem _root_.Go.Proofs.YtnmlcbdbbnaabaaW.PrintWords.Ev.ifp {α : Type} {c : Prop} [Decidable c] {g f : Nat → Option α} {r : α} (hc : c) (h : Ev g r) : Ev (fun k => if c then g k else f k) r :=
  Ev.congr (fun _ => if_pos hc) h
theorem _root_.Go.Proofs.YtnmlcbdbbnaabaaW.PrintWords.Ev.ifn {α : Type} {c : Prop} [Decidable c] {g f : Nat → Option α} {r : α} (hc : ¬ c) (h : Ev f r) : Ev (fun k => if c then g k else f k) r :=
  Ev.congr (fun _ => if_neg hc) h
theorem _root_.Go.Proofs.YtnmlcbdbbnaabaaW.PrintWords.Ev.bindc {α β : Type} {o : Option α} {f : Nat → α → Option β} {a : α} {r : β} (h : o = some a) (k : Ev (fun n => f n a) r) : Ev (fun n => o.bind (f n)) r := by
  subst h; exact k
theorem _root_.Go.Proofs.YtnmlcbdbbnaabaaW.PrintWords.Ev.eq {α : Type} {g : Nat → Option α} {r r' : α} (h : Ev g r) (e : r = r') : Ev g r' := e ▸ h
theorem _root_.Go.Proofs.YtnmlcbdbbnaabaaW.PrintWords.Ev.cst {α : Type} {o : Option α} {r : α} (h : o = some r) : Ev (fun _ => o) r := ⟨0, fun _ _ => h⟩
theorem w64 {x : Int} (h0 : -9223372036854775808 ≤ x) (h1 : x ≤ 9223372036854775807) : wrap64 x = x := by unfold wrap64; omega
theorem wf_i64 {x : Int} (h : (Lit.int .i64 x).wf = true) : -9223372036854775808 ≤ x ∧ x ≤ 9223372036854775807 := by
  have h2 : (decide (IntKind.i64.min ≤ x) && decide (x ≤ IntKind.i64.max)) = true := h
  simp [IntKind.min, IntKind.max, IntKind.bits, IntKind.signed] at h2
  exact h2
theorem wf_u8 {x : Int} (h : (Lit.int .u8 x).wf = true) : 0 ≤ x ∧ x ≤ 255 := by
  have h2 : (decide (IntKind.u8.min ≤ x) && decide (x ≤ IntKind.u8.max)) = true := h
  simp [IntKind.min, IntKind.max, IntKind.bits, IntKind.signed] at h2
  omega
theorem rd_nat (xs : List Int) (i : Nat) (h : i < xs.length) : rd xs (i : Int) = xs[i] := by
  simp [rd, List.getD_eq_getElem?_getD, h]
theorem rd_mem (xs : List Int) (i : Int) (h0 : 0 ≤ i) (h : i < xs.length) : rd xs i ∈ xs := by
  obtain ⟨n, rfl⟩ := Int.eq_ofNat_of_zero_le h0
  rw [rd_nat xs n (by omega)]; exact List.getElem_mem _
theorem l1In_f (a b c : Int) : spec_l1In.f a b c = some (decide (b ≤ a ∧ a ≤ c)) := by
  unfold spec_l1In.f
  by_cases h : a ≥ b
  · rw [if_pos h]; simp; omega
  · rw [if_neg h]; simp; omega
/-! Binary digits. -/
def bit (m : Int) (d : Nat) : Int := m / 2 ^ d % 2
theorem bit_01 (m : Int) (d : Nat) : bit m d = 0 ∨ bit m d = 1 := by unfold bit; omega
theorem shr_bit {m : Int} (h0 : 0 ≤ m) (d : Nat) (hd : d ≤ 64) : Int.tmod (shr .i64 m (d : Int)) 2 = bit m d := by
  have e : shr .i64 m (d : Int) = m / 2 ^ d := by
    unfold shr
    rw [show min (d : Int).toNat IntKind.i64.bits = d from by simp [IntKind.bits]; omega]
  rw [e, Int.tmod_eq_emod_of_nonneg (Int.ediv_nonneg h0 (Int.pow_nonneg (by decide)))]
  rfl
theorem shr_nat (m : Int) (d : Nat) (hd : d ≤ 64) : shr .i64 m (d : Int) = m / 2 ^ d := by
  unfold shr
  rw [show min (d : Int).toNat IntKind.i64.bits = d from by simp [IntKind.bits]; omega]
theorem and1_bit {x : Int} (h0 : 0 ≤ x) (h1 : x < 4611686018427387904) : Go.bits .and .i64 x 1 = x % 2 := by
  have := bits_mask .i64 62 (by decide) (fun n h h' => by rw [IntKind.wrap_i64]; omega) 1 (by decide) x h0 h1
  simpa using this
theorem bit_nat (a d : Nat) : bit (a : Int) d = if a.testBit d then 1 else 0 := by
  unfold bit
  rw [Nat.testBit_eq_decide_div_mod_eq]
  have e : ((a : Int) / 2 ^ d % 2) = ((a / 2 ^ d % 2 : Nat) : Int) := by push_cast; rfl
  rw [e]
  by_cases h : a / 2 ^ d % 2 = 1
  · simp [h]
  · have : a / 2 ^ d % 2 = 0 := by omega
    simp [this]
/-- The clue of a line, r cells being filled ahead of it. -/
def clueR : Int → List Bool → List Int
  | r, [] => if 0 < r then [r] else []
  | r, true :: l => clueR (r + 1) l
  | r, false :: l => if 0 < r then r :: clueR 0 l else clueR 0 l
/-- What ClueOf answers. -/
def clueL (l : List Bool) : List Int := if l.length ≤ 8 then clueR 0 l else []
theorem rdOf_nat (xs : List Bool) (i : Nat) (h : i < xs.length) : rdOf false xs (i : Int) = xs[i] := by
  simp [rdOf, List.getD_eq_getElem?_getD, h]
theorem clueR_f : ∀ (l : List Bool) (r : Int), clueR r (l ++ [false]) = clueR r l := by
  intro l
  induction l with
  | nil => intro r; simp [clueR]
  | cons b l ih =>
    intro r
    cases b
    · simp only [List.cons_append, clueR, ih]
    · simp only [List.cons_append, clueR, ih]
theorem clueR_ft : ∀ (l : List Bool) (r : Int), clueR r (l ++ [false] ++ [true]) = clueR r l ++ [1] := by
  intro l
  induction l with
  | nil =>
    intro r
    by_cases h : 0 < r <;> simp [clueR, h]
  | cons b l ih =>
    intro r
    cases b
    · simp only [List.cons_append, clueR]
      rw [ih]
      by_cases h : 0 < r <;> simp [h]
    · simp only [List.cons_append, clueR]
      exact ih _
theorem clueR_tt : ∀ (l : List Bool) (r : Int), 0 ≤ r → ∃ ys z, clueR r (l ++ [true]) = ys ++ [z] ∧ clueR r (l ++ [true] ++ [true]) = ys ++ [z + 1] := by
  intro l
  induction l with
  | nil =>
    intro r hr
    refine ⟨[], r + 1, ?_, ?_⟩
    · simp [clueR]; omega
    · simp [clueR]; omega
  | cons b l ih =>
    intro r hr
    cases b
    · obtain ⟨ys, z, h1, h2⟩ := ih 0 (by omega)
      by_cases h : 0 < r
      · refine ⟨r :: ys, z, ?_, ?_⟩
        · simp only [List.cons_append, clueR, h, if_true, h1]
        · simp only [List.cons_append, clueR, h, if_true]
          rw [h2]
      · refine ⟨ys, z, ?_, ?_⟩
        · simp only [List.cons_append, clueR, h, if_false, h1]
        · simp only [List.cons_append, clueR, h, if_false]
          rw [h2]
    · obtain ⟨ys, z, h1, h2⟩ := ih (r + 1) (by omega)
      exact ⟨ys, z, by simpa only [List.cons_append, clueR] using h1, by simpa only [List.cons_append, clueR] using h2⟩
theorem clueR_le : ∀ (l : List Bool) (r : Int), 0 ≤ r → ∀ x ∈ clueR r l, 1 ≤ x ∧ x ≤ r + l.length := by
  intro l
  induction l with
  | nil =>
    intro r hr x hx
    simp only [clueR] at hx
    split at hx
    · simp at hx; simp; omega
    · simp at hx
  | cons b l ih =>
    intro r hr x hx
    cases b
    · simp only [clueR] at hx
      split at hx
      · rcases List.mem_cons.1 hx with hx | hx
        · simp; omega
        · have := ih 0 (by omega) x hx; simp; omega
      · have := ih 0 (by omega) x hx; simp; omega
    · simp only [clueR] at hx
      have := ih (r + 1) (by omega) x hx; simp; omega
theorem clueR_len : ∀ (l : List Bool) (r : Int), (clueR r l).length ≤ l.length + 1 := by
  intro l
  induction l with
  | nil => intro r; simp only [clueR]; split <;> simp
  | cons b l ih =>
    intro r
    cases b
    · simp only [clueR]
      have := ih 0
      split <;> (simp; omega)
    · simp only [clueR]
      have := ih (r + 1)
      simp; omega
theorem clueL_len (l : List Bool) : (clueL l).length ≤ 9 := by
  unfold clueL
  split
  · have := clueR_len l 0; omega
  · simp
/-! The lines of a number of cells, by their numbers. -/
def lineN (m n : Nat) : List Bool := (List.range n).map (fun i => m.testBit i)
theorem lineN_length (m n : Nat) : (lineN m n).length = n := by simp [lineN]
theorem lineN_get (m n i : Nat) (h : i < (lineN m n).length) : (lineN m n)[i] = m.testBit i := by simp [lineN]
def bitI (m i : Nat) : Int := if m.testBit i then 1 else 0
/-- Does the line agree with what is known from cell i on? -/
def fitD (m : Nat) : Nat → List Int → Bool
  | _, [] => true
  | i, k :: ks => (decide (k < 0) || k == bitI m i) && fitD m (i + 1) ks
def isLine (clue kn : List Int) (m : Nat) : Bool := fitD m 0 kn && decide (clueL (lineN m kn.length) = clue)
def LFr (clue kn : List Int) (a d : Nat) : List Nat := (List.range' a d).filter (isLine clue kn)
def LF (clue kn : List Int) : List Nat := LFr clue kn 0 (2 ^ kn.length)
theorem LFr_cons (clue kn : List Int) (a d : Nat) : LFr clue kn a (d + 1) = if isLine clue kn a then a :: LFr clue kn (a + 1) d else LFr clue kn (a + 1) d := by
  unfold LFr
  rw [List.range'_succ, List.filter_cons]
theorem LFr_len (clue kn : List Int) (a d : Nat) : (LFr clue kn a d).length ≤ d := by
  have := List.length_filter_le (isLine clue kn) (List.range' a d)
  simpa [LFr] using this
theorem pow_le (n : Nat) (h : n ≤ 8) : 1 ≤ 2 ^ n ∧ 2 ^ n ≤ 256 := by
  have : n = 0 ∨ n = 1 ∨ n = 2 ∨ n = 3 ∨ n = 4 ∨ n = 5 ∨ n = 6 ∨ n = 7 ∨ n = 8 := by omega
  rcases this with rfl | rfl | rfl | rfl | rfl | rfl | rfl | rfl | rfl <;> decide
theorem shl_n (n : Nat) (h : n ≤ 8) : shl .i64 1 (n : Int) = ((2 ^ n : Nat) : Int) := by
  have : n = 0 ∨ n = 1 ∨ n = 2 ∨ n = 3 ∨ n = 4 ∨ n = 5 ∨ n = 6 ∨ n = 7 ∨ n = 8 := by omega
  rcases this with rfl | rfl | rfl | rfl | rfl | rfl | rfl | rfl | rfl <;> decide +kernel
theorem bit_eqI (m i : Nat) (hm : m < 4611686018427387904) (hi : i ≤ 64) : Go.bits .and .i64 (shr .i64 (m : Int) (i : Int)) 1 = bitI m i := by
  rw [shr_nat _ _ hi, and1_bit (Int.ediv_nonneg (by omega) (Int.pow_nonneg (by decide))) (by
    have : (m : Int) / 2 ^ i ≤ m := Int.ediv_le_self _ (by omega)
    omega)]
  exact bit_nat m i
theorem bitI_beq (m i : Nat) : (bitI m i == 1) = m.testBit i := by
  unfold bitI; cases m.testBit i <;> rfl
theorem impl_clueof_l (l : List Bool) (h8 : l.length ≤ 8) : ∀ (d i : Nat), l.length = i + d →
    Ev (fun k => impl_ClueOf.l0 k l (clueR 0 (l.take i)) l l.length i) (clueR 0 l) := by
  intro d
  induction d with
  | zero =>
    intro i hi
    refine Ev.step (fun k => by rw [impl_ClueOf.l0]) (Ev.ifn (by omega) (Ev.eq (Ev.now _) ?_))
    rw [List.take_of_length_le (by omega)]
  | succ d ih =>
    intro i hi
    have hlt : i < l.length := by omega
    have hw : wrap64 ((i : Int) + 1) = ((i + 1 : Nat) : Int) := by rw [w64 (by omega) (by omega)]; omega
    have hlen := clueR_len (l.take i) 0
    rw [List.length_take] at hlen
    have h1 := ih (i + 1) (by omega)
    have ht : l.take (i + 1) = l.take i ++ [l[i]] := by rw [List.take_succ_eq_append_getElem hlt]
    refine Ev.step (fun k => by rw [impl_ClueOf.l0]) (Ev.ifp (by omega) (Ev.ifp (by omega) (Ev.ifp (by omega) ?_)))
    rw [hw, rdOf_nat l i hlt]
    cases hb : l[i]
    · refine Ev.ifn (by decide) ?_
      rw [ht, hb, clueR_f] at h1
      exact h1
    · refine Ev.ifp rfl ?_
      by_cases c : (i : Int) > 0
      · have hlt1 : i - 1 < l.length := by omega
        have hw1 : wrap64 ((i : Int) - 1) = ((i - 1 : Nat) : Int) := by rw [w64 (by omega) (by omega)]; omega
        have ht1 : l.take i = l.take (i - 1) ++ [l[i - 1]] := by
          have := List.take_succ_eq_append_getElem hlt1
          rw [show i - 1 + 1 = i by omega] at this
          exact this
        rw [hw1, rdOf_nat l (i - 1) hlt1]
        refine Ev.ifp c (Ev.ifp (by omega) (Ev.ifp (by omega) ?_))
        cases hb1 : l[i - 1]
        · refine Ev.ifn (by decide) (Ev.ifp (by omega) ?_)
          rw [ht, hb, ht1, hb1, clueR_ft] at h1
          rw [ht1, hb1, clueR_f]
          exact h1
        · obtain ⟨ys, z, g1, g2⟩ := clueR_tt (l.take (i - 1)) 0 (by omega)
          have e1 : clueR 0 (l.take i) = ys ++ [z] := by rw [ht1, hb1]; exact g1
          have e2 : clueR 0 (l.take (i + 1)) = ys ++ [z + 1] := by rw [ht, hb, ht1, hb1]; exact g2
          have hz := clueR_le (l.take i) 0 (by omega) z (by rw [e1]; simp)
          rw [List.length_take] at hz
          rw [e1] at hlen ⊢
          rw [e2] at h1
          have hyl : (ys ++ [z]).length = ys.length + 1 := by simp
          have hw2 : wrap64 (((ys ++ [z]).length : Int) - 1) = ((ys.length : Nat) : Int) := by rw [w64 (by omega) (by omega)]; omega
          have hr : rd (ys ++ [z]) ((ys.length : Nat) : Int) = z := by rw [rd_nat _ _ (by omega)]; simp
          rw [hw2, hr, w64 (x := z + 1) (by omega) (by omega)]
          refine Ev.ifp rfl (Ev.ifp (by omega) (Ev.ifp (by omega) ?_))
          have hs : (ys ++ [z]).set ((ys.length : Nat) : Int).toNat (z + 1) = ys ++ [z + 1] := by
            rw [Int.toNat_natCast, List.set_append_right _ _ (Nat.le_refl _)]; simp
          rw [hs]; exact h1
      · have hi0 : i = 0 := by omega
        subst hi0
        refine Ev.ifn c (Ev.ifp (by omega) ?_)
        rw [ht, hb] at h1
        simpa [clueR] using h1
theorem impl_clueof (l : List Bool) (hl : l.length ≤ 140737488351232) : Ev (fun k => impl_ClueOf.f k l) (clueL l) := by
  unfold impl_ClueOf.f clueL
  by_cases h8 : l.length ≤ 8
  · refine Ev.ifn (by omega) (Ev.eq (?_ : Ev _ (clueR 0 l)) (by rw [if_pos h8]))
    have := impl_clueof_l l h8 l.length 0 (by omega)
    simpa [clueR] using this
  · exact Ev.ifp (by omega) (Ev.eq (Ev.now _) (by rw [if_neg h8]))
theorem impl_lineOf_l (m n : Nat) (hm : m < 4611686018427387904) (hn : n ≤ 60) : ∀ (d i : Nat) (ys : List Bool), ys.length = n → n = i + d →
    Ev (fun k => impl_lineOf.l0 k m ys n i) (ys.take i ++ (lineN m n).drop i) := by
  intro d
  induction d with
  | zero =>
    intro i ys hy hi
    refine Ev.step (fun k => by rw [impl_lineOf.l0]) (Ev.ifn (by omega) (Ev.eq (Ev.now _) ?_))
    rw [List.take_of_length_le (by omega), List.drop_eq_nil_of_le (by rw [lineN_length]; omega)]; simp
  | succ d ih =>
    intro i ys hy hi
    have hw : wrap64 ((i : Int) + 1) = ((i + 1 : Nat) : Int) := by rw [w64 (by omega) (by omega)]; omega
    refine Ev.step (fun k => by rw [impl_lineOf.l0]) (Ev.ifp (by omega) (Ev.ifp (by omega) (Ev.ifp (by omega) ?_)))
    rw [hw, bit_eqI m i hm (by omega), bitI_beq, Int.toNat_natCast]
    refine Ev.eq (ih (i + 1) (ys.set i (m.testBit i)) (by simp [hy]) (by omega)) ?_
    rw [List.take_add_one, List.take_set_of_le (Nat.le_refl i), List.drop_eq_getElem_cons (l := lineN m n) (i := i) (by rw [lineN_length]; omega), lineN_get]
    simp [show i < ys.length by omega]
theorem impl_lineOf_ev (m n : Nat) (hm : m < 4611686018427387904) (hn : n ≤ 60) : Ev (fun k => impl_lineOf.f k m n) (lineN m n) := by
  unfold impl_lineOf.f
  refine Ev.ifp (by omega) (Ev.ifp (by omega) (Ev.bindc rfl ?_))
  have := impl_lineOf_l m n hm hn n 0 (List.replicate n false) (by simp) (by omega)
  simpa using this
theorem equal_l (a b : List Int) (h : a.length = b.length) (hl : a.length ≤ 140737488351232) : ∀ (d i : Nat), a.length = i + d → Ev (fun k => slices_Equal_int_int.l0 k a b a.length i) (decide (a.drop i = b.drop i)) := by
  intro d
  induction d with
  | zero =>
    intro i hi
    refine Ev.step (fun k => by rw [slices_Equal_int_int.l0]) (Ev.ifn (by omega) (Ev.eq (Ev.now _) ?_))
    rw [List.drop_eq_nil_of_le (by omega), List.drop_eq_nil_of_le (by omega)]; simp
  | succ d ih =>
    intro i hi
    have ha : i < a.length := by omega
    have hb : i < b.length := by omega
    have hw : wrap64 ((i : Int) + 1) = ((i + 1 : Nat) : Int) := by rw [w64 (by omega) (by omega)]; omega
    refine Ev.step (fun k => by rw [slices_Equal_int_int.l0]) (Ev.ifp (by omega) (Ev.ifp (by omega) (Ev.ifp (by omega) (Ev.ifp (by omega) ?_))))
    rw [rd_nat a i ha, rd_nat b i hb, hw, List.drop_eq_getElem_cons ha, List.drop_eq_getElem_cons hb]
    by_cases c : a[i] = b[i]
    · exact Ev.ifp c (Ev.eq (ih (i + 1) (by omega)) (by rw [c]; simp only [List.cons.injEq, true_and]))
    · exact Ev.ifn c (Ev.eq (Ev.now _) (by simp only [List.cons.injEq, c, false_and, decide_false]))
theorem equal_ev (a b : List Int) (hl : a.length ≤ 140737488351232) : Ev (fun k => slices_Equal_int_int.f k a b) (decide (a = b)) := by
  unfold slices_Equal_int_int.f
  by_cases h : a.length = b.length
  · exact Ev.ifp (by omega) (Ev.eq (equal_l a b h hl a.length 0 (by omega)) (by simp))
  · refine Ev.ifn (by omega) (Ev.eq (Ev.now false) ?_)
    symm; simp; intro e; exact h (by rw [e])
theorem impl_fits (clue kn acc : List Int) (m N : Nat) (hm : m < 4611686018427387904) (hk : kn.length ≤ 60) (r : List Int) : ∀ (d i : Nat) (fl : Bool), kn.length = i + d →
    Ev (fun k => impl_linesFor.l1 k clue kn acc m (fl && fitD m i (kn.drop i)) N m kn kn.length kn.length) r →
    Ev (fun k => impl_linesFor.l1 k clue kn acc m fl N m kn kn.length i) r := by
  intro d
  induction d with
  | zero =>
    intro i fl hi H
    rw [List.drop_eq_nil_of_le (by omega)] at H
    have : kn.length = i := by omega
    rw [this] at H ⊢
    simpa [fitD] using H
  | succ d ih =>
    intro i fl hi H
    have hlt : i < kn.length := by omega
    have hw : wrap64 ((i : Int) + 1) = ((i + 1 : Nat) : Int) := by rw [w64 (by omega) (by omega)]; omega
    rw [List.drop_eq_getElem_cons hlt] at H
    refine Ev.step (fun k => by rw [impl_linesFor.l1]) (Ev.ifp (by omega) (Ev.ifp (by omega) (Ev.ifp (by omega) ?_)))
    rw [rd_nat kn i hlt, hw, bit_eqI m i hm (by omega)]
    cases fl
    · refine Ev.ifn (by decide) (ih (i + 1) false (by omega) ?_)
      simpa using H
    · refine Ev.ifp rfl ?_
      by_cases c : kn[i] < 0
      · refine Ev.ifp c (ih (i + 1) true (by omega) ?_)
        simpa [fitD, c] using H
      · refine Ev.ifn c (ih (i + 1) _ (by omega) ?_)
        simpa [fitD, c] using H
theorem impl_linesFor_l (clue kn : List Int) (hk : kn.length ≤ 8) : ∀ (d m : Nat) (acc : List Int), m + d = 2 ^ kn.length → acc.length + d ≤ 600 →
    Ev (fun k => impl_linesFor.l0 k clue kn acc ((2 ^ kn.length : Nat) : Int) m) (acc ++ (LFr clue kn m d).map (fun x : Nat => (x : Int))) := by
  have hp := pow_le _ hk
  intro d
  induction d with
  | zero =>
    intro m acc hm ha
    exact Ev.step (fun k => by rw [impl_linesFor.l0]) (Ev.ifn (by omega) (Ev.eq (Ev.now _) (by simp [LFr])))
  | succ d ih =>
    intro m acc hm ha
    have hw : wrap64 ((m : Int) + 1) = ((m + 1 : Nat) : Int) := by rw [w64 (by omega) (by omega)]; omega
    refine Ev.step (fun k => by rw [impl_linesFor.l0]) (Ev.ifp (by omega) ?_)
    refine impl_fits clue kn acc m (2 ^ kn.length) (by omega) (by omega) _ kn.length 0 true (by omega) ?_
    refine Ev.step (fun k => by rw [impl_linesFor.l1]) (Ev.ifn (by omega) ?_)
    rw [hw, LFr_cons, List.drop_zero, Bool.true_and]
    unfold isLine
    by_cases c : fitD m 0 kn = true
    · rw [c, Bool.true_and]
      refine Ev.ifp rfl (Ev.bind (impl_lineOf_ev m kn.length (by omega) (by omega)) (Ev.bind (impl_clueof _ (by rw [lineN_length]; omega)) (Ev.bind (equal_ev _ _ (by have := clueL_len (lineN m kn.length); omega)) ?_)))
      by_cases c2 : clueL (lineN m kn.length) = clue
      · refine Ev.ifp (by simpa using c2) (Ev.ifp (by omega) (Ev.eq (ih (m + 1) (acc ++ [(m : Int)]) (by omega) (by simp; omega)) ?_))
        simp [c2]
      · refine Ev.ifn (by simpa using c2) (Ev.eq (ih (m + 1) acc (by omega) (by omega)) ?_)
        simp [c2]
    · refine Ev.ifn c (Ev.eq (ih (m + 1) acc (by omega) (by omega)) ?_)
      simp [c]
theorem impl_linesFor_ev (clue kn : List Int) (hk : kn.length ≤ 8) : Ev (fun k => impl_linesFor.f k clue kn) ((LF clue kn).map (fun x : Nat => (x : Int))) := by
  have hp := pow_le _ hk
  unfold impl_linesFor.f
  rw [shl_n _ hk]
  have := impl_linesFor_l clue kn hk (2 ^ kn.length) 0 [] (by omega) (by simp; omega)
  simpa [LF] using this
theorem spec_clueof_end (l : List Bool) (out : List Int) (run : Int) (h8 : l.length ≤ 8) : Ev (fun k => spec_ClueOf.l0 k l out run ((l.length + 1 : Nat) : Int)) out := by
  refine Ev.step (fun k => by rw [spec_ClueOf.l0]) (Ev.ifn (by omega) ?_)
  exact Ev.step (fun k => by rw [spec_ClueOf.j1]) (Ev.ifn (by decide) (Ev.now _))
theorem spec_clueof_l (l : List Bool) (h8 : l.length ≤ 8) : ∀ (d i : Nat) (run : Int) (out : List Int), l.length = i + d → 0 ≤ run → run ≤ i → out.length ≤ i →
    Ev (fun k => spec_ClueOf.l0 k l out run i) (out ++ clueR run (l.drop i)) := by
  intro d
  induction d with
  | zero =>
    intro i run out hi h0 h1 h2
    have hw : wrap64 ((i : Int) + 1) = ((l.length + 1 : Nat) : Int) := by rw [w64 (by omega) (by omega)]; omega
    refine Ev.step (fun k => by rw [spec_ClueOf.l0]) (Ev.ifp (by omega) ?_)
    refine Ev.step (fun k => by rw [spec_ClueOf.j1]) (Ev.ifp (by simp; omega) (Ev.ifn (by omega) ?_))
    refine Ev.step (fun k => by rw [spec_ClueOf.j2]) (Ev.ifn (by decide) ?_)
    rw [hw, List.drop_eq_nil_of_le (by omega)]
    by_cases c : run > 0
    · refine Ev.ifp c (Ev.ifp (by omega) (Ev.eq (spec_clueof_end l _ _ h8) ?_))
      simp [clueR, show 0 < run from c]
    · refine Ev.ifn c (Ev.eq (spec_clueof_end l _ _ h8) ?_)
      have : ¬ 0 < run := c
      simp [clueR, this]
  | succ d ih =>
    intro i run out hi h0 h1 h2
    have hlt : i < l.length := by omega
    have hw : wrap64 ((i : Int) + 1) = ((i + 1 : Nat) : Int) := by rw [w64 (by omega) (by omega)]; omega
    refine Ev.step (fun k => by rw [spec_ClueOf.l0]) (Ev.ifp (by omega) ?_)
    refine Ev.step (fun k => by rw [spec_ClueOf.j1]) (Ev.ifp (by simp; omega) (Ev.ifp (by omega) (Ev.ifp (by omega) ?_)))
    refine Ev.step (fun k => by rw [spec_ClueOf.j2]) ?_
    rw [hw, rdOf_nat l i hlt, List.drop_eq_getElem_cons hlt]
    cases hb : l[i]
    · refine Ev.ifn (by decide) ?_
      by_cases c : run > 0
      · refine Ev.ifp c (Ev.ifp (by omega) (Ev.eq (ih (i + 1) 0 (out ++ [run]) (by omega) (by omega) (by omega) (by simp; omega)) ?_))
        simp [clueR, show 0 < run from c]
      · have hr : run = 0 := by omega
        refine Ev.ifn c (Ev.eq (ih (i + 1) run out (by omega) (by omega) (by omega) (by omega)) ?_)
        simp [clueR, hr]
    · refine Ev.ifp rfl ?_
      rw [w64 (x := run + 1) (by omega) (by omega)]
      refine Ev.eq (ih (i + 1) (run + 1) out (by omega) (by omega) (by omega) (by omega)) ?_
      simp [clueR]
theorem spec_clueof (l : List Bool) (hl : l.length ≤ 140737488351232) : Ev (fun k => spec_ClueOf.f k l) (clueL l) := by
  unfold spec_ClueOf.f clueL
  by_cases h8 : l.length ≤ 8
  · exact Ev.eq (spec_clueof_l l h8 l.length 0 0 [] (by omega) (by omega) (by omega) (by simp)) (by rw [if_pos h8]; simp)
  · refine Ev.step (fun k => by rw [spec_ClueOf.l0]) (Ev.ifp (by omega) ?_)
    exact Ev.step (fun k => by rw [spec_ClueOf.j1]) (Ev.ifn (by simp; omega) (Ev.eq (Ev.now _) (by rw [if_neg h8])))
/-- What KnownValid answers. -/
def knownV (l : List Int) : Bool := l.all (fun x => decide (-1 ≤ x ∧ x ≤ 1)) && decide (1 ≤ (l.length : Int) ∧ (l.length : Int) ≤ 8)
theorem impl_known_l (l : List Int) (hl : l.length ≤ 140737488351232) : ∀ (d i : Nat), l.length = i + d →
    Ev (fun k => impl_KnownValid.l0 k l l l.length i) ((l.drop i).all (fun x => decide (-1 ≤ x ∧ x ≤ 1)) && decide (1 ≤ (l.length : Int) ∧ (l.length : Int) ≤ 8)) := by
  intro d
  induction d with
  | zero =>
    intro i hi
    refine Ev.step (fun k => by rw [impl_KnownValid.l0]) (Ev.ifn (by omega) ?_)
    rw [List.drop_eq_nil_of_le (by omega)]
    by_cases c : (l.length : Int) ≥ 1
    · exact Ev.ifp c (Ev.eq (Ev.now _) (by simp; omega))
    · exact Ev.ifn c (Ev.eq (Ev.now _) (by simp; omega))
  | succ d ih =>
    intro i hi
    have hlt : i < l.length := by omega
    have hw : wrap64 ((i : Int) + 1) = ((i + 1 : Nat) : Int) := by rw [w64 (by omega) (by omega)]; omega
    refine Ev.step (fun k => by rw [impl_KnownValid.l0]) ?_
    rw [rd_nat l i hlt, hw, List.drop_eq_getElem_cons hlt, List.all_cons]
    refine Ev.ifp (by omega) (Ev.ifp (by omega) (Ev.ifp (by omega) ?_))
    by_cases c1 : l[i] < -1
    · exact Ev.ifp c1 (Ev.eq (Ev.now _) (by simp; omega))
    refine Ev.ifn c1 ?_
    by_cases c2 : l[i] > 1
    · exact Ev.ifp c2 (Ev.eq (Ev.now _) (by simp; omega))
    · have h : -1 ≤ l[i] ∧ l[i] ≤ 1 := by omega
      exact Ev.ifn c2 (Ev.eq (ih (i + 1) (by omega)) (by simp [h]))
theorem impl_known (l : List Int) (hl : l.length ≤ 140737488351232) : Ev (fun k => impl_KnownValid.f k l) (knownV l) := by
  unfold impl_KnownValid.f
  exact impl_known_l l hl l.length 0 (by omega)
/-- The cells that a clue takes, with one behind each number. -/
def csum : List Int → Int
  | [] => 0
  | n :: l => n + 1 + csum l
/-- What ClueValid answers. -/
def clueV (c : List Int) (n : Int) : Bool := decide (1 ≤ n ∧ n ≤ 8) && (c.all (fun x => decide (1 ≤ x)) && decide (csum c ≤ n + 1))
theorem csum_nn : ∀ c : List Int, c.all (fun x => decide (1 ≤ x)) = true → 2 * (c.length : Int) ≤ csum c := by
  intro c
  induction c with
  | nil => intro _; simp [csum]
  | cons x c ih =>
    intro h
    simp only [List.all_cons, Bool.and_eq_true, decide_eq_true_eq] at h
    have := ih h.2
    simp only [csum, List.length_cons]
    omega
theorem csum_le : ∀ c : List Int, c.all (fun x => decide (1 ≤ x)) = true → ∀ x ∈ c, x < csum c := by
  intro c
  induction c with
  | nil => intro _ x hx; simp at hx
  | cons y c ih =>
    intro h x hx
    simp only [List.all_cons, Bool.and_eq_true, decide_eq_true_eq] at h
    have hn := csum_nn c h.2
    simp only [csum]
    rcases List.mem_cons.1 hx with hx | hx
    · omega
    · have := ih h.2 x hx
      omega
theorem impl_clue_l (l : List Int) (hl : l.length ≤ 140737488351232) : ∀ (d i : Nat) (t : Int), l.length = i + d → 0 ≤ t → t ≤ 100 →
    Ev (fun k => impl_ClueValid.l0 k t l l.length i) ((l.drop i).all (fun x => decide (1 ≤ x)) && decide (csum (l.drop i) ≤ t)) := by
  intro d
  induction d with
  | zero =>
    intro i t hi h0 h1
    refine Ev.step (fun k => by rw [impl_ClueValid.l0]) (Ev.ifn (by omega) (Ev.eq (Ev.now _) ?_))
    rw [List.drop_eq_nil_of_le (by omega)]; simp [csum, h0]
  | succ d ih =>
    intro i t hi h0 h1
    have hlt : i < l.length := by omega
    have hw : wrap64 ((i : Int) + 1) = ((i + 1 : Nat) : Int) := by rw [w64 (by omega) (by omega)]; omega
    refine Ev.step (fun k => by rw [impl_ClueValid.l0]) ?_
    rw [rd_nat l i hlt, hw, List.drop_eq_getElem_cons hlt, List.all_cons]
    rw [show csum (l[i] :: l.drop (i + 1)) = l[i] + 1 + csum (l.drop (i + 1)) from rfl]
    refine Ev.ifp (by omega) (Ev.ifp (by omega) (Ev.ifp (by omega) ?_))
    by_cases c1 : l[i] < 1
    · have h : ¬ 1 ≤ l[i] := by omega
      exact Ev.ifp c1 (Ev.eq (Ev.now _) (by simp [h]))
    refine Ev.ifn c1 ?_
    have g : 1 ≤ l[i] := by omega
    by_cases c2 : l[i] ≥ t
    · refine Ev.ifp c2 (Ev.eq (Ev.now _) ?_)
      symm
      rw [Bool.and_eq_false_iff]
      cases ha : (l.drop (i + 1)).all (fun x => decide (1 ≤ x))
      · left; simp
      · right
        have := csum_nn _ ha
        simp; omega
    · refine Ev.ifn c2 ?_
      rw [w64 (x := l[i] + 1) (by omega) (by omega), w64 (by omega) (by omega)]
      refine Ev.eq (ih (i + 1) (t - (l[i] + 1)) (by omega) (by omega) (by omega)) ?_
      simp only [g, decide_true, Bool.true_and]
      congr 1
      rw [decide_eq_decide]; omega
theorem impl_clue (l : List Int) (n : Int) (hl : l.length ≤ 140737488351232) : Ev (fun k => impl_ClueValid.f k l n) (clueV l n) := by
  have no : ∀ b : Bool, b = true → ¬ (1 ≤ n ∧ n ≤ 8) → Ev (fun k => impl_ClueValid.j0 k l n b) (clueV l n) := by
    intro b hb h
    refine Ev.step (fun k => by rw [impl_ClueValid.j0]) (Ev.ifp hb (Ev.eq (Ev.now _) ?_))
    unfold clueV
    rw [decide_eq_false h]; simp
  unfold impl_ClueValid.f
  by_cases c1 : n < 1
  · exact Ev.ifp c1 (no _ rfl (by omega))
  refine Ev.ifn c1 ?_
  by_cases c2 : n > 8
  · exact no _ (by simpa using c2) (by omega)
  refine Ev.step (fun k => by rw [impl_ClueValid.j0]) (Ev.ifn (by simpa using c2) ?_)
  rw [w64 (by omega) (by omega)]
  refine Ev.eq (impl_clue_l l hl l.length 0 (n + 1) (by omega) (by omega) (by omega)) ?_
  unfold clueV
  rw [decide_eq_true (show 1 ≤ n ∧ n ≤ 8 by omega)]; simp
def isum : List Int → Int
  | [] => 0
  | n :: l => n + isum l
theorem csum_isum : ∀ c : List Int, csum c = isum c + c.length := by
  intro c
  induction c with
  | nil => rfl
  | cons x c ih => simp only [csum, isum, List.length_cons]; omega
theorem spec_clue_l (l : List Int) (n : Int) (hl : l.length ≤ 1000000000) : ∀ (d i : Nat) (t : Int), l.length = i + d → -1 ≤ t → t ≤ 1000000000 + 8 * i →
    Ev (fun k => spec_ClueValid.l0 k l n t i) ((l.drop i).all (fun x => decide (1 ≤ x ∧ x ≤ 8)) && (decide (1 ≤ n ∧ n ≤ 8) && decide (t + isum (l.drop i) ≤ n))) := by
  intro d
  induction d with
  | zero =>
    intro i t hi h0 h1
    refine Ev.step (fun k => by rw [spec_ClueValid.l0]) (Ev.ifn (by omega) (Ev.bindc (l1In_f _ _ _) ?_))
    rw [List.drop_eq_nil_of_le (by omega)]
    rw [show isum [] = 0 from rfl, Int.add_zero]
    simp only [List.all_nil, Bool.true_and]
    by_cases c : 1 ≤ n ∧ n ≤ 8
    · exact Ev.ifp (by simpa using c) (Ev.eq (Ev.now _) (by simp [c]))
    · refine Ev.ifn (by simpa using c) (Ev.eq (Ev.now _) ?_)
      rw [decide_eq_false c]; simp
  | succ d ih =>
    intro i t hi h0 h1
    have hlt : i < l.length := by omega
    have hw : wrap64 ((i : Int) + 1) = ((i + 1 : Nat) : Int) := by rw [w64 (by omega) (by omega)]; omega
    refine Ev.step (fun k => by rw [spec_ClueValid.l0]) ?_
    rw [rd_nat l i hlt, hw, List.drop_eq_getElem_cons hlt, List.all_cons]
    rw [show isum (l[i] :: l.drop (i + 1)) = l[i] + isum (l.drop (i + 1)) from rfl]
    refine Ev.ifp (by omega) (Ev.ifp (by omega) (Ev.bindc (l1In_f _ _ _) ?_))
    by_cases c1 : 1 ≤ l[i] ∧ l[i] ≤ 8
    · refine Ev.ifp (by simpa using c1) ?_
      rw [w64 (by omega) (by omega)]
      refine Ev.eq (ih (i + 1) (t + l[i]) (by omega) (by omega) (by omega)) ?_
      simp only [c1, and_self, decide_true, Bool.true_and]
      congr 2
      rw [decide_eq_decide]; omega
    · refine Ev.ifn (by simpa using c1) (Ev.eq (Ev.now _) ?_)
      rw [decide_eq_false c1]; simp
theorem spec_clue (l : List Int) (n : Int) (hl : l.length ≤ 1000000000) : Ev (fun k => spec_ClueValid.f k l n) (clueV l n) := by
  unfold spec_ClueValid.f
  rw [w64 (by omega) (by omega)]
  refine Ev.eq (spec_clue_l l n hl l.length 0 ((l.length : Int) - 1) (by omega) (by omega) (by omega)) ?_
  unfold clueV
  rw [List.drop_zero]
  by_cases c : 1 ≤ n ∧ n ≤ 8
  · simp only [c, and_self, decide_true, Bool.true_and]
    have e := csum_isum l
    rw [Bool.eq_iff_iff]
    simp only [Bool.and_eq_true, decide_eq_true_eq]
    constructor
    · rintro ⟨h1, h2⟩
      refine ⟨?_, by omega⟩
      rw [List.all_eq_true] at h1 ⊢
      intro x hx
      have := h1 x hx
      simp only [decide_eq_true_eq] at this ⊢
      exact this.1
    · rintro ⟨h1, h2⟩
      refine ⟨?_, by omega⟩
      have h3 := csum_le l h1
      rw [List.all_eq_true] at h1 ⊢
      intro x hx
      have a := h1 x hx
      have b := h3 x hx
      simp only [decide_eq_true_eq] at a ⊢
      omega
  · rw [decide_eq_false c]; simp
/-- What LineWays answers. -/
def waysV (clue kn : List Int) : Int := if knownV kn = true ∧ clueV clue kn.length = true then ((LF clue kn).length : Int) else -1
theorem knownV_ok {kn : List Int} (h : knownV kn = true) : 1 ≤ kn.length ∧ kn.length ≤ 8 ∧ ∀ x ∈ kn, -1 ≤ x ∧ x ≤ 1 := by
  unfold knownV at h
  simp only [Bool.and_eq_true, decide_eq_true_eq, List.all_eq_true] at h
  exact ⟨by omega, by omega, h.1⟩
theorem impl_ways (clue kn : List Int) (h1 : clue.length ≤ 1000000000) (h2 : kn.length ≤ 1000000000) : Ev (fun k => impl_LineWays.f k clue kn) (waysV clue kn) := by
  unfold impl_LineWays.f waysV
  refine Ev.bind (impl_known kn (by omega)) ?_
  by_cases c1 : knownV kn = true
  · refine Ev.ifp c1 (Ev.bind (impl_clue clue _ (by omega)) ?_)
    by_cases c2 : clueV clue kn.length = true
    · exact Ev.ifp c2 (Ev.bind (impl_linesFor_ev clue kn (knownV_ok c1).2.1) (Ev.eq (Ev.now _) (by rw [if_pos ⟨c1, c2⟩]; simp)))
    · exact Ev.ifn c2 (Ev.eq (Ev.now _) (by rw [if_neg (fun h => c2 h.2)]))
  · exact Ev.ifn c1 (Ev.eq (Ev.now _) (by rw [if_neg (fun h => c1 h.1)]))
theorem fitD_iff (m : Nat) : ∀ (ks : List Int) (a : Nat), fitD m a ks = true ↔ ∀ j (h : j < ks.length), ks[j] < 0 ∨ ks[j] = bitI m (a + j) := by
  intro ks
  induction ks with
  | nil => intro a; simp [fitD]
  | cons k ks ih =>
    intro a
    simp only [fitD, Bool.and_eq_true, Bool.or_eq_true, decide_eq_true_eq, beq_iff_eq]
    rw [ih]
    constructor
    · rintro ⟨h0, h1⟩ j hj
      cases j with
      | zero => simpa using h0
      | succ j =>
        have := h1 j (by simpa using hj)
        simpa [Nat.add_assoc, Nat.add_comm 1 j] using this
    · intro h
      refine ⟨by have h0 := h 0 (by simp); rw [Nat.add_zero] at h0; exact h0, fun j hj => ?_⟩
      have := h (j + 1) (by simpa using hj)
      simpa [Nat.add_assoc, Nat.add_comm 1 j] using this
theorem countP_split {α : Type} (p q r : α → Bool) (h : ∀ x, p x = (q x || r x)) (h2 : ∀ x, (q x && r x) = false) : ∀ l : List α, l.countP p = l.countP q + l.countP r := by
  intro l
  induction l with
  | nil => rfl
  | cons x l ih =>
    rw [List.countP_cons, List.countP_cons, List.countP_cons, ih, h x]
    have := h2 x
    cases hq : q x <;> cases hr : r x <;> simp_all <;> omega
theorem LF_length (clue kn : List Int) : (LF clue kn).length = (List.range' 0 (2 ^ kn.length)).countP (isLine clue kn) := by
  unfold LF LFr
  rw [List.countP_eq_length_filter]
theorem bitI_01 (m j : Nat) : bitI m j = 0 ∨ bitI m j = 1 := by unfold bitI; split <;> simp
theorem isLine_split (clue kn : List Int) (i : Nat) (hi : i < kn.length) (hk : kn[i] = -1) (m : Nat) :
    isLine clue kn m = (isLine clue (kn.set i 0) m || isLine clue (kn.set i 1) m) ∧ (isLine clue (kn.set i 0) m && isLine clue (kn.set i 1) m) = false := by
  have hf : ∀ v : Int, 0 ≤ v → (fitD m 0 (kn.set i v) = true ↔ fitD m 0 kn = true ∧ v = bitI m i) := by
    intro v hv
    rw [fitD_iff, fitD_iff]
    constructor
    · intro h
      refine ⟨fun j hj => ?_, ?_⟩
      · by_cases c : i = j
        · subst c; left; omega
        · have := h j (by simpa using hj)
          rw [List.getElem_set_ne c] at this
          exact this
      · have := h i (by simpa using hi)
        rw [List.getElem_set_self] at this
        rw [Nat.zero_add] at this
        omega
    · rintro ⟨h, hv2⟩ j hj
      by_cases c : i = j
      · subst c; right; rw [List.getElem_set_self, Nat.zero_add]; exact hv2
      · rw [List.getElem_set_ne c]
        exact h j (by simpa using hj)
  have h0 := hf 0 (by omega)
  have h1 := hf 1 (by omega)
  unfold isLine
  rw [List.length_set, List.length_set]
  rcases bitI_01 m i with hb | hb
  · have a0 : fitD m 0 (kn.set i 0) = fitD m 0 kn := by rw [Bool.eq_iff_iff, h0, hb]; simp
    have a1 : fitD m 0 (kn.set i 1) = false := by rw [Bool.eq_false_iff, ne_eq, h1, hb]; simp
    rw [a0, a1]; simp
  · have a0 : fitD m 0 (kn.set i 0) = false := by rw [Bool.eq_false_iff, ne_eq, h0, hb]; simp
    have a1 : fitD m 0 (kn.set i 1) = fitD m 0 kn := by rw [Bool.eq_iff_iff, h1, hb]; simp
    rw [a0, a1]; simp
theorem knownV_set {kn : List Int} (h : knownV kn = true) (i : Nat) (v : Int) (hv : -1 ≤ v ∧ v ≤ 1) : knownV (kn.set i v) = true := by
  have hk := knownV_ok h
  unfold knownV
  simp only [Bool.and_eq_true, decide_eq_true_eq, List.all_eq_true, List.length_set]
  refine ⟨fun x hx => ?_, by omega⟩
  rcases List.mem_or_eq_of_mem_set hx with h' | h'
  · exact hk.2.2 x h'
  · subst h'; exact hv
theorem ways_split (clue kn : List Int) (h : knownV kn = true) (hc : clueV clue kn.length = true) (i : Nat) (hi : i < kn.length) (hk : kn[i] = -1) :
    waysV clue (kn.set i 0) + waysV clue (kn.set i 1) = waysV clue kn := by
  unfold waysV
  rw [List.length_set, List.length_set, if_pos ⟨knownV_set h i 0 (by omega), hc⟩, if_pos ⟨knownV_set h i 1 (by omega), hc⟩, if_pos ⟨h, hc⟩]
  rw [LF_length, LF_length, LF_length, List.length_set, List.length_set]
  rw [countP_split (isLine clue kn) _ _ (fun m => (isLine_split clue kn i hi hk m).1) (fun m => (isLine_split clue kn i hi hk m).2)]
  omega
theorem bits_eq {n a b : Nat} (ha : a < 2 ^ n) (hb : b < 2 ^ n) (h : ∀ j, j < n → a.testBit j = b.testBit j) : a = b := by
  apply Nat.eq_of_testBit_eq
  intro j
  by_cases c : j < n
  · exact h j c
  · have hp : 2 ^ n ≤ 2 ^ j := Nat.pow_le_pow_right (by omega) (by omega)
    rw [Nat.testBit_lt_two_pow (by omega), Nat.testBit_lt_two_pow (by omega)]
theorem LF_mem {clue kn : List Int} {m : Nat} : m ∈ LF clue kn ↔ m < 2 ^ kn.length ∧ isLine clue kn m = true := by
  unfold LF LFr
  rw [List.mem_filter, List.mem_range'_1]
  constructor
  · rintro ⟨⟨_, h⟩, h2⟩; exact ⟨by omega, h2⟩
  · rintro ⟨h, h2⟩; exact ⟨⟨by omega, by omega⟩, h2⟩
theorem bitI_inj {a b j : Nat} (h : bitI a j = bitI b j) : a.testBit j = b.testBit j := by
  unfold bitI at h
  cases ha : a.testBit j <;> cases hb : b.testBit j <;> simp [ha, hb] at h ⊢
theorem LF_one {clue kn : List Int} (hk : ∀ j (h : j < kn.length), 0 ≤ kn[j]) {a b : Nat} (ha : a ∈ LF clue kn) (hb : b ∈ LF clue kn) : a = b := by
  rw [LF_mem] at ha hb
  unfold isLine at ha hb
  simp only [Bool.and_eq_true] at ha hb
  have fa := (fitD_iff a kn 0).1 ha.2.1
  have fb := (fitD_iff b kn 0).1 hb.2.1
  refine bits_eq ha.1 hb.1 (fun j hj => ?_)
  have := fa j hj
  have := fb j hj
  have := hk j hj
  rw [Nat.zero_add] at *
  exact bitI_inj (by omega)
theorem LF_nodup (clue kn : List Int) : (LF clue kn).Nodup := by
  unfold LF LFr
  exact List.Pairwise.filter _ List.nodup_range'
theorem LF_le_one {clue kn : List Int} (hk : ∀ j (h : j < kn.length), 0 ≤ kn[j]) : (LF clue kn).length ≤ 1 := by
  have hn := LF_nodup clue kn
  match hL : LF clue kn with
  | [] => simp
  | [a] => simp
  | a :: b :: l =>
    rw [hL] at hn
    have : a = b := LF_one hk (by rw [hL]; simp) (by rw [hL]; simp)
    simp [this] at hn
/-- A line with a clue. -/
def mkLine : List Int → Nat → List Bool
  | [], n => List.replicate n false
  | c :: cs, n => List.replicate c.toNat true ++ (if c.toNat < n then false :: mkLine cs (n - c.toNat - 1) else [])
theorem clueR_rep : ∀ (c : Nat) (r : Int) (l : List Bool), clueR r (List.replicate c true ++ l) = clueR (r + c) l := by
  intro c
  induction c with
  | zero => intro r l; simp
  | succ c ih =>
    intro r l
    rw [List.replicate_succ, List.cons_append]
    simp only [clueR]
    rw [ih]
    congr 1
    omega
theorem clueR_false : ∀ (n : Nat), clueR 0 (List.replicate n false) = [] := by
  intro n
  induction n with
  | zero => simp [clueR]
  | succ n ih => rw [List.replicate_succ]; simp [clueR, ih]
theorem mkLine_ok : ∀ (cs : List Int) (n : Nat), cs.all (fun x => decide (1 ≤ x)) = true → csum cs ≤ n + 1 → (mkLine cs n).length = n ∧ clueR 0 (mkLine cs n) = cs := by
  intro cs
  induction cs with
  | nil => intro n _ _; exact ⟨by simp [mkLine], clueR_false n⟩
  | cons c cs ih =>
    intro n h1 h2
    simp only [List.all_cons, Bool.and_eq_true, decide_eq_true_eq] at h1
    have hn := csum_nn cs h1.2
    simp only [csum] at h2
    simp only [mkLine]
    by_cases hlt : c.toNat < n
    · rw [if_pos hlt]
      have g := ih (n - c.toNat - 1) h1.2 (by omega)
      refine ⟨by simp [g.1]; omega, ?_⟩
      rw [clueR_rep]
      simp only [clueR]
      rw [if_pos (by omega), g.2]
      congr 1
      omega
    · rw [if_neg hlt]
      have hc : cs = [] := by
        cases cs with
        | nil => rfl
        | cons x xs => simp at hn; omega
      subst hc
      refine ⟨by simp [csum] at h2 ⊢; omega, ?_⟩
      rw [clueR_rep]
      simp only [clueR]
      rw [if_pos (by omega)]
      congr 1
      omega
/-- The number of a line. -/
def toN : List Bool → Nat
  | [] => 0
  | b :: l => 2 * toN l + (if b then 1 else 0)
theorem toN_bit : ∀ (l : List Bool) (i : Nat) (h : i < l.length), (toN l).testBit i = l[i] := by
  intro l
  induction l with
  | nil => intro i h; simp at h
  | cons b l ih =>
    intro i h
    cases i with
    | zero =>
      rw [Nat.testBit_zero]
      cases b <;> simp [toN] <;> omega
    | succ i =>
      rw [Nat.testBit_succ]
      have e : toN (b :: l) / 2 = toN l := by cases b <;> simp [toN] <;> omega
      rw [e]
      simpa using ih i (by simpa using h)
theorem toN_lt : ∀ (l : List Bool), toN l < 2 ^ l.length := by
  intro l
  induction l with
  | nil => simp [toN]
  | cons b l ih =>
    simp only [toN, List.length_cons, Nat.pow_succ]
    cases b <;> simp <;> omega
theorem lineN_toN (l : List Bool) : lineN (toN l) l.length = l := by
  apply List.ext_getElem
  · exact lineN_length _ _
  · intro i h1 h2
    rw [lineN_get, toN_bit l i h2]
theorem fit_free (m n : Nat) : fitD m 0 (List.replicate n (-1)) = true := by
  rw [fitD_iff]
  intro j hj
  left
  simp
theorem LF_free {clue : List Int} {n : Nat} (h8 : n ≤ 8) (h : clueV clue n = true) : LF clue (List.replicate n (-1)) ≠ [] := by
  unfold clueV at h
  simp only [Bool.and_eq_true, decide_eq_true_eq] at h
  have g := mkLine_ok clue n h.2.1 h.2.2
  have hm : toN (mkLine clue n) ∈ LF clue (List.replicate n (-1)) := by
    rw [LF_mem]
    have h1 := toN_lt (mkLine clue n)
    rw [g.1] at h1
    have h2 := lineN_toN (mkLine clue n)
    rw [g.1] at h2
    refine ⟨by simpa using h1, ?_⟩
    unfold isLine
    rw [fit_free, List.length_replicate, h2]
    unfold clueL
    rw [g.1, if_pos h8, g.2]; simp
  exact List.ne_nil_of_mem hm
/-! The reader of draws: only that each number drawn lies in its range. -/
structure Byts (b : List Int) : Prop where
  len : b.length ≤ 2000
  val : ∀ x ∈ b, 0 ≤ x ∧ x ≤ 255
theorem xor_nn {a b : Int} (ha : 0 ≤ a) (ha1 : a < 4611686018427387904) (hb : 0 ≤ b) (hb1 : b < 4611686018427387904) : 0 ≤ Go.bits .xor .i64 a b := by
  obtain ⟨m, rfl⟩ := Int.eq_ofNat_of_zero_le ha
  obtain ⟨n, rfl⟩ := Int.eq_ofNat_of_zero_le hb
  have h : (m ^^^ n) < 2 ^ 62 := Nat.xor_lt_two_pow (by omega) (by omega)
  have hm : m % 2 ^ IntKind.i64.bits = m := Nat.mod_eq_of_lt (show m < 2 ^ 64 by omega)
  have hn : n % 2 ^ IntKind.i64.bits = n := Nat.mod_eq_of_lt (show n < 2 ^ 64 by omega)
  simp only [Go.bits, BitVec.ofInt_natCast, BitVec.toNat_xor, BitVec.toNat_ofNat, hm, hn]
  rw [IntKind.wrap_i64]
  omega
theorem open_ok (l : List Int) (h : l.length ≤ maxLen) (hb : ∀ x ∈ l, (Lit.int .u8 x).wf = true) : ∃ b, spec_l20Open.f l = some (b, 0) ∧ Byts b := by
  unfold spec_l20Open.f
  by_cases c : (l.length : Int) > 2000
  · rw [if_pos c, if_pos (by omega)]
    exact ⟨_, rfl, by rw [List.length_take]; omega, fun x hx => wf_u8 (hb x (List.mem_of_mem_take hx))⟩
  · rw [if_neg c]
    exact ⟨_, rfl, by omega, fun x hx => wf_u8 (hb x hx)⟩
theorem pick_any {b : List Int} (hb : Byts b) {p : Int} (hp : 0 ≤ p) (hp1 : p ≤ 1000000) (n : Int) (hn1 : n ≤ 9223372036854775807) :
    ∃ r, Ev (fun k => spec_l20Rd_pick.f k b p n) (r, p + 1) ∧ 0 ≤ r ∧ (1 ≤ n → r < n) ∧ (n < 1 → r = 0) := by
  have hw : wrap64 (p + 1) = p + 1 := w64 (by omega) (by omega)
  have hw2 : wrap64 (p + 1 - 1) = p := by rw [w64 (by omega) (by omega)]; omega
  have hl := hb.len
  unfold spec_l20Rd_pick.f
  by_cases c : n < 1
  · refine ⟨0, Ev.ifp c (Ev.step (f := fun _ => some (0, p + 1)) (fun k => ?_) (Ev.now _)), by omega, by omega, fun _ => rfl⟩
    rw [spec_l20Rd_pick.j0]; rw [if_pos rfl, hw]
  · by_cases c0 : b.length = 0
    · refine ⟨0, Ev.ifn c (Ev.step (f := fun _ => some (0, p + 1)) (fun k => ?_) (Ev.now _)), by omega, by omega, fun _ => rfl⟩
      rw [spec_l20Rd_pick.j0]
      rw [c0, if_pos (by decide), hw]
    · have c0' : ((b.length : Int) == 0) = false := by simp; intro h; simp [h] at c0
      by_cases c1 : p < (b.length : Int)
      · have hm := hb.val _ (rd_mem b p hp c1)
        refine ⟨Int.tmod (rd b p) n, Ev.ifn c (Ev.step (f := fun _ => some (Int.tmod (rd b p) n, p + 1)) (fun k => ?_) (Ev.now _)), Int.tmod_nonneg _ hm.1, fun h => Int.tmod_lt_of_pos _ (by omega), fun h => absurd h c⟩
        rw [spec_l20Rd_pick.j0]
        rw [c0', if_neg (by decide), hw, hw2, if_pos c1, if_pos hp, if_neg (by omega), w64 (by omega) (by omega)]
      · have hL : (0 : Int) < (b.length : Int) := by omega
        have e1 := Int.tmod_nonneg (b.length : Int) hp
        have e2 := Int.tmod_lt_of_pos p hL
        have k7 : wrap64 (p * 7) = p * 7 := w64 (by omega) (by omega)
        have k73 : wrap64 (p * 7 + 3) = p * 7 + 3 := w64 (by omega) (by omega)
        have e3 := Int.tmod_nonneg (b.length : Int) (show 0 ≤ p * 7 + 3 by omega)
        have e4 := Int.tmod_lt_of_pos (p * 7 + 3) hL
        have m1 := hb.val _ (rd_mem b _ e1 e2)
        have m2 := hb.val _ (rd_mem b _ e3 e4)
        have d0 : Int.tdiv p (b.length : Int) = p / (b.length : Int) := Int.tdiv_eq_ediv_of_nonneg hp
        have d1 : 0 ≤ p / (b.length : Int) := Int.ediv_nonneg hp (by omega)
        have d2 : p / (b.length : Int) ≤ p := Int.ediv_le_self _ hp
        generalize hx1 : rd b (Int.tmod p (b.length : Int)) = x1 at m1
        generalize hx2 : rd b (Int.tmod (p * 7 + 3) (b.length : Int)) = x2 at m2
        generalize hq : p / (b.length : Int) = q at d0 d1 d2
        have hX : 0 ≤ Go.bits .xor .i64 (x1 * 131 + x2 * 1117 + p * 29 + q * 53) ((x1 * 131 + x2 * 1117 + p * 29 + q * 53) / 64) := xor_nn (by omega) (by omega) (by omega) (by omega)
        generalize hR : Go.bits .xor .i64 (x1 * 131 + x2 * 1117 + p * 29 + q * 53) ((x1 * 131 + x2 * 1117 + p * 29 + q * 53) / 64) = X at hX
        refine ⟨Int.tmod X n, Ev.ifn c (Ev.step (f := fun _ => some (Int.tmod X n, p + 1)) (fun k => ?_) (Ev.now _)), Int.tmod_nonneg _ hX, fun h => Int.tmod_lt_of_pos _ (by omega), fun h => absurd h c⟩
        rw [spec_l20Rd_pick.j0]
        rw [c0', if_neg (by decide), hw, hw2, if_neg c1, if_neg (by omega), k7, k73, if_pos e1, if_pos e2, if_pos e3, if_pos e4, if_neg (by omega), hx1, hx2, d0]
        rw [w64 (x := x1) (by omega) (by omega), w64 (x := x2) (by omega) (by omega), w64 (x := q) (by omega) (by omega), w64 (x := x1 * 131) (by omega) (by omega), w64 (x := x2 * 1117) (by omega) (by omega), w64 (x := p * 29) (by omega) (by omega), w64 (x := q * 53) (by omega) (by omega)]
        rw [w64 (x := x1 * 131 + x2 * 1117) (by omega) (by omega), w64 (x := x1 * 131 + x2 * 1117 + p * 29) (by omega) (by omega), w64 (x := x1 * 131 + x2 * 1117 + p * 29 + q * 53) (by omega) (by omega)]
        rw [Int.tdiv_eq_ediv_of_nonneg (by omega), w64 (by omega) (by omega), hR]
theorem odd_any {b : List Int} (hb : Byts b) {p : Int} (hp : 0 ≤ p) (hp1 : p ≤ 1000000) (n : Int) (hn1 : n ≤ 9223372036854775807) :
    ∃ r q, Ev (fun k => spec_l20Rd_odd.f k b p n) (r, q) ∧ p ≤ q ∧ q ≤ p + 1 := by
  unfold spec_l20Rd_odd.f
  by_cases c : n > 0
  · obtain ⟨r, e, _⟩ := pick_any hb hp hp1 n hn1
    exact ⟨_, _, Ev.ifp c (Ev.bind e (Ev.now _)), by omega, by omega⟩
  · exact ⟨_, _, Ev.ifn c (Ev.now _), by omega, by omega⟩
theorem drawLine_l {b : List Int} (hb : Byts b) : ∀ (d : Nat) (out : List Bool) (p : Int), out.length + d ≤ 100 → 0 ≤ p → p ≤ 10000 - d →
    ∃ l q, Ev (fun k => spec_l20Line.l0 k out d b p) (l, q) ∧ l.length = out.length + d ∧ p ≤ q ∧ q ≤ p + d := by
  intro d
  induction d with
  | zero =>
    intro out p ho hp hp1
    exact ⟨out, p, Ev.step (fun k => by rw [spec_l20Line.l0]) (Ev.ifn (by omega) (Ev.now _)), by omega, by omega, by omega⟩
  | succ d ih =>
    intro out p ho hp hp1
    obtain ⟨r, e, _⟩ := pick_any hb hp (by omega) 2 (by omega)
    obtain ⟨l, q, e1, h1, h2, h3⟩ := ih (out ++ [r == 0]) (p + 1) (by simp; omega) (by omega) (by omega)
    refine ⟨l, q, Ev.step (fun k => by rw [spec_l20Line.l0]) ?_, by rw [h1]; simp; omega, by omega, by omega⟩
    refine Ev.ifp (by omega) (Ev.bind e (Ev.ifp (by omega) ?_))
    rw [show wrap64 (((d + 1 : Nat) : Int) - 1) = (d : Int) from by rw [w64 (by omega) (by omega)]; omega]
    exact e1
theorem drawLine {b : List Int} (hb : Byts b) {p : Int} (hp : 0 ≤ p) (hp1 : p ≤ 1000) (n : Int) (hn0 : 1 ≤ n) (hn : n ≤ 8) :
    ∃ l q, Ev (fun k => spec_l20Line.f k b p n) (l, q) ∧ 1 ≤ l.length ∧ l.length ≤ 8 ∧ p ≤ q ∧ q ≤ p + 9 := by
  obtain ⟨r, e, h0, h1, _⟩ := pick_any hb hp (by omega) n (by omega)
  have h1 := h1 hn0
  obtain ⟨l, q, e1, g1, g2, g3⟩ := drawLine_l hb (1 + r).toNat [] (p + 1) (by simp; omega) (by omega) (by omega)
  refine ⟨l, q, ?_, by simp at g1; omega, by simp at g1; omega, by omega, by omega⟩
  unfold spec_l20Line.f
  refine Ev.bind e ?_
  rw [w64 (by omega) (by omega)]
  rw [show (((1 + r).toNat : Nat) : Int) = 1 + r by omega] at e1
  exact e1
theorem alive_ev : Ev (fun k => laws_alive.f k) true := Ev.of (fun k => laws_alive.mono k) (k := 20) (by decide +kernel)
theorem five (a b c d e : Int) {i : Int} (h0 : 0 ≤ i) (h1 : i < 5) : ∃ v, rd [a, b, c, d, e] i = v ∧ (v = a ∨ v = b ∨ v = c ∨ v = d ∨ v = e) := by
  have : i = 0 ∨ i = 1 ∨ i = 2 ∨ i = 3 ∨ i = 4 := by omega
  rcases this with rfl | rfl | rfl | rfl | rfl
  · exact ⟨a, rfl, .inl rfl⟩
  · exact ⟨b, rfl, .inr (.inl rfl)⟩
  · exact ⟨c, rfl, .inr (.inr (.inl rfl))⟩
  · exact ⟨d, rfl, .inr (.inr (.inr (.inl rfl)))⟩
  · exact ⟨e, rfl, .inr (.inr (.inr (.inr rfl)))⟩
theorem drawClueValid (l : List Int) (h : l.length ≤ maxLen) (hb : ∀ x ∈ l, (Lit.int .u8 x).wf = true) : ∃ clue n, Ev (fun k => spec_DrawClueValid.f k l) (clue, n) ∧ clue.length ≤ 20 := by
  obtain ⟨b, e, hB⟩ := open_ok l h hb
  obtain ⟨line, q, e1, h1, h2, h3, h4⟩ := drawLine hB (p := 0) (by omega) (by omega) 8 (by omega) (by omega)
  obtain ⟨o, q3, e3, g3, g3'⟩ := odd_any hB (p := q) (by omega) (by omega) 3 (by omega)
  have hc := clueL_len line
  obtain ⟨r5, e5, _⟩ := pick_any hB (p := q3) (by omega) (by omega) 8 (by omega)
  obtain ⟨r6, e6, p6, p6', _⟩ := pick_any hB (p := q3 + 1) (by omega) (by omega) 5 (by omega)
  obtain ⟨r7, e7, p7, p7', _⟩ := pick_any hB (p := q3) (by omega) (by omega) 4 (by omega)
  obtain ⟨r8, e8, _⟩ := pick_any hB (p := q3 + 1) (by omega) (by omega) 8 (by omega)
  obtain ⟨r9, e9, p9, p9', _⟩ := pick_any hB (p := q3 + 1 + 1) (by omega) (by omega) 5 (by omega)
  unfold spec_DrawClueValid.f
  cases o
  · exact ⟨clueL line, _, Ev.bindc e (Ev.bind e1 (Ev.bind (spec_clueof line (by omega)) (Ev.bind e3 (Ev.ifn (by simp) (Ev.bind e5 (Ev.bindc rfl (Ev.bind e6 (Ev.ifp p6 (Ev.ifp (by have := p6' (by omega); simpa using this) (Ev.now _)))))))))), by omega⟩
  · exact ⟨clueL line ++ [rd [0, 1, -1, 9] r7], _, Ev.bindc e (Ev.bind e1 (Ev.bind (spec_clueof line (by omega)) (Ev.bind e3 (Ev.ifp rfl (Ev.bindc rfl (Ev.bind e7 (Ev.ifp p7 (Ev.ifp (by have := p7' (by omega); simpa using this) (Ev.ifp (by omega) (Ev.bind e8 (Ev.bindc rfl (Ev.bind e9 (Ev.ifp p9 (Ev.ifp (by have := p9' (by omega); simpa using this) (Ev.now _))))))))))))))), by simp; omega⟩
theorem law_l (clue : List Int) (n : Nat) (hcl : clue.length ≤ 20) (hn : 1 ≤ n ∧ n ≤ 8) : ∀ (d i : Nat), n = i + d →
    Ev (fun k => laws_FnClueValid.l0 k clue n (clueV clue n) (List.replicate i (-1)) i) true := by
  intro d
  induction d with
  | zero =>
    intro i hi
    have e : i = n := by omega
    rw [e]
    refine Ev.step (fun k => by rw [laws_FnClueValid.l0]) (Ev.ifn (by omega) (Ev.bind (impl_ways clue (List.replicate n (-1)) (by omega) (by simp; omega)) (Ev.eq (Ev.now _) ?_)))
    have hk : knownV (List.replicate n (-1)) = true := by
      unfold knownV
      simp; omega
    unfold waysV
    rw [List.length_replicate]
    cases hc : clueV clue n
    · rw [if_neg (fun h => by simp at h)]; decide
    · have := List.length_pos_iff.2 (LF_free hn.2 hc)
      rw [if_pos ⟨hk, rfl⟩]
      simp; exact this
  | succ d ih =>
    intro i hi
    have hw : wrap64 ((i : Int) + 1) = ((i + 1 : Nat) : Int) := by rw [w64 (by omega) (by omega)]; omega
    refine Ev.step (fun k => by rw [laws_FnClueValid.l0]) (Ev.ifp (by omega) (Ev.ifp (by simp; omega) ?_))
    have := ih (i + 1) (by omega)
    rw [List.replicate_succ'] at this
    rw [hw]; exact this
theorem FnClueValid : laws_FnClueValid.Pure := by
  intro l h _ hb
  apply Ev.rounds
  unfold laws_FnClueValid.f
  by_cases c0 : (l.length : Int) > 1048576
  · exact Ev.ifp c0 (Ev.now _)
  refine Ev.ifn c0 ?_
  obtain ⟨clue, n, e, h1⟩ := drawClueValid l h hb
  refine Ev.bind e (Ev.bind (impl_clue clue n (by omega)) (Ev.bind (spec_clue clue n (by omega)) (Ev.ifn (by simp) ?_)))
  have no : ¬ (1 ≤ n ∧ n ≤ 8) → ∀ b : Bool, b = true → Ev (fun k => laws_FnClueValid.j0 k clue n (clueV clue n) b) true := by
    intro hn b hb
    have hf : clueV clue n = false := by unfold clueV; rw [decide_eq_false hn]; simp
    refine Ev.step (fun k => by rw [laws_FnClueValid.j0]) (Ev.ifp hb ?_)
    rw [hf]
    exact Ev.ifn (by decide) (Ev.bind alive_ev (Ev.now _))
  by_cases c1 : n < 1
  · exact Ev.ifp c1 (no (by omega) _ rfl)
  refine Ev.ifn c1 ?_
  by_cases c2 : n > 8
  · exact no (by omega) _ (by simpa using c2)
  refine Ev.step (fun k => by rw [laws_FnClueValid.j0]) (Ev.ifn (by simpa using c2) ?_)
  have := law_l clue n.toNat h1 (by omega) n.toNat 0 (by omega)
  rw [show ((n.toNat : Nat) : Int) = n by omega] at this
  simpa using this

end Go.Proofs.Ytnmlcbdbbnaabaa.Pure
