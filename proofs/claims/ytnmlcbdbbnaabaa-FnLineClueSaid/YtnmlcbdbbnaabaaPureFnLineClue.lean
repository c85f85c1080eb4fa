/- For every code: when everything is known of the line that the code draws, there is exactly one way with its clue, LineForced leaves what is known, and there is no way with one number more. No conditions beyond the code being bytes. -/
import Derived.Test.YtnmlcbdbbnaabaaPFnLineCluex7
namespace Go.Proofs.Ytnmlcbdbbnaabaa.Pure
open Go.RowKit Go.Proofs.Ytnmlcbdbbnaabaa.PFnLineClue Go.Proofs.YtnmlcbdbbnaabaaW.PrintWords Go.Proofs.YtnmlcbdbbnaabaaW.PrintLast Go.Proofs.YtnmlcbdbbnaabaaW.PrintMore
set_option linter.unusedVariables false
set_option linter.unusedSimpArgs false
/-! Ev: small steps. -/
theorem _root_.Go.Proofs.YtnmlcbdbbnaabaaW.PrintWords.Ev.ifp {α : Type} {c : Prop} [Decidable c] {g f : Nat → Option α} {r : α} (hc : c) (h : Ev g r) : Ev (fun k => if c then g k else f k) r :=
  Ev.congr (fun _ => if_pos hc) h
theorem _root_.Go.Proofs.YtnmlcbdbbnaabaaW.PrintWords.Ev.ifn {α : Type} {c : Prop} [Decidable c] {g f : Nat → Option α} {r : α} (hc : ¬ c) (h : Ev f r) : Ev (fun k => if c then g k else f k) r :=
  Ev.congr (fun _ => if_neg hc) h
theorem _root_.Go.Proofs.YtnmlcbdbbnaabaaW.PrintWords.Ev.bindc {α β : Type} {o : Option α} {f : Nat → α → Option β} {a : α} {r : β} (h : o = some a) (k : Ev (fun n => f n a) r) : Ev (fun n => o.bind (f n)) r := by
  subst h; exact k
theorem _root_.Go.Proofs.YtnmlcbdbbnaabaaW.PrintWords.Ev.eq {α : Type} {g : Nat → Option α} {r r' : α} (h : Ev g r) (e : r = r') : Ev g r' := e ▸ h
theorem _root_.Go.Proofs.YtnmlcbdbbnaabaaW.PrintWords.Ev.cst {α : Type} {o : Option α} {r : α} (h : o = some r) : Ev (fun _ => o) r := ⟨0, fun _ _ => h⟩
theorem w64 {x : Int} (h0 : -9223372036854775808 ≤ x) (h1 : x ≤ 9223372036854775807) : wrap64 x = x := by unfold wrap64; omega
theorem wf_i64 {x : Int} (h : (Lit.int .i64 x).wf = true) : -9223372036854775808 ≤ x ∧ x ≤ 9223372036854775807 := by
  have h2 : (decide (IntKind.i64.min ≤ x) && decide (x ≤ IntKind.i64.max)) = true := h
  simp [IntKind.min, IntKind.max, IntKind.bits, IntKind.signed] at h2
  exact h2
theorem wf_u8 {x : Int} (h : (Lit.int .u8 x).wf = true) : 0 ≤ x ∧ x ≤ 255 := by
  have h2 : (decide (IntKind.u8.min ≤ x) && decide (x ≤ IntKind.u8.max)) = true := h
  simp [IntKind.min, IntKind.max, IntKind.bits, IntKind.signed] at h2
  omega
theorem rd_nat (xs : List Int) (i : Nat) (h : i < xs.length) : rd xs (i : Int) = xs[i] := by
  simp [rd, List.getD_eq_getElem?_getD, h]
theorem rd_mem (xs : List Int) (i : Int) (h0 : 0 ≤ i) (h : i < xs.length) : rd xs i ∈ xs := by
  obtain ⟨n, rfl⟩ := Int.eq_ofNat_of_zero_le h0
  rw [rd_nat xs n (by omega)]; exact List.getElem_mem _
theorem l1In_f (a b c : Int) : spec_l1In.f a b c = some (decide (b ≤ a ∧ a ≤ c)) := by
  unfold spec_l1In.f
  by_cases h : a ≥ b
  · rw [if_pos h]; simp; omega
  · rw [if_neg h]; simp; omega
/-- The cells that a clue takes, with one behind each number. -/
def csum : List Int → Int
  | [] => 0
  | n :: l => n + 1 + csum l
/-- What ClueValid answers. -/
def clueV (c : List Int) (n : Int) : Bool := decide (1 ≤ n ∧ n ≤ 8) && (c.all (fun x => decide (1 ≤ x)) && decide (csum c ≤ n + 1))
theorem csum_nn : ∀ c : List Int, c.all (fun x => decide (1 ≤ x)) = true → 2 * (c.length : Int) ≤ csum c := by
  intro c
  induction c with
  | nil => intro _; simp [csum]
  | cons x c ih =>
    intro h
    simp only [List.all_cons, Bool.and_eq_true, decide_eq_true_eq] at h
    have := ih h.2
    simp only [csum, List.length_cons]
    omega
theorem csum_le : ∀ c : List Int, c.all (fun x => decide (1 ≤ x)) = true → ∀ x ∈ c, x < csum c := by
  intro c
  induction c with
  | nil => intro _ x hx; simp at hx
  | cons y c ih =>
    intro h x hx
    simp only [List.all_cons, Bool.and_eq_true, decide_eq_true_eq] at h
    have hn := csum_nn c h.2
    simp only [csum]
    rcases List.mem_cons.1 hx with hx | hx
    · omega
    · have := ih h.2 x hx
      omega
theorem impl_clue_l (l : List Int) (hl : l.length ≤ 140737488351232) : ∀ (d i : Nat) (t : Int), l.length = i + d → 0 ≤ t → t ≤ 100 →
    Ev (fun k => impl_ClueValid.l0 k t l l.length i) ((l.drop i).all (fun x => decide (1 ≤ x)) && decide (csum (l.drop i) ≤ t)) := by
  intro d
  induction d with
  | zero =>
    intro i t hi h0 h1
    refine Ev.step (fun k => by rw [impl_ClueValid.l0]) (Ev.ifn (by omega) (Ev.eq (Ev.now _) ?_))
    rw [List.drop_eq_nil_of_le (by omega)]; simp [csum, h0]
  | succ d ih =>
    intro i t hi h0 h1
    have hlt : i < l.length := by omega
    have hw : wrap64 ((i : Int) + 1) = ((i + 1 : Nat) : Int) := by rw [w64 (by omega) (by omega)]; omega
    refine Ev.step (fun k => by rw [impl_ClueValid.l0]) ?_
    rw [rd_nat l i hlt, hw, List.drop_eq_getElem_cons hlt, List.all_cons]
    rw [show csum (l[i] :: l.drop (i + 1)) = l[i] + 1 + csum (l.drop (i + 1)) from rfl]
    refine Ev.ifp (by omega) (Ev.ifp (by omega) (Ev.ifp (by omega) ?_))
    by_cases c1 : l[i] < 1
    · have h : ¬ 1 ≤ l[i] := by omega
      exact Ev.ifp c1 (Ev.eq (Ev.now _) (by simp [h]))
    refine Ev.ifn c1 ?_
    have g : 1 ≤ l[i] := by omega
    by_cases c2 : l[i] ≥ t
    · refine Ev.ifp c2 (Ev.eq (Ev.now _) ?_)
      symm
      rw [Bool.and_eq_false_iff]
      cases ha : (l.drop (i + 1)).all (fun x => decide (1 ≤ x))
      · left; simp
      · right
        have := csum_nn _ ha
        simp; omega
    · refine Ev.ifn c2 ?_
      rw [w64 (x := l[i] + 1) (by omega) (by omega), w64 (by omega) (by omega)]
      refine Ev.eq (ih (i + 1) (t - (l[i] + 1)) (by omega) (by omega) (by omega)) ?_
      simp only [g, decide_true, Bool.true_and]
      congr 1
      rw [decide_eq_decide]; omega
theorem impl_clue (l : List Int) (n : Int) (hl : l.length ≤ 140737488351232) : Ev (fun k => impl_ClueValid.f k l n) (clueV l n) := by
  have no : ∀ b : Bool, b = true → ¬ (1 ≤ n ∧ n ≤ 8) → Ev (fun k => impl_ClueValid.j0 k l n b) (clueV l n) := by
    intro b hb h
    refine Ev.step (fun k => by rw [impl_ClueValid.j0]) (Ev.ifp hb (Ev.eq (Ev.now _) ?_))
    unfold clueV
    rw [decide_eq_false h]; simp
  unfold impl_ClueValid.f
  by_cases c1 : n < 1
  · exact Ev.ifp c1 (no _ rfl (by omega))
  refine Ev.ifn c1 ?_
  by_cases c2 : n > 8
  · exact no _ (by simpa using c2) (by omega)
  refine Ev.step (fun k => by rw [impl_ClueValid.j0]) (Ev.ifn (by simpa using c2) ?_)
  rw [w64 (by omega) (by omega)]
  refine Ev.eq (impl_clue_l l hl l.length 0 (n + 1) (by omega) (by omega) (by omega)) ?_
  unfold clueV
  rw [decide_eq_true (show 1 ≤ n ∧ n ≤ 8 by omega)]; simp
def isum : List Int → Int
  | [] => 0
  | n :: l => n + isum l
theorem csum_isum : ∀ c : List Int, csum c = isum c + c.length := by
  intro c
  induction c with
  | nil => rfl
  | cons x c ih => simp only [csum, isum, List.length_cons]; omega
/-- What KnownValid answers. -/
def knownV (l : List Int) : Bool := l.all (fun x => decide (-1 ≤ x ∧ x ≤ 1)) && decide (1 ≤ (l.length : Int) ∧ (l.length : Int) ≤ 8)
theorem impl_known_l (l : List Int) (hl : l.length ≤ 140737488351232) : ∀ (d i : Nat), l.length = i + d →
    Ev (fun k => impl_KnownValid.l0 k l l l.length i) ((l.drop i).all (fun x => decide (-1 ≤ x ∧ x ≤ 1)) && decide (1 ≤ (l.length : Int) ∧ (l.length : Int) ≤ 8)) := by
  intro d
  induction d with
  | zero =>
    intro i hi
    refine Ev.step (fun k => by rw [impl_KnownValid.l0]) (Ev.ifn (by omega) ?_)
    rw [List.drop_eq_nil_of_le (by omega)]
    by_cases c : (l.length : Int) ≥ 1
    · exact Ev.ifp c (Ev.eq (Ev.now _) (by simp; omega))
    · exact Ev.ifn c (Ev.eq (Ev.now _) (by simp; omega))
  | succ d ih =>
    intro i hi
    have hlt : i < l.length := by omega
    have hw : wrap64 ((i : Int) + 1) = ((i + 1 : Nat) : Int) := by rw [w64 (by omega) (by omega)]; omega
    refine Ev.step (fun k => by rw [impl_KnownValid.l0]) ?_
    rw [rd_nat l i hlt, hw, List.drop_eq_getElem_cons hlt, List.all_cons]
    refine Ev.ifp (by omega) (Ev.ifp (by omega) (Ev.ifp (by omega) ?_))
    by_cases c1 : l[i] < -1
    · exact Ev.ifp c1 (Ev.eq (Ev.now _) (by simp; omega))
    refine Ev.ifn c1 ?_
    by_cases c2 : l[i] > 1
    · exact Ev.ifp c2 (Ev.eq (Ev.now _) (by simp; omega))
    · have h : -1 ≤ l[i] ∧ l[i] ≤ 1 := by omega
      exact Ev.ifn c2 (Ev.eq (ih (i + 1) (by omega)) (by simp [h]))
theorem impl_known (l : List Int) (hl : l.length ≤ 140737488351232) : Ev (fun k => impl_KnownValid.f k l) (knownV l) := by
  unfold impl_KnownValid.f
  exact impl_known_l l hl l.length 0 (by omega)
/-! Binary digits. -/
def bit (m : Int) (d : Nat) : Int := m / 2 ^ d % 2
theorem bit_01 (m : Int) (d : Nat) : bit m d = 0 ∨ bit m d = 1 := by unfold bit; omega
theorem shr_bit {m : Int} (h0 : 0 ≤ m) (d : Nat) (hd : d ≤ 64) : Int.tmod (shr .i64 m (d : Int)) 2 = bit m d := by
  have e : shr .i64 m (d : Int) = m / 2 ^ d := by
    unfold shr
    rw [show min (d : Int).toNat IntKind.i64.bits = d from by simp [IntKind.bits]; omega]
  rw [e, Int.tmod_eq_emod_of_nonneg (Int.ediv_nonneg h0 (Int.pow_nonneg (by decide)))]
  rfl
theorem shr_nat (m : Int) (d : Nat) (hd : d ≤ 64) : shr .i64 m (d : Int) = m / 2 ^ d := by
  unfold shr
  rw [show min (d : Int).toNat IntKind.i64.bits = d from by simp [IntKind.bits]; omega]
theorem and1_bit {x : Int} (h0 : 0 ≤ x) (h1 : x < 4611686018427387904) : Go.bits .and .i64 x 1 = x % 2 := by
  have := bits_mask .i64 62 (by decide) (fun n h h' => by rw [IntKind.wrap_i64]; omega) 1 (by decide) x h0 h1
  simpa using this
theorem bit_nat (a d : Nat) : bit (a : Int) d = if a.testBit d then 1 else 0 := by
  unfold bit
  rw [Nat.testBit_eq_decide_div_mod_eq]
  have e : ((a : Int) / 2 ^ d % 2) = ((a / 2 ^ d % 2 : Nat) : Int) := by push_cast; rfl
  rw [e]
  by_cases h : a / 2 ^ d % 2 = 1
  · simp [h]
  · have : a / 2 ^ d % 2 = 0 := by omega
    simp [this]
/-- The clue of a line, r cells being filled ahead of it. -/
def clueR : Int → List Bool → List Int
  | r, [] => if 0 < r then [r] else []
  | r, true :: l => clueR (r + 1) l
  | r, false :: l => if 0 < r then r :: clueR 0 l else clueR 0 l
/-- What ClueOf answers. -/
def clueL (l : List Bool) : List Int := if l.length ≤ 8 then clueR 0 l else []
theorem rdOf_nat (xs : List Bool) (i : Nat) (h : i < xs.length) : rdOf false xs (i : Int) = xs[i] := by
  simp [rdOf, List.getD_eq_getElem?_getD, h]
theorem clueR_f : ∀ (l : List Bool) (r : Int), clueR r (l ++ [false]) = clueR r l := by
  intro l
  induction l with
  | nil => intro r; simp [clueR]
  | cons b l ih =>
    intro r
    cases b
    · simp only [List.cons_append, clueR, ih]
    · simp only [List.cons_append, clueR, ih]
theorem clueR_ft : ∀ (l : List Bool) (r : Int), clueR r (l ++ [false] ++ [true]) = clueR r l ++ [1] := by
  intro l
  induction l with
  | nil =>
    intro r
    by_cases h : 0 < r <;> simp [clueR, h]
  | cons b l ih =>
    intro r
    cases b
    · simp only [List.cons_append, clueR]
      rw [ih]
      by_cases h : 0 < r <;> simp [h]
    · simp only [List.cons_append, clueR]
      exact ih _
theorem clueR_tt : ∀ (l : List Bool) (r : Int), 0 ≤ r → ∃ ys z, clueR r (l ++ [true]) = ys ++ [z] ∧ clueR r (l ++ [true] ++ [true]) = ys ++ [z + 1] := by
  intro l
  induction l with
  | nil =>
    intro r hr
    refine ⟨[], r + 1, ?_, ?_⟩
    · simp [clueR]; omega
    · simp [clueR]; omega
  | cons b l ih =>
    intro r hr
    cases b
    · obtain ⟨ys, z, h1, h2⟩ := ih 0 (by omega)
      by_cases h : 0 < r
      · refine ⟨r :: ys, z, ?_, ?_⟩
        · simp only [List.cons_append, clueR, h, if_true, h1]
        · simp only [List.cons_append, clueR, h, if_true]
          rw [h2]
      · refine ⟨ys, z, ?_, ?_⟩
        · simp only [List.cons_append, clueR, h, if_false, h1]
        · simp only [List.cons_append, clueR, h, if_false]
          rw [h2]
    · obtain ⟨ys, z, h1, h2⟩ := ih (r + 1) (by omega)
      exact ⟨ys, z, by simpa only [List.cons_append, clueR] using h1, by simpa only [List.cons_append, clueR] using h2⟩
theorem clueR_le : ∀ (l : List Bool) (r : Int), 0 ≤ r → ∀ x ∈ clueR r l, 1 ≤ x ∧ x ≤ r + l.length := by
  intro l
  induction l with
  | nil =>
    intro r hr x hx
    simp only [clueR] at hx
    split at hx
    · simp at hx; simp; omega
    · simp at hx
  | cons b l ih =>
    intro r hr x hx
    cases b
    · simp only [clueR] at hx
      split at hx
      · rcases List.mem_cons.1 hx with hx | hx
        · simp; omega
        · have := ih 0 (by omega) x hx; simp; omega
      · have := ih 0 (by omega) x hx; simp; omega
    · simp only [clueR] at hx
      have := ih (r + 1) (by omega) x hx; simp; omega
theorem clueR_len : ∀ (l : List Bool) (r : Int), (clueR r l).length ≤ l.length + 1 := by
  intro l
  induction l with
  | nil => intro r; simp only [clueR]; split <;> simp
  | cons b l ih =>
    intro r
    cases b
    · simp only [clueR]
      have := ih 0
      split <;> (simp; omega)
    · simp only [clueR]
      have := ih (r + 1)
      simp; omega
theorem clueL_len (l : List Bool) : (clueL l).length ≤ 9 := by
  unfold clueL
  split
  · have := clueR_len l 0; omega
  · simp
/-! The lines of a number of cells, by their numbers. -/
def lineN (m n : Nat) : List Bool := (List.range n).map (fun i => m.testBit i)
theorem lineN_length (m n : Nat) : (lineN m n).length = n := by simp [lineN]
theorem lineN_get (m n i : Nat) (h : i < (lineN m n).length) : (lineN m n)[i] = m.testBit i := by simp [lineN]
def bitI (m i : Nat) : Int := if m.testBit i then 1 else 0
/-- Does the line agree with what is known from cell i on? -/
def fitD (m : Nat) : Nat → List Int → Bool
  | _, [] => true
  | i, k :: ks => (decide (k < 0) || k == bitI m i) && fitD m (i + 1) ks
def isLine (clue kn : List Int) (m : Nat) : Bool := fitD m 0 kn && decide (clueL (lineN m kn.length) = clue)
def LFr (clue kn : List Int) (a d : Nat) : List Nat := (List.range' a d).filter (isLine clue kn)
def LF (clue kn : List Int) : List Nat := LFr clue kn 0 (2 ^ kn.length)
theorem LFr_cons (clue kn : List Int) (a d : Nat) : LFr clue kn a (d + 1) = if isLine clue kn a then a :: LFr clue kn (a + 1) d else LFr clue kn (a + 1) d := by
  unfold LFr
  rw [List.range'_succ, List.filter_cons]
theorem LFr_len (clue kn : List Int) (a d : Nat) : (LFr clue kn a d).length ≤ d := by
  have := List.length_filter_le (isLine clue kn) (List.range' a d)
  simpa [LFr] using this
theorem pow_le (n : Nat) (h : n ≤ 8) : 1 ≤ 2 ^ n ∧ 2 ^ n ≤ 256 := by
  have : n = 0 ∨ n = 1 ∨ n = 2 ∨ n = 3 ∨ n = 4 ∨ n = 5 ∨ n = 6 ∨ n = 7 ∨ n = 8 := by omega
  rcases this with rfl | rfl | rfl | rfl | rfl | rfl | rfl | rfl | rfl <;> decide
theorem shl_n (n : Nat) (h : n ≤ 8) : shl .i64 1 (n : Int) = ((2 ^ n : Nat) : Int) := by
  have : n = 0 ∨ n = 1 ∨ n = 2 ∨ n = 3 ∨ n = 4 ∨ n = 5 ∨ n = 6 ∨ n = 7 ∨ n = 8 := by omega
  rcases this with rfl | rfl | rfl | rfl | rfl | rfl | rfl | rfl | rfl <;> decide +kernel
theorem bit_eqI (m i : Nat) (hm : m < 4611686018427387904) (hi : i ≤ 64) : Go.bits .and .i64 (shr .i64 (m : Int) (i : Int)) 1 = bitI m i := by
  rw [shr_nat _ _ hi, and1_bit (Int.ediv_nonneg (by omega) (Int.pow_nonneg (by decide))) (by
    have : (m : Int) / 2 ^ i ≤ m := Int.ediv_le_self _ (by omega)
    omega)]
  exact bit_nat m i
theorem bitI_beq (m i : Nat) : (bitI m i == 1) = m.testBit i := by
  unfold bitI; cases m.testBit i <;> rfl
/-- What LineWays answers. -/
def waysV (clue kn : List Int) : Int := if knownV kn = true ∧ clueV clue kn.length = true then ((LF clue kn).length : Int) else -1
theorem knownV_ok {kn : List Int} (h : knownV kn = true) : 1 ≤ kn.length ∧ kn.length ≤ 8 ∧ ∀ x ∈ kn, -1 ≤ x ∧ x ≤ 1 := by
  unfold knownV at h
  simp only [Bool.and_eq_true, decide_eq_true_eq, List.all_eq_true] at h
  exact ⟨by omega, by omega, h.1⟩
/-- What is known of cell j, if these are all the lines. -/
def cls (L : List Nat) (j : Nat) : Int := if L.all (fun m => !m.testBit j) = true then 0 else if L.all (fun m => m.testBit j) = true then 1 else -1
/-- What LineForced answers. -/
def forcedV (clue kn : List Int) : List Int × Bool :=
  if knownV kn = true ∧ clueV clue kn.length = true then
    if LF clue kn = [] then (kn, false) else ((List.range kn.length).map (cls (LF clue kn)), true)
  else ([], false)
theorem LF_lt {clue kn : List Int} {m : Nat} (h8 : kn.length ≤ 8) (h : m ∈ LF clue kn) : m < 256 := by
  have hp := pow_le _ h8
  unfold LF LFr at h
  have := (List.mem_filter.1 h).1
  rw [List.mem_range'_1] at this
  omega
theorem impl_clueof_l (l : List Bool) (h8 : l.length ≤ 8) : ∀ (d i : Nat), l.length = i + d →
    Ev (fun k => impl_ClueOf.l0 k l (clueR 0 (l.take i)) l l.length i) (clueR 0 l) := by
  intro d
  induction d with
  | zero =>
    intro i hi
    refine Ev.step (fun k => by rw [impl_ClueOf.l0]) (Ev.ifn (by omega) (Ev.eq (Ev.now _) ?_))
    rw [List.take_of_length_le (by omega)]
  | succ d ih =>
    intro i hi
    have hlt : i < l.length := by omega
    have hw : wrap64 ((i : Int) + 1) = ((i + 1 : Nat) : Int) := by rw [w64 (by omega) (by omega)]; omega
    have hlen := clueR_len (l.take i) 0
    rw [List.length_take] at hlen
    have h1 := ih (i + 1) (by omega)
    have ht : l.take (i + 1) = l.take i ++ [l[i]] := by rw [List.take_succ_eq_append_getElem hlt]
    refine Ev.step (fun k => by rw [impl_ClueOf.l0]) (Ev.ifp (by omega) (Ev.ifp (by omega) (Ev.ifp (by omega) ?_)))
    rw [hw, rdOf_nat l i hlt]
    cases hb : l[i]
    · refine Ev.ifn (by decide) ?_
      rw [ht, hb, clueR_f] at h1
      exact h1
    · refine Ev.ifp rfl ?_
      by_cases c : (i : Int) > 0
      · have hlt1 : i - 1 < l.length := by omega
        have hw1 : wrap64 ((i : Int) - 1) = ((i - 1 : Nat) : Int) := by rw [w64 (by omega) (by omega)]; omega
        have ht1 : l.take i = l.take (i - 1) ++ [l[i - 1]] := by
          have := List.take_succ_eq_append_getElem hlt1
          rw [show i - 1 + 1 = i by omega] at this
          exact this
        rw [hw1, rdOf_nat l (i - 1) hlt1]
        refine Ev.ifp c (Ev.ifp (by omega) (Ev.ifp (by omega) ?_))
        cases hb1 : l[i - 1]
        · refine Ev.ifn (by decide) (Ev.ifp (by omega) ?_)
          rw [ht, hb, ht1, hb1, clueR_ft] at h1
          rw [ht1, hb1, clueR_f]
          exact h1
        · obtain ⟨ys, z, g1, g2⟩ := clueR_tt (l.take (i - 1)) 0 (by omega)
          have e1 : clueR 0 (l.take i) = ys ++ [z] := by rw [ht1, hb1]; exact g1
          have e2 : clueR 0 (l.take (i + 1)) = ys ++ [z + 1] := by rw [ht, hb, ht1, hb1]; exact g2
          have hz := clueR_le (l.take i) 0 (by omega) z (by rw [e1]; simp)
          rw [List.length_take] at hz
          rw [e1] at hlen ⊢
          rw [e2] at h1
          have hyl : (ys ++ [z]).length = ys.length + 1 := by simp
          have hw2 : wrap64 (((ys ++ [z]).length : Int) - 1) = ((ys.length : Nat) : Int) := by rw [w64 (by omega) (by omega)]; omega
          have hr : rd (ys ++ [z]) ((ys.length : Nat) : Int) = z := by rw [rd_nat _ _ (by omega)]; simp
          rw [hw2, hr, w64 (x := z + 1) (by omega) (by omega)]
          refine Ev.ifp rfl (Ev.ifp (by omega) (Ev.ifp (by omega) ?_))
          have hs : (ys ++ [z]).set ((ys.length : Nat) : Int).toNat (z + 1) = ys ++ [z + 1] := by
            rw [Int.toNat_natCast, List.set_append_right _ _ (Nat.le_refl _)]; simp
          rw [hs]; exact h1
      · have hi0 : i = 0 := by omega
        subst hi0
        refine Ev.ifn c (Ev.ifp (by omega) ?_)
        rw [ht, hb] at h1
        simpa [clueR] using h1
theorem impl_clueof (l : List Bool) (hl : l.length ≤ 140737488351232) : Ev (fun k => impl_ClueOf.f k l) (clueL l) := by
  unfold impl_ClueOf.f clueL
  by_cases h8 : l.length ≤ 8
  · refine Ev.ifn (by omega) (Ev.eq (?_ : Ev _ (clueR 0 l)) (by rw [if_pos h8]))
    have := impl_clueof_l l h8 l.length 0 (by omega)
    simpa [clueR] using this
  · exact Ev.ifp (by omega) (Ev.eq (Ev.now _) (by rw [if_neg h8]))
theorem impl_lineOf_l (m n : Nat) (hm : m < 4611686018427387904) (hn : n ≤ 60) : ∀ (d i : Nat) (ys : List Bool), ys.length = n → n = i + d →
    Ev (fun k => impl_lineOf.l0 k m ys n i) (ys.take i ++ (lineN m n).drop i) := by
  intro d
  induction d with
  | zero =>
    intro i ys hy hi
    refine Ev.step (fun k => by rw [impl_lineOf.l0]) (Ev.ifn (by omega) (Ev.eq (Ev.now _) ?_))
    rw [List.take_of_length_le (by omega), List.drop_eq_nil_of_le (by rw [lineN_length]; omega)]; simp
  | succ d ih =>
    intro i ys hy hi
    have hw : wrap64 ((i : Int) + 1) = ((i + 1 : Nat) : Int) := by rw [w64 (by omega) (by omega)]; omega
    refine Ev.step (fun k => by rw [impl_lineOf.l0]) (Ev.ifp (by omega) (Ev.ifp (by omega) (Ev.ifp (by omega) ?_)))
    rw [hw, bit_eqI m i hm (by omega), bitI_beq, Int.toNat_natCast]
    refine Ev.eq (ih (i + 1) (ys.set i (m.testBit i)) (by simp [hy]) (by omega)) ?_
    rw [List.take_add_one, List.take_set_of_le (Nat.le_refl i), List.drop_eq_getElem_cons (l := lineN m n) (i := i) (by rw [lineN_length]; omega), lineN_get]
    simp [show i < ys.length by omega]
theorem impl_lineOf_ev (m n : Nat) (hm : m < 4611686018427387904) (hn : n ≤ 60) : Ev (fun k => impl_lineOf.f k m n) (lineN m n) := by
  unfold impl_lineOf.f
  refine Ev.ifp (by omega) (Ev.ifp (by omega) (Ev.bindc rfl ?_))
  have := impl_lineOf_l m n hm hn n 0 (List.replicate n false) (by simp) (by omega)
  simpa using this
theorem equal_l (a b : List Int) (h : a.length = b.length) (hl : a.length ≤ 140737488351232) : ∀ (d i : Nat), a.length = i + d → Ev (fun k => slices_Equal_int_int.l0 k a b a.length i) (decide (a.drop i = b.drop i)) := by
  intro d
  induction d with
  | zero =>
    intro i hi
    refine Ev.step (fun k => by rw [slices_Equal_int_int.l0]) (Ev.ifn (by omega) (Ev.eq (Ev.now _) ?_))
    rw [List.drop_eq_nil_of_le (by omega), List.drop_eq_nil_of_le (by omega)]; simp
  | succ d ih =>
    intro i hi
    have ha : i < a.length := by omega
    have hb : i < b.length := by omega
    have hw : wrap64 ((i : Int) + 1) = ((i + 1 : Nat) : Int) := by rw [w64 (by omega) (by omega)]; omega
    refine Ev.step (fun k => by rw [slices_Equal_int_int.l0]) (Ev.ifp (by omega) (Ev.ifp (by omega) (Ev.ifp (by omega) (Ev.ifp (by omega) ?_))))
    rw [rd_nat a i ha, rd_nat b i hb, hw, List.drop_eq_getElem_cons ha, List.drop_eq_getElem_cons hb]
    by_cases c : a[i] = b[i]
    · exact Ev.ifp c (Ev.eq (ih (i + 1) (by omega)) (by rw [c]; simp only [List.cons.injEq, true_and]))
    · exact Ev.ifn c (Ev.eq (Ev.now _) (by simp only [List.cons.injEq, c, false_and, decide_false]))
theorem equal_ev (a b : List Int) (hl : a.length ≤ 140737488351232) : Ev (fun k => slices_Equal_int_int.f k a b) (decide (a = b)) := by
  unfold slices_Equal_int_int.f
  by_cases h : a.length = b.length
  · exact Ev.ifp (by omega) (Ev.eq (equal_l a b h hl a.length 0 (by omega)) (by simp))
  · refine Ev.ifn (by omega) (Ev.eq (Ev.now false) ?_)
    symm; simp; intro e; exact h (by rw [e])
theorem impl_fits (clue kn acc : List Int) (m N : Nat) (hm : m < 4611686018427387904) (hk : kn.length ≤ 60) (r : List Int) : ∀ (d i : Nat) (fl : Bool), kn.length = i + d →
    Ev (fun k => impl_linesFor.l1 k clue kn acc m (fl && fitD m i (kn.drop i)) N m kn kn.length kn.length) r →
    Ev (fun k => impl_linesFor.l1 k clue kn acc m fl N m kn kn.length i) r := by
  intro d
  induction d with
  | zero =>
    intro i fl hi H
    rw [List.drop_eq_nil_of_le (by omega)] at H
    have : kn.length = i := by omega
    rw [this] at H ⊢
    simpa [fitD] using H
  | succ d ih =>
    intro i fl hi H
    have hlt : i < kn.length := by omega
    have hw : wrap64 ((i : Int) + 1) = ((i + 1 : Nat) : Int) := by rw [w64 (by omega) (by omega)]; omega
    rw [List.drop_eq_getElem_cons hlt] at H
    refine Ev.step (fun k => by rw [impl_linesFor.l1]) (Ev.ifp (by omega) (Ev.ifp (by omega) (Ev.ifp (by omega) ?_)))
    rw [rd_nat kn i hlt, hw, bit_eqI m i hm (by omega)]
    cases fl
    · refine Ev.ifn (by decide) (ih (i + 1) false (by omega) ?_)
      simpa using H
    · refine Ev.ifp rfl ?_
      by_cases c : kn[i] < 0
      · refine Ev.ifp c (ih (i + 1) true (by omega) ?_)
        simpa [fitD, c] using H
      · refine Ev.ifn c (ih (i + 1) _ (by omega) ?_)
        simpa [fitD, c] using H
theorem impl_linesFor_l (clue kn : List Int) (hk : kn.length ≤ 8) : ∀ (d m : Nat) (acc : List Int), m + d = 2 ^ kn.length → acc.length + d ≤ 600 →
    Ev (fun k => impl_linesFor.l0 k clue kn acc ((2 ^ kn.length : Nat) : Int) m) (acc ++ (LFr clue kn m d).map (fun x : Nat => (x : Int))) := by
  have hp := pow_le _ hk
  intro d
  induction d with
  | zero =>
    intro m acc hm ha
    exact Ev.step (fun k => by rw [impl_linesFor.l0]) (Ev.ifn (by omega) (Ev.eq (Ev.now _) (by simp [LFr])))
  | succ d ih =>
    intro m acc hm ha
    have hw : wrap64 ((m : Int) + 1) = ((m + 1 : Nat) : Int) := by rw [w64 (by omega) (by omega)]; omega
    refine Ev.step (fun k => by rw [impl_linesFor.l0]) (Ev.ifp (by omega) ?_)
    refine impl_fits clue kn acc m (2 ^ kn.length) (by omega) (by omega) _ kn.length 0 true (by omega) ?_
    refine Ev.step (fun k => by rw [impl_linesFor.l1]) (Ev.ifn (by omega) ?_)
    rw [hw, LFr_cons, List.drop_zero, Bool.true_and]
    unfold isLine
    by_cases c : fitD m 0 kn = true
    · rw [c, Bool.true_and]
      refine Ev.ifp rfl (Ev.bind (impl_lineOf_ev m kn.length (by omega) (by omega)) (Ev.bind (impl_clueof _ (by rw [lineN_length]; omega)) (Ev.bind (equal_ev _ _ (by have := clueL_len (lineN m kn.length); omega)) ?_)))
      by_cases c2 : clueL (lineN m kn.length) = clue
      · refine Ev.ifp (by simpa using c2) (Ev.ifp (by omega) (Ev.eq (ih (m + 1) (acc ++ [(m : Int)]) (by omega) (by simp; omega)) ?_))
        simp [c2]
      · refine Ev.ifn (by simpa using c2) (Ev.eq (ih (m + 1) acc (by omega) (by omega)) ?_)
        simp [c2]
    · refine Ev.ifn c (Ev.eq (ih (m + 1) acc (by omega) (by omega)) ?_)
      simp [c]
theorem impl_linesFor_ev (clue kn : List Int) (hk : kn.length ≤ 8) : Ev (fun k => impl_linesFor.f k clue kn) ((LF clue kn).map (fun x : Nat => (x : Int))) := by
  have hp := pow_le _ hk
  unfold impl_linesFor.f
  rw [shl_n _ hk]
  have := impl_linesFor_l clue kn hk (2 ^ kn.length) 0 [] (by omega) (by simp; omega)
  simpa [LF] using this
theorem and_neg1 (m : Nat) (h : m < 1024) : Go.bits .and .i64 (-1) (m : Int) = (m : Int) := by
  show IntKind.i64.wrap (((BitVec.ofInt 64 (-1) &&& BitVec.ofInt 64 (m : Int)).toNat : Nat) : Int) = m
  rw [show BitVec.ofInt 64 (-1) = BitVec.allOnes 64 from by decide, BitVec.allOnes_and, BitVec.ofInt_natCast, BitVec.toNat_ofNat, Nat.mod_eq_of_lt (by omega), IntKind.wrap_i64]
  omega
theorem and_n (a b : Nat) (ha : a < 1024) (hb : b < 1024) : Go.bits .and .i64 (a : Int) (b : Int) = ((a &&& b : Nat) : Int) :=
  (bits_nat .i64 62 (by decide) (fun n h h' => by rw [IntKind.wrap_i64]; omega) a b (by omega) (by omega)).1
theorem or_n (a b : Nat) (ha : a < 1024) (hb : b < 1024) : Go.bits .or .i64 (a : Int) (b : Int) = ((a ||| b : Nat) : Int) :=
  (bits_nat .i64 62 (by decide) (fun n h h' => by rw [IntKind.wrap_i64]; omega) a b (by omega) (by omega)).2
theorem fold_and_bit : ∀ (L : List Nat) (a j : Nat), (L.foldl (fun x y => x &&& y) a).testBit j = (a.testBit j && L.all (fun m => m.testBit j)) := by
  intro L
  induction L with
  | nil => intro a j; simp
  | cons m L ih => intro a j; rw [List.foldl_cons, ih, Nat.testBit_and, List.all_cons, Bool.and_assoc]
theorem fold_or_bit : ∀ (L : List Nat) (a j : Nat), (L.foldl (fun x y => x ||| y) a).testBit j = (a.testBit j || L.any (fun m => m.testBit j)) := by
  intro L
  induction L with
  | nil => intro a j; simp
  | cons m L ih => intro a j; rw [List.foldl_cons, ih, Nat.testBit_or, List.any_cons, Bool.or_assoc]
theorem fold_lt : ∀ (L : List Nat) (a : Nat), a < 1024 → (∀ m ∈ L, m < 256) → L.foldl (fun x y => x &&& y) a < 1024 ∧ L.foldl (fun x y => x ||| y) a < 1024 := by
  intro L
  induction L with
  | nil => intro a h _; exact ⟨h, h⟩
  | cons m L ih =>
    intro a h hL
    have hm := hL m List.mem_cons_self
    have h1 := ih (a &&& m) (Nat.lt_of_le_of_lt Nat.and_le_left h) (fun x hx => hL x (List.mem_cons_of_mem _ hx))
    have h2 := ih (a ||| m) (Nat.or_lt_two_pow (n := 10) h (by omega)) (fun x hx => hL x (List.mem_cons_of_mem _ hx))
    exact ⟨h1.1, h2.2⟩
theorem impl_forced_fold (kn : List Int) (L : List Nat) (hL : ∀ m ∈ L, m < 256) (hlen : L.length ≤ 600) (r : List Int × Bool) : ∀ (d i a o : Nat), L.length = i + d → a < 1024 → o < 1024 →
    Ev (fun k => impl_LineForced.l0 k kn (((L.drop i).foldl (fun x y => x &&& y) a : Nat) : Int) (((L.drop i).foldl (fun x y => x ||| y) o : Nat) : Int) (L.map (fun x : Nat => (x : Int))) L.length L.length) r →
    Ev (fun k => impl_LineForced.l0 k kn (a : Int) (o : Int) (L.map (fun x : Nat => (x : Int))) L.length i) r := by
  intro d
  induction d with
  | zero =>
    intro i a o hi ha ho H
    have e : L.length = i := by omega
    rw [List.drop_eq_nil_of_le (by omega)] at H
    rw [e] at H ⊢
    exact H
  | succ d ih =>
    intro i a o hi ha ho H
    have hlt : i < L.length := by omega
    have hm := hL _ (List.getElem_mem hlt)
    have hw : wrap64 ((i : Int) + 1) = ((i + 1 : Nat) : Int) := by rw [w64 (by omega) (by omega)]; omega
    rw [List.drop_eq_getElem_cons hlt, List.foldl_cons, List.foldl_cons] at H
    refine Ev.step (fun k => by rw [impl_LineForced.l0]) (Ev.ifp (by omega) (Ev.ifp (by omega) (Ev.ifp (by simp; omega) ?_)))
    rw [rd_nat _ i (by simpa using hlt), List.getElem_map, hw, and_n a _ ha (by omega), or_n o _ ho (by omega)]
    exact ih (i + 1) _ _ (by omega) (Nat.lt_of_le_of_lt Nat.and_le_left ha) (Nat.or_lt_two_pow (n := 10) ho (by omega)) H
theorem impl_forced_out (n a o : Nat) (ha : a < 1024) (ho : o < 1024) (hn : n ≤ 60) (F : List Int) (hF : F.length = n)
    (hg : ∀ j (h : j < F.length), F[j] = if a.testBit j then 1 else if o.testBit j then -1 else 0) : ∀ (d i : Nat), n = i + d →
    Ev (fun k => impl_LineForced.l1 k a o (F.take i ++ List.replicate (n - i) 0) n i) (F, true) := by
  intro d
  induction d with
  | zero =>
    intro i hi
    refine Ev.step (fun k => by rw [impl_LineForced.l1]) (Ev.ifn (by omega) (Ev.eq (Ev.now _) ?_))
    rw [List.take_of_length_le (by omega), show n - i = 0 by omega]; simp
  | succ d ih =>
    intro i hi
    have hlt : i < F.length := by omega
    have hw : wrap64 ((i : Int) + 1) = ((i + 1 : Nat) : Int) := by rw [w64 (by omega) (by omega)]; omega
    have hlen : (F.take i ++ List.replicate (n - i) (0 : Int)).length = n := by simp; omega
    have hrep : List.replicate (n - i) (0 : Int) = 0 :: List.replicate (n - (i + 1)) 0 := by
      rw [show n - i = (n - (i + 1)) + 1 by omega]; rfl
    have hset : ∀ v : Int, (F.take i ++ List.replicate (n - i) (0 : Int)).set i v = F.take i ++ [v] ++ List.replicate (n - (i + 1)) 0 := by
      intro v
      rw [List.set_append_right _ _ (by rw [List.length_take]; omega), hrep]
      simp [show i - min i F.length = 0 by omega]
    have hnext := ih (i + 1) (by omega)
    rw [List.take_succ_eq_append_getElem hlt] at hnext
    have hgi := hg i hlt
    refine Ev.step (fun k => by rw [impl_LineForced.l1]) (Ev.ifp (by omega) (Ev.ifp (by omega) ?_))
    rw [bit_eqI a i (by omega) (by omega), bit_eqI o i (by omega) (by omega), hw, Int.toNat_natCast, hset, hset]
    unfold bitI
    cases ca : a.testBit i
    · refine Ev.ifn (by simp) ?_
      cases co : o.testBit i
      · refine Ev.ifn (by simp) ?_
        rw [ca, co] at hgi
        simp only [Bool.false_eq_true, if_false] at hgi
        rw [hgi] at hnext
        rw [hrep]
        simpa using hnext
      · refine Ev.ifp (by simp) (Ev.ifp (by omega) ?_)
        rw [ca, co] at hgi
        simp only [Bool.false_eq_true, if_false, if_true] at hgi
        rw [hgi] at hnext
        exact hnext
    · refine Ev.ifp (by simp) (Ev.ifp (by omega) ?_)
      rw [ca] at hgi
      simp only [if_true] at hgi
      rw [hgi] at hnext
      exact hnext
theorem impl_forced (clue kn : List Int) (h1 : clue.length ≤ 1000000000) (h2 : kn.length ≤ 1000000000) : Ev (fun k => impl_LineForced.f k clue kn) (forcedV clue kn) := by
  have no : ∀ b : Bool, b = true → ¬ (knownV kn = true ∧ clueV clue kn.length = true) → Ev (fun k => impl_LineForced.j0 k clue kn b) (forcedV clue kn) := by
    intro b hb h
    exact Ev.step (fun k => by rw [impl_LineForced.j0]) (Ev.ifp hb (Ev.eq (Ev.now _) (by unfold forcedV; rw [if_neg h])))
  unfold impl_LineForced.f
  refine Ev.bind (impl_known kn (by omega)) ?_
  by_cases c1 : knownV kn = true
  · refine Ev.ifp c1 (Ev.bind (impl_clue clue _ (by omega)) ?_)
    by_cases c2 : clueV clue kn.length = true
    · have hv := knownV_ok c1
      have hp := pow_le _ hv.2.1
      have hl : (LF clue kn).length ≤ 256 := by have := LFr_len clue kn 0 (2 ^ kn.length); unfold LF; omega
      refine Ev.step (fun k => by rw [impl_LineForced.j0]) (Ev.ifn (by rw [c2]; decide) (Ev.bind (impl_linesFor_ev clue kn hv.2.1) ?_))
      unfold forcedV
      rw [if_pos ⟨c1, c2⟩]
      by_cases c3 : LF clue kn = []
      · rw [if_pos c3]
        refine Ev.ifp (by rw [c3]; rfl) (Ev.bindc (a := kn) ?_ (Ev.now _))
        unfold slices_Clone_int_int.f
        simp only [Option.bind_some, List.length_nil, List.nil_append]
        rw [if_pos (by omega)]
      · rw [if_neg c3]
        obtain ⟨m0, ms, hms⟩ := List.exists_cons_of_ne_nil c3
        have hlt : ∀ m ∈ LF clue kn, m < 256 := fun m hm => LF_lt hv.2.1 hm
        refine Ev.ifn (by simp [hms]; omega) ?_
        generalize hL : LF clue kn = L at hms hlt hl
        have hm0 : m0 < 256 := hlt m0 (by rw [hms]; exact List.mem_cons_self)
        have hpos : 0 < L.length := by rw [hms]; simp
        have h0 : L[0] = m0 := by simp [hms]
        rw [List.length_map]
        refine Ev.step (fun k => by rw [impl_LineForced.l0]) (Ev.ifp (by omega) (Ev.ifp (by omega) (Ev.ifp (by simp; omega) ?_)))
        have e0 : rd (L.map (fun x : Nat => (x : Int))) 0 = (m0 : Int) := by
          have := rd_nat (L.map (fun x : Nat => (x : Int))) 0 (by simpa using hpos)
          rw [List.getElem_map, h0] at this
          exact this
        rw [e0, and_neg1 m0 (by omega), show Go.bits .or .i64 0 (m0 : Int) = (m0 : Int) from by have := or_n 0 m0 (by omega) (by omega); simpa using this,
          show wrap64 ((0 : Int) + 1) = ((1 : Nat) : Int) from by rw [w64 (by omega) (by omega)]; rfl]
        refine impl_forced_fold kn L hlt (by omega) _ (L.length - 1) 1 m0 m0 (by omega) (by omega) (by omega) ?_
        have hfl := fold_lt (L.drop 1) m0 (by omega) (fun m hm => hlt m (List.mem_of_mem_drop hm))
        refine Ev.step (fun k => by rw [impl_LineForced.l0]) (Ev.ifn (by omega) (Ev.ifp (by omega) (Ev.ifp (by omega) (Ev.bindc rfl ?_))))
        have hd : L.drop 1 = ms := by rw [hms]; rfl
        rw [hd] at hfl ⊢
        have := impl_forced_out kn.length _ _ hfl.1 hfl.2 (by omega) ((List.range kn.length).map (cls L)) (by simp) (fun j hj => by
          rw [List.getElem_map, List.getElem_range, fold_and_bit, fold_or_bit]
          unfold cls
          rw [hms, List.all_cons, List.all_cons]
          have hna : ∀ l : List Nat, l.all (fun m => !m.testBit j) = !l.any (fun m => m.testBit j) := fun l => by
            induction l with
            | nil => rfl
            | cons x l ih => rw [List.all_cons, List.any_cons, ih, Bool.not_or]
          rw [hna]
          cases m0.testBit j <;> cases hA : ms.all (fun m => m.testBit j) <;> cases hB : ms.any (fun m => m.testBit j) <;> simp) kn.length 0 (by omega)
        simpa using this
    · exact no _ (by simpa using c2) (fun h => c2 h.2)
  · exact Ev.ifn c1 (no _ rfl (fun h => c1 h.1))
theorem fitD_iff (m : Nat) : ∀ (ks : List Int) (a : Nat), fitD m a ks = true ↔ ∀ j (h : j < ks.length), ks[j] < 0 ∨ ks[j] = bitI m (a + j) := by
  intro ks
  induction ks with
  | nil => intro a; simp [fitD]
  | cons k ks ih =>
    intro a
    simp only [fitD, Bool.and_eq_true, Bool.or_eq_true, decide_eq_true_eq, beq_iff_eq]
    rw [ih]
    constructor
    · rintro ⟨h0, h1⟩ j hj
      cases j with
      | zero => simpa using h0
      | succ j =>
        have := h1 j (by simpa using hj)
        simpa [Nat.add_assoc, Nat.add_comm 1 j] using this
    · intro h
      refine ⟨by have h0 := h 0 (by simp); rw [Nat.add_zero] at h0; exact h0, fun j hj => ?_⟩
      have := h (j + 1) (by simpa using hj)
      simpa [Nat.add_assoc, Nat.add_comm 1 j] using this
theorem countP_split {α : Type} (p q r : α → Bool) (h : ∀ x, p x = (q x || r x)) (h2 : ∀ x, (q x && r x) = false) : ∀ l : List α, l.countP p = l.countP q + l.countP r := by
  intro l
  induction l with
  | nil => rfl
  | cons x l ih =>
    rw [List.countP_cons, List.countP_cons, List.countP_cons, ih, h x]
    have := h2 x
    cases hq : q x <;> cases hr : r x <;> simp_all <;> omega
theorem LF_length (clue kn : List Int) : (LF clue kn).length = (List.range' 0 (2 ^ kn.length)).countP (isLine clue kn) := by
  unfold LF LFr
  rw [List.countP_eq_length_filter]
theorem bitI_01 (m j : Nat) : bitI m j = 0 ∨ bitI m j = 1 := by unfold bitI; split <;> simp
theorem isLine_split (clue kn : List Int) (i : Nat) (hi : i < kn.length) (hk : kn[i] = -1) (m : Nat) :
    isLine clue kn m = (isLine clue (kn.set i 0) m || isLine clue (kn.set i 1) m) ∧ (isLine clue (kn.set i 0) m && isLine clue (kn.set i 1) m) = false := by
  have hf : ∀ v : Int, 0 ≤ v → (fitD m 0 (kn.set i v) = true ↔ fitD m 0 kn = true ∧ v = bitI m i) := by
    intro v hv
    rw [fitD_iff, fitD_iff]
    constructor
    · intro h
      refine ⟨fun j hj => ?_, ?_⟩
      · by_cases c : i = j
        · subst c; left; omega
        · have := h j (by simpa using hj)
          rw [List.getElem_set_ne c] at this
          exact this
      · have := h i (by simpa using hi)
        rw [List.getElem_set_self] at this
        rw [Nat.zero_add] at this
        omega
    · rintro ⟨h, hv2⟩ j hj
      by_cases c : i = j
      · subst c; right; rw [List.getElem_set_self, Nat.zero_add]; exact hv2
      · rw [List.getElem_set_ne c]
        exact h j (by simpa using hj)
  have h0 := hf 0 (by omega)
  have h1 := hf 1 (by omega)
  unfold isLine
  rw [List.length_set, List.length_set]
  rcases bitI_01 m i with hb | hb
  · have a0 : fitD m 0 (kn.set i 0) = fitD m 0 kn := by rw [Bool.eq_iff_iff, h0, hb]; simp
    have a1 : fitD m 0 (kn.set i 1) = false := by rw [Bool.eq_false_iff, ne_eq, h1, hb]; simp
    rw [a0, a1]; simp
  · have a0 : fitD m 0 (kn.set i 0) = false := by rw [Bool.eq_false_iff, ne_eq, h0, hb]; simp
    have a1 : fitD m 0 (kn.set i 1) = fitD m 0 kn := by rw [Bool.eq_iff_iff, h1, hb]; simp
    rw [a0, a1]; simp
theorem knownV_set {kn : List Int} (h : knownV kn = true) (i : Nat) (v : Int) (hv : -1 ≤ v ∧ v ≤ 1) : knownV (kn.set i v) = true := by
  have hk := knownV_ok h
  unfold knownV
  simp only [Bool.and_eq_true, decide_eq_true_eq, List.all_eq_true, List.length_set]
  refine ⟨fun x hx => ?_, by omega⟩
  rcases List.mem_or_eq_of_mem_set hx with h' | h'
  · exact hk.2.2 x h'
  · subst h'; exact hv
theorem ways_split (clue kn : List Int) (h : knownV kn = true) (hc : clueV clue kn.length = true) (i : Nat) (hi : i < kn.length) (hk : kn[i] = -1) :
    waysV clue (kn.set i 0) + waysV clue (kn.set i 1) = waysV clue kn := by
  unfold waysV
  rw [List.length_set, List.length_set, if_pos ⟨knownV_set h i 0 (by omega), hc⟩, if_pos ⟨knownV_set h i 1 (by omega), hc⟩, if_pos ⟨h, hc⟩]
  rw [LF_length, LF_length, LF_length, List.length_set, List.length_set]
  rw [countP_split (isLine clue kn) _ _ (fun m => (isLine_split clue kn i hi hk m).1) (fun m => (isLine_split clue kn i hi hk m).2)]
  omega
theorem bits_eq {n a b : Nat} (ha : a < 2 ^ n) (hb : b < 2 ^ n) (h : ∀ j, j < n → a.testBit j = b.testBit j) : a = b := by
  apply Nat.eq_of_testBit_eq
  intro j
  by_cases c : j < n
  · exact h j c
  · have hp : 2 ^ n ≤ 2 ^ j := Nat.pow_le_pow_right (by omega) (by omega)
    rw [Nat.testBit_lt_two_pow (by omega), Nat.testBit_lt_two_pow (by omega)]
theorem LF_mem {clue kn : List Int} {m : Nat} : m ∈ LF clue kn ↔ m < 2 ^ kn.length ∧ isLine clue kn m = true := by
  unfold LF LFr
  rw [List.mem_filter, List.mem_range'_1]
  constructor
  · rintro ⟨⟨_, h⟩, h2⟩; exact ⟨by omega, h2⟩
  · rintro ⟨h, h2⟩; exact ⟨⟨by omega, by omega⟩, h2⟩
theorem bitI_inj {a b j : Nat} (h : bitI a j = bitI b j) : a.testBit j = b.testBit j := by
  unfold bitI at h
  cases ha : a.testBit j <;> cases hb : b.testBit j <;> simp [ha, hb] at h ⊢
theorem LF_one {clue kn : List Int} (hk : ∀ j (h : j < kn.length), 0 ≤ kn[j]) {a b : Nat} (ha : a ∈ LF clue kn) (hb : b ∈ LF clue kn) : a = b := by
  rw [LF_mem] at ha hb
  unfold isLine at ha hb
  simp only [Bool.and_eq_true] at ha hb
  have fa := (fitD_iff a kn 0).1 ha.2.1
  have fb := (fitD_iff b kn 0).1 hb.2.1
  refine bits_eq ha.1 hb.1 (fun j hj => ?_)
  have := fa j hj
  have := fb j hj
  have := hk j hj
  rw [Nat.zero_add] at *
  exact bitI_inj (by omega)
theorem LF_nodup (clue kn : List Int) : (LF clue kn).Nodup := by
  unfold LF LFr
  exact List.Pairwise.filter _ List.nodup_range'
theorem LF_le_one {clue kn : List Int} (hk : ∀ j (h : j < kn.length), 0 ≤ kn[j]) : (LF clue kn).length ≤ 1 := by
  have hn := LF_nodup clue kn
  match hL : LF clue kn with
  | [] => simp
  | [a] => simp
  | a :: b :: l =>
    rw [hL] at hn
    have : a = b := LF_one hk (by rw [hL]; simp) (by rw [hL]; simp)
    simp [this] at hn
theorem forcedV_len (clue kn : List Int) : (forcedV clue kn).1.length ≤ kn.length := by
  unfold forcedV
  split
  · split <;> simp
  · simp
theorem cls_range (L : List Nat) (j : Nat) : -1 ≤ cls L j ∧ cls L j ≤ 1 := by
  unfold cls; split
  · omega
  · split <;> omega
theorem cls_fits {L : List Nat} {m : Nat} (hm : m ∈ L) (j : Nat) : cls L j < 0 ∨ cls L j = bitI m j := by
  unfold cls
  by_cases c1 : L.all (fun m => !m.testBit j) = true
  · rw [if_pos c1]
    have := List.all_eq_true.1 c1 m hm
    right; unfold bitI
    cases hb : m.testBit j <;> simp [hb] at this ⊢
  · rw [if_neg c1]
    by_cases c2 : L.all (fun m => m.testBit j) = true
    · rw [if_pos c2]
      have := List.all_eq_true.1 c2 m hm
      right; unfold bitI; simp [this]
    · rw [if_neg c2]; left; omega
/-- What was known stays known. -/
theorem cls_keeps {clue kn : List Int} (hne : LF clue kn ≠ []) (j : Nat) (hj : j < kn.length) (hx : 0 ≤ kn[j]) : cls (LF clue kn) j = kn[j] := by
  have hb : ∀ m ∈ LF clue kn, kn[j] = bitI m j := fun m hm => by
    rw [LF_mem] at hm
    unfold isLine at hm
    simp only [Bool.and_eq_true] at hm
    have := (fitD_iff m kn 0).1 hm.2.1 j hj
    rw [Nat.zero_add] at this
    omega
  obtain ⟨m0, ms, hms⟩ := List.exists_cons_of_ne_nil hne
  have h0 := hb m0 (by rw [hms]; exact List.mem_cons_self)
  have := cls_fits (L := LF clue kn) (m := m0) (by rw [hms]; exact List.mem_cons_self) j
  rcases this with h1 | h1
  · exfalso
    unfold cls at h1
    rcases bitI_01 m0 j with hz | hz
    · have : (LF clue kn).all (fun m => !m.testBit j) = true := List.all_eq_true.2 (fun m hm => by
        have := hb m hm
        rw [h0, hz] at this
        unfold bitI at this
        cases hB : m.testBit j <;> simp [hB] at this ⊢)
      rw [if_pos this] at h1; omega
    · have h2 : (LF clue kn).all (fun m => m.testBit j) = true := List.all_eq_true.2 (fun m hm => by
        have := hb m hm
        rw [h0, hz] at this
        unfold bitI at this
        cases hB : m.testBit j <;> simp [hB] at this ⊢)
      split at h1 <;> omega
  · rw [h1, h0]
theorem isLine_cls (clue kn : List Int) (hne : LF clue kn ≠ []) (m : Nat) (hm : m < 2 ^ kn.length) :
    isLine clue ((List.range kn.length).map (cls (LF clue kn))) m = isLine clue kn m := by
  have hl : ((List.range kn.length).map (cls (LF clue kn))).length = kn.length := by simp
  rw [Bool.eq_iff_iff]
  constructor
  · intro h
    unfold isLine at h ⊢
    rw [hl] at h
    simp only [Bool.and_eq_true] at h ⊢
    refine ⟨?_, h.2⟩
    rw [fitD_iff] at h ⊢
    intro j hj
    have h1 := h.1 j (by rw [hl]; exact hj)
    rw [List.getElem_map, List.getElem_range, Nat.zero_add] at h1
    by_cases c : kn[j] < 0
    · exact .inl c
    · have := cls_keeps hne j hj (by omega)
      rw [Nat.zero_add]
      right; omega
  · intro h
    have hmem : m ∈ LF clue kn := LF_mem.2 ⟨hm, h⟩
    unfold isLine at h ⊢
    rw [hl]
    simp only [Bool.and_eq_true] at h ⊢
    refine ⟨?_, h.2⟩
    rw [fitD_iff]
    intro j hj
    rw [List.getElem_map, List.getElem_range, Nat.zero_add]
    exact cls_fits hmem j
theorem LF_cls (clue kn : List Int) (hne : LF clue kn ≠ []) : LF clue ((List.range kn.length).map (cls (LF clue kn))) = LF clue kn := by
  have hl : ((List.range kn.length).map (cls (LF clue kn))).length = kn.length := by simp
  show (List.range' 0 (2 ^ ((List.range kn.length).map (cls (LF clue kn))).length)).filter _ = (List.range' 0 (2 ^ kn.length)).filter _
  rw [hl]
  apply List.filter_congr
  intro m hm
  rw [List.mem_range'_1] at hm
  exact isLine_cls clue kn hne m (by omega)
theorem knownV_cls (L : List Nat) (n : Nat) (h : 1 ≤ n ∧ n ≤ 8) : knownV ((List.range n).map (cls L)) = true := by
  unfold knownV
  simp only [Bool.and_eq_true, decide_eq_true_eq, List.all_eq_true, List.length_map, List.length_range]
  refine ⟨fun x hx => ?_, by omega⟩
  obtain ⟨j, _, rfl⟩ := List.mem_map.1 hx
  exact cls_range L j
theorem forced_again (clue kn : List Int) : (forcedV clue kn).2 = true → forcedV clue (forcedV clue kn).1 = forcedV clue kn := by
  intro h
  unfold forcedV at h
  split at h
  · rename_i hv
    split at h
    · cases h
    · rename_i hne
      have e : forcedV clue kn = ((List.range kn.length).map (cls (LF clue kn)), true) := by
        unfold forcedV; rw [if_pos hv, if_neg hne]
      rw [e]
      have hk := knownV_ok hv.1
      have hl : ((List.range kn.length).map (cls (LF clue kn))).length = kn.length := by simp
      have hL := LF_cls clue kn hne
      show forcedV clue ((List.range kn.length).map (cls (LF clue kn))) = _
      unfold forcedV
      rw [if_pos ⟨knownV_cls _ _ ⟨hk.1, hk.2.1⟩, by rw [hl]; exact hv.2⟩, hL, if_neg hne, hl]
  · cases h
theorem spec_clueof_end (l : List Bool) (out : List Int) (run : Int) (h8 : l.length ≤ 8) : Ev (fun k => spec_ClueOf.l0 k l out run ((l.length + 1 : Nat) : Int)) out := by
  refine Ev.step (fun k => by rw [spec_ClueOf.l0]) (Ev.ifn (by omega) ?_)
  exact Ev.step (fun k => by rw [spec_ClueOf.j1]) (Ev.ifn (by decide) (Ev.now _))
theorem spec_clueof_l (l : List Bool) (h8 : l.length ≤ 8) : ∀ (d i : Nat) (run : Int) (out : List Int), l.length = i + d → 0 ≤ run → run ≤ i → out.length ≤ i →
    Ev (fun k => spec_ClueOf.l0 k l out run i) (out ++ clueR run (l.drop i)) := by
  intro d
  induction d with
  | zero =>
    intro i run out hi h0 h1 h2
    have hw : wrap64 ((i : Int) + 1) = ((l.length + 1 : Nat) : Int) := by rw [w64 (by omega) (by omega)]; omega
    refine Ev.step (fun k => by rw [spec_ClueOf.l0]) (Ev.ifp (by omega) ?_)
    refine Ev.step (fun k => by rw [spec_ClueOf.j1]) (Ev.ifp (by simp; omega) (Ev.ifn (by omega) ?_))
    refine Ev.step (fun k => by rw [spec_ClueOf.j2]) (Ev.ifn (by decide) ?_)
    rw [hw, List.drop_eq_nil_of_le (by omega)]
    by_cases c : run > 0
    · refine Ev.ifp c (Ev.ifp (by omega) (Ev.eq (spec_clueof_end l _ _ h8) ?_))
      simp [clueR, show 0 < run from c]
    · refine Ev.ifn c (Ev.eq (spec_clueof_end l _ _ h8) ?_)
      have : ¬ 0 < run := c
      simp [clueR, this]
  | succ d ih =>
    intro i run out hi h0 h1 h2
    have hlt : i < l.length := by omega
    have hw : wrap64 ((i : Int) + 1) = ((i + 1 : Nat) : Int) := by rw [w64 (by omega) (by omega)]; omega
    refine Ev.step (fun k => by rw [spec_ClueOf.l0]) (Ev.ifp (by omega) ?_)
    refine Ev.step (fun k => by rw [spec_ClueOf.j1]) (Ev.ifp (by simp; omega) (Ev.ifp (by omega) (Ev.ifp (by omega) ?_)))
    refine Ev.step (fun k => by rw [spec_ClueOf.j2]) ?_
    rw [hw, rdOf_nat l i hlt, List.drop_eq_getElem_cons hlt]
    cases hb : l[i]
    · refine Ev.ifn (by decide) ?_
      by_cases c : run > 0
      · refine Ev.ifp c (Ev.ifp (by omega) (Ev.eq (ih (i + 1) 0 (out ++ [run]) (by omega) (by omega) (by omega) (by simp; omega)) ?_))
        simp [clueR, show 0 < run from c]
      · have hr : run = 0 := by omega
        refine Ev.ifn c (Ev.eq (ih (i + 1) run out (by omega) (by omega) (by omega) (by omega)) ?_)
        simp [clueR, hr]
    · refine Ev.ifp rfl ?_
      rw [w64 (x := run + 1) (by omega) (by omega)]
      refine Ev.eq (ih (i + 1) (run + 1) out (by omega) (by omega) (by omega) (by omega)) ?_
      simp [clueR]
theorem spec_clueof (l : List Bool) (hl : l.length ≤ 140737488351232) : Ev (fun k => spec_ClueOf.f k l) (clueL l) := by
  unfold spec_ClueOf.f clueL
  by_cases h8 : l.length ≤ 8
  · exact Ev.eq (spec_clueof_l l h8 l.length 0 0 [] (by omega) (by omega) (by omega) (by simp)) (by rw [if_pos h8]; simp)
  · refine Ev.step (fun k => by rw [spec_ClueOf.l0]) (Ev.ifp (by omega) ?_)
    exact Ev.step (fun k => by rw [spec_ClueOf.j1]) (Ev.ifn (by simp; omega) (Ev.eq (Ev.now _) (by rw [if_neg h8])))
/-- A line with a clue. -/
def mkLine : List Int → Nat → List Bool
  | [], n => List.replicate n false
  | c :: cs, n => List.replicate c.toNat true ++ (if c.toNat < n then false :: mkLine cs (n - c.toNat - 1) else [])
theorem clueR_rep : ∀ (c : Nat) (r : Int) (l : List Bool), clueR r (List.replicate c true ++ l) = clueR (r + c) l := by
  intro c
  induction c with
  | zero => intro r l; simp
  | succ c ih =>
    intro r l
    rw [List.replicate_succ, List.cons_append]
    simp only [clueR]
    rw [ih]
    congr 1
    omega
theorem clueR_false : ∀ (n : Nat), clueR 0 (List.replicate n false) = [] := by
  intro n
  induction n with
  | zero => simp [clueR]
  | succ n ih => rw [List.replicate_succ]; simp [clueR, ih]
theorem mkLine_ok : ∀ (cs : List Int) (n : Nat), cs.all (fun x => decide (1 ≤ x)) = true → csum cs ≤ n + 1 → (mkLine cs n).length = n ∧ clueR 0 (mkLine cs n) = cs := by
  intro cs
  induction cs with
  | nil => intro n _ _; exact ⟨by simp [mkLine], clueR_false n⟩
  | cons c cs ih =>
    intro n h1 h2
    simp only [List.all_cons, Bool.and_eq_true, decide_eq_true_eq] at h1
    have hn := csum_nn cs h1.2
    simp only [csum] at h2
    simp only [mkLine]
    by_cases hlt : c.toNat < n
    · rw [if_pos hlt]
      have g := ih (n - c.toNat - 1) h1.2 (by omega)
      refine ⟨by simp [g.1]; omega, ?_⟩
      rw [clueR_rep]
      simp only [clueR]
      rw [if_pos (by omega), g.2]
      congr 1
      omega
    · rw [if_neg hlt]
      have hc : cs = [] := by
        cases cs with
        | nil => rfl
        | cons x xs => simp at hn; omega
      subst hc
      refine ⟨by simp [csum] at h2 ⊢; omega, ?_⟩
      rw [clueR_rep]
      simp only [clueR]
      rw [if_pos (by omega)]
      congr 1
      omega
/-- The number of a line. -/
def toN : List Bool → Nat
  | [] => 0
  | b :: l => 2 * toN l + (if b then 1 else 0)
theorem toN_bit : ∀ (l : List Bool) (i : Nat) (h : i < l.length), (toN l).testBit i = l[i] := by
  intro l
  induction l with
  | nil => intro i h; simp at h
  | cons b l ih =>
    intro i h
    cases i with
    | zero =>
      rw [Nat.testBit_zero]
      cases b <;> simp [toN] <;> omega
    | succ i =>
      rw [Nat.testBit_succ]
      have e : toN (b :: l) / 2 = toN l := by cases b <;> simp [toN] <;> omega
      rw [e]
      simpa using ih i (by simpa using h)
theorem toN_lt : ∀ (l : List Bool), toN l < 2 ^ l.length := by
  intro l
  induction l with
  | nil => simp [toN]
  | cons b l ih =>
    simp only [toN, List.length_cons, Nat.pow_succ]
    cases b <;> simp <;> omega
theorem lineN_toN (l : List Bool) : lineN (toN l) l.length = l := by
  apply List.ext_getElem
  · exact lineN_length _ _
  · intro i h1 h2
    rw [lineN_get, toN_bit l i h2]
theorem fit_free (m n : Nat) : fitD m 0 (List.replicate n (-1)) = true := by
  rw [fitD_iff]
  intro j hj
  left
  simp
theorem LF_free {clue : List Int} {n : Nat} (h8 : n ≤ 8) (h : clueV clue n = true) : LF clue (List.replicate n (-1)) ≠ [] := by
  unfold clueV at h
  simp only [Bool.and_eq_true, decide_eq_true_eq] at h
  have g := mkLine_ok clue n h.2.1 h.2.2
  have hm : toN (mkLine clue n) ∈ LF clue (List.replicate n (-1)) := by
    rw [LF_mem]
    have h1 := toN_lt (mkLine clue n)
    rw [g.1] at h1
    have h2 := lineN_toN (mkLine clue n)
    rw [g.1] at h2
    refine ⟨by simpa using h1, ?_⟩
    unfold isLine
    rw [fit_free, List.length_replicate, h2]
    unfold clueL
    rw [g.1, if_pos h8, g.2]; simp
  exact List.ne_nil_of_mem hm
def onesL (l : List Bool) : Int := (l.countP id : Nat)
theorem onesL_cons (b : Bool) (l : List Bool) : onesL (b :: l) = onesL l + if b = true then 1 else 0 := by
  unfold onesL
  cases b <;> simp
theorem isum_clue : ∀ (l : List Bool) (r : Int), 0 ≤ r → isum (clueR r l) = r + onesL l := by
  intro l
  induction l with
  | nil =>
    intro r hr
    by_cases h : 0 < r
    · simp [clueR, h, isum, onesL]
    · simp [clueR, h, isum, onesL]; omega
  | cons b l ih =>
    intro r hr
    rw [onesL_cons]
    cases b
    · have := ih 0 (by omega)
      by_cases h : 0 < r
      · simp only [clueR, h, if_true, isum]; simp; omega
      · simp only [clueR, h, if_false]; simp; omega
    · have := ih (r + 1) (by omega)
      simp only [clueR]; simp; omega
theorem csum_clue : ∀ (l : List Bool) (r : Int), 0 ≤ r → csum (clueR r l) ≤ r + l.length + 1 := by
  intro l
  induction l with
  | nil =>
    intro r hr
    by_cases h : 0 < r
    · simp [clueR, h, csum]
    · simp [clueR, h, csum]; omega
  | cons b l ih =>
    intro r hr
    cases b
    · have := ih 0 (by omega)
      by_cases h : 0 < r
      · simp only [clueR, h, if_true, csum, List.length_cons]; omega
      · simp only [clueR, h, if_false, List.length_cons]; omega
    · have := ih (r + 1) (by omega)
      simp only [clueR, List.length_cons]; omega
theorem clueV_of (l : List Bool) (h1 : 1 ≤ l.length) (h8 : l.length ≤ 8) : clueV (clueL l) l.length = true := by
  unfold clueV clueL
  rw [if_pos h8]
  simp only [Bool.and_eq_true, decide_eq_true_eq, List.all_eq_true]
  refine ⟨by omega, fun x hx => (clueR_le l 0 (by omega) x hx).1, ?_⟩
  have := csum_clue l 0 (by omega)
  omega
theorem clueR_sep : ∀ (m : List Bool) (s : Int) (t : List Bool), clueR s (m ++ false :: t) = clueR s m ++ clueR 0 t := by
  intro m
  induction m with
  | nil =>
    intro s t
    by_cases h : 0 < s <;> simp [clueR, h]
  | cons b m ih =>
    intro s t
    cases b
    · simp only [List.cons_append, clueR, ih]
      by_cases h : 0 < s <;> simp [h]
    · simp only [List.cons_append, clueR, ih]
theorem clueR_turn : ∀ (l : List Bool) (r : Nat), clueR 0 (l.reverse ++ List.replicate r true) = (clueR (r : Int) l).reverse := by
  intro l
  induction l with
  | nil =>
    intro r
    have h := clueR_rep r 0 []
    rw [List.append_nil, Int.zero_add] at h
    rw [List.reverse_nil, List.nil_append, h]
    simp only [clueR]
    split <;> simp
  | cons b l ih =>
    intro r
    cases b
    · have h := clueR_rep r 0 []
      rw [List.append_nil, Int.zero_add] at h
      have h2 := ih 0
      rw [List.replicate_zero, List.append_nil] at h2
      rw [List.reverse_cons, List.append_assoc, List.singleton_append, clueR_sep, h, h2]
      simp only [clueR, Int.natCast_zero]
      split <;> simp
    · have h := ih (r + 1)
      rw [List.replicate_succ] at h
      rw [List.reverse_cons, List.append_assoc, List.singleton_append, h]
      simp [clueR]
theorem clueL_rev (l : List Bool) (h8 : l.length ≤ 8) : clueL l.reverse = (clueL l).reverse := by
  unfold clueL
  rw [List.length_reverse, if_pos h8, if_pos h8]
  have h := clueR_turn l 0
  rw [List.replicate_zero, List.append_nil] at h
  exact h
theorem isum_drop (x : List Int) (i : Nat) (h : i < x.length) : isum (x.drop i) = x[i] + isum (x.drop (i + 1)) := by
  rw [List.drop_eq_getElem_cons h]; rfl
theorem isum_nn : ∀ c : List Int, (∀ x ∈ c, 1 ≤ x) → 0 ≤ isum c
  | [], _ => by simp [isum]
  | x :: c, h => by
    have h1 := h x List.mem_cons_self
    have h2 := isum_nn c (fun y hy => h y (List.mem_cons_of_mem _ hy))
    simp only [isum]; omega
/-! The reader of draws: only that each number drawn lies in its range. -/
structure Byts (b : List Int) : Prop where
  len : b.length ≤ 2000
  val : ∀ x ∈ b, 0 ≤ x ∧ x ≤ 255
theorem xor_nn {a b : Int} (ha : 0 ≤ a) (ha1 : a < 4611686018427387904) (hb : 0 ≤ b) (hb1 : b < 4611686018427387904) : 0 ≤ Go.bits .xor .i64 a b := by
  obtain ⟨m, rfl⟩ := Int.eq_ofNat_of_zero_le ha
  obtain ⟨n, rfl⟩ := Int.eq_ofNat_of_zero_le hb
  have h : (m ^^^ n) < 2 ^ 62 := Nat.xor_lt_two_pow (by omega) (by omega)
  have hm : m % 2 ^ IntKind.i64.bits = m := Nat.mod_eq_of_lt (show m < 2 ^ 64 by omega)
  have hn : n % 2 ^ IntKind.i64.bits = n := Nat.mod_eq_of_lt (show n < 2 ^ 64 by omega)
  simp only [Go.bits, BitVec.ofInt_natCast, BitVec.toNat_xor, BitVec.toNat_ofNat, hm, hn]
  rw [IntKind.wrap_i64]
  omega
theorem open_ok (l : List Int) (h : l.length ≤ maxLen) (hb : ∀ x ∈ l, (Lit.int .u8 x).wf = true) : ∃ b, spec_l20Open.f l = some (b, 0) ∧ Byts b := by
  unfold spec_l20Open.f
  by_cases c : (l.length : Int) > 2000
  · rw [if_pos c, if_pos (by omega)]
    exact ⟨_, rfl, by rw [List.length_take]; omega, fun x hx => wf_u8 (hb x (List.mem_of_mem_take hx))⟩
  · rw [if_neg c]
    exact ⟨_, rfl, by omega, fun x hx => wf_u8 (hb x hx)⟩
theorem pick_any {b : List Int} (hb : Byts b) {p : Int} (hp : 0 ≤ p) (hp1 : p ≤ 1000000) (n : Int) (hn1 : n ≤ 9223372036854775807) :
    ∃ r, Ev (fun k => spec_l20Rd_pick.f k b p n) (r, p + 1) ∧ 0 ≤ r ∧ (1 ≤ n → r < n) ∧ (n < 1 → r = 0) := by
  have hw : wrap64 (p + 1) = p + 1 := w64 (by omega) (by omega)
  have hw2 : wrap64 (p + 1 - 1) = p := by rw [w64 (by omega) (by omega)]; omega
  have hl := hb.len
  unfold spec_l20Rd_pick.f
  by_cases c : n < 1
  · refine ⟨0, Ev.ifp c (Ev.step (f := fun _ => some (0, p + 1)) (fun k => ?_) (Ev.now _)), by omega, by omega, fun _ => rfl⟩
    rw [spec_l20Rd_pick.j0]; rw [if_pos rfl, hw]
  · by_cases c0 : b.length = 0
    · refine ⟨0, Ev.ifn c (Ev.step (f := fun _ => some (0, p + 1)) (fun k => ?_) (Ev.now _)), by omega, by omega, fun _ => rfl⟩
      rw [spec_l20Rd_pick.j0]
      rw [c0, if_pos (by decide), hw]
    · have c0' : ((b.length : Int) == 0) = false := by simp; intro h; simp [h] at c0
      by_cases c1 : p < (b.length : Int)
      · have hm := hb.val _ (rd_mem b p hp c1)
        refine ⟨Int.tmod (rd b p) n, Ev.ifn c (Ev.step (f := fun _ => some (Int.tmod (rd b p) n, p + 1)) (fun k => ?_) (Ev.now _)), Int.tmod_nonneg _ hm.1, fun h => Int.tmod_lt_of_pos _ (by omega), fun h => absurd h c⟩
        rw [spec_l20Rd_pick.j0]
        rw [c0', if_neg (by decide), hw, hw2, if_pos c1, if_pos hp, if_neg (by omega), w64 (by omega) (by omega)]
      · have hL : (0 : Int) < (b.length : Int) := by omega
        have e1 := Int.tmod_nonneg (b.length : Int) hp
        have e2 := Int.tmod_lt_of_pos p hL
        have k7 : wrap64 (p * 7) = p * 7 := w64 (by omega) (by omega)
        have k73 : wrap64 (p * 7 + 3) = p * 7 + 3 := w64 (by omega) (by omega)
        have e3 := Int.tmod_nonneg (b.length : Int) (show 0 ≤ p * 7 + 3 by omega)
        have e4 := Int.tmod_lt_of_pos (p * 7 + 3) hL
        have m1 := hb.val _ (rd_mem b _ e1 e2)
        have m2 := hb.val _ (rd_mem b _ e3 e4)
        have d0 : Int.tdiv p (b.length : Int) = p / (b.length : Int) := Int.tdiv_eq_ediv_of_nonneg hp
        have d1 : 0 ≤ p / (b.length : Int) := Int.ediv_nonneg hp (by omega)
        have d2 : p / (b.length : Int) ≤ p := Int.ediv_le_self _ hp
        generalize hx1 : rd b (Int.tmod p (b.length : Int)) = x1 at m1
        generalize hx2 : rd b (Int.tmod (p * 7 + 3) (b.length : Int)) = x2 at m2
        generalize hq : p / (b.length : Int) = q at d0 d1 d2
        have hX : 0 ≤ Go.bits .xor .i64 (x1 * 131 + x2 * 1117 + p * 29 + q * 53) ((x1 * 131 + x2 * 1117 + p * 29 + q * 53) / 64) := xor_nn (by omega) (by omega) (by omega) (by omega)
        generalize hR : Go.bits .xor .i64 (x1 * 131 + x2 * 1117 + p * 29 + q * 53) ((x1 * 131 + x2 * 1117 + p * 29 + q * 53) / 64) = X at hX
        refine ⟨Int.tmod X n, Ev.ifn c (Ev.step (f := fun _ => some (Int.tmod X n, p + 1)) (fun k => ?_) (Ev.now _)), Int.tmod_nonneg _ hX, fun h => Int.tmod_lt_of_pos _ (by omega), fun h => absurd h c⟩
        rw [spec_l20Rd_pick.j0]
        rw [c0', if_neg (by decide), hw, hw2, if_neg c1, if_neg (by omega), k7, k73, if_pos e1, if_pos e2, if_pos e3, if_pos e4, if_neg (by omega), hx1, hx2, d0]
        rw [w64 (x := x1) (by omega) (by omega), w64 (x := x2) (by omega) (by omega), w64 (x := q) (by omega) (by omega), w64 (x := x1 * 131) (by omega) (by omega), w64 (x := x2 * 1117) (by omega) (by omega), w64 (x := p * 29) (by omega) (by omega), w64 (x := q * 53) (by omega) (by omega)]
        rw [w64 (x := x1 * 131 + x2 * 1117) (by omega) (by omega), w64 (x := x1 * 131 + x2 * 1117 + p * 29) (by omega) (by omega), w64 (x := x1 * 131 + x2 * 1117 + p * 29 + q * 53) (by omega) (by omega)]
        rw [Int.tdiv_eq_ediv_of_nonneg (by omega), w64 (by omega) (by omega), hR]
theorem odd_any {b : List Int} (hb : Byts b) {p : Int} (hp : 0 ≤ p) (hp1 : p ≤ 1000000) (n : Int) (hn1 : n ≤ 9223372036854775807) :
    ∃ r q, Ev (fun k => spec_l20Rd_odd.f k b p n) (r, q) ∧ p ≤ q ∧ q ≤ p + 1 := by
  unfold spec_l20Rd_odd.f
  by_cases c : n > 0
  · obtain ⟨r, e, _⟩ := pick_any hb hp hp1 n hn1
    exact ⟨_, _, Ev.ifp c (Ev.bind e (Ev.now _)), by omega, by omega⟩
  · exact ⟨_, _, Ev.ifn c (Ev.now _), by omega, by omega⟩
theorem drawLine_l {b : List Int} (hb : Byts b) : ∀ (d : Nat) (out : List Bool) (p : Int), out.length + d ≤ 100 → 0 ≤ p → p ≤ 10000 - d →
    ∃ l q, Ev (fun k => spec_l20Line.l0 k out d b p) (l, q) ∧ l.length = out.length + d ∧ p ≤ q ∧ q ≤ p + d := by
  intro d
  induction d with
  | zero =>
    intro out p ho hp hp1
    exact ⟨out, p, Ev.step (fun k => by rw [spec_l20Line.l0]) (Ev.ifn (by omega) (Ev.now _)), by omega, by omega, by omega⟩
  | succ d ih =>
    intro out p ho hp hp1
    obtain ⟨r, e, _⟩ := pick_any hb hp (by omega) 2 (by omega)
    obtain ⟨l, q, e1, h1, h2, h3⟩ := ih (out ++ [r == 0]) (p + 1) (by simp; omega) (by omega) (by omega)
    refine ⟨l, q, Ev.step (fun k => by rw [spec_l20Line.l0]) ?_, by rw [h1]; simp; omega, by omega, by omega⟩
    refine Ev.ifp (by omega) (Ev.bind e (Ev.ifp (by omega) ?_))
    rw [show wrap64 (((d + 1 : Nat) : Int) - 1) = (d : Int) from by rw [w64 (by omega) (by omega)]; omega]
    exact e1
theorem drawLine {b : List Int} (hb : Byts b) {p : Int} (hp : 0 ≤ p) (hp1 : p ≤ 1000) (n : Int) (hn0 : 1 ≤ n) (hn : n ≤ 8) :
    ∃ l q, Ev (fun k => spec_l20Line.f k b p n) (l, q) ∧ 1 ≤ l.length ∧ l.length ≤ 8 ∧ p ≤ q ∧ q ≤ p + 9 := by
  obtain ⟨r, e, h0, h1, _⟩ := pick_any hb hp (by omega) n (by omega)
  have h1 := h1 hn0
  obtain ⟨l, q, e1, g1, g2, g3⟩ := drawLine_l hb (1 + r).toNat [] (p + 1) (by simp; omega) (by omega) (by omega)
  refine ⟨l, q, ?_, by simp at g1; omega, by simp at g1; omega, by omega, by omega⟩
  unfold spec_l20Line.f
  refine Ev.bind e ?_
  rw [w64 (by omega) (by omega)]
  rw [show (((1 + r).toNat : Nat) : Int) = 1 + r by omega] at e1
  exact e1
theorem drawClue (l : List Int) (h : l.length ≤ maxLen) (hb : ∀ x ∈ l, (Lit.int .u8 x).wf = true) : ∃ L, Ev (fun k => spec_DrawClueOf.f k l) L ∧ L.length ≤ 9 := by
  obtain ⟨b, e, hB⟩ := open_ok l h hb
  obtain ⟨o, q, e1, p1, p2⟩ := odd_any hB (p := 0) (by omega) (by omega) 9 (by omega)
  unfold spec_DrawClueOf.f
  · cases o
    · obtain ⟨L, q2, e2, h1, h2, _⟩ := drawLine hB (p := q) (by omega) (by omega) 8 (by omega) (by omega)
      exact ⟨L, Ev.bindc e (Ev.bind e1 (Ev.ifn (by simp) (Ev.bind e2 (Ev.now _)))), by omega⟩
    · obtain ⟨r, e2, h1, h2, _⟩ := pick_any hB (p := q) (by omega) (by omega) 2 (by omega)
      have h2 := h2 (by omega)
      by_cases c : r = 0
      · exact ⟨[], Ev.bindc e (Ev.bind e1 (Ev.ifp rfl (Ev.bind e2 (Ev.ifp c (Ev.now _))))), by simp⟩
      · exact ⟨List.replicate 9 false, Ev.bindc e (Ev.bind e1 (Ev.ifp rfl (Ev.bind e2 (Ev.ifn c (Ev.ifp (by show r = 1; omega) (Ev.now _)))))), by simp⟩
theorem sameInts_l (a b : List Int) (h : a.length = b.length) (hl : a.length ≤ 140737488351232) : ∀ (d i : Nat), a.length = i + d → Ev (fun k => laws_sameInts.l0 k a b i) (decide (a.drop i = b.drop i)) := by
  intro d
  induction d with
  | zero =>
    intro i hi
    refine Ev.step (f := fun _ => some (decide (a.drop i = b.drop i))) (fun k => ?_) (Ev.now _)
    rw [laws_sameInts.l0]; rw [if_neg (by omega), List.drop_eq_nil_of_le (by omega), List.drop_eq_nil_of_le (by omega)]; simp
  | succ d ih =>
    intro i hi
    have ha : i < a.length := by omega
    have hb : i < b.length := by omega
    have hw : wrap64 ((i : Int) + 1) = ((i + 1 : Nat) : Int) := by rw [w64 (by omega) (by omega)]; omega
    by_cases c : a[i] = b[i]
    · refine Ev.step (f := fun k => laws_sameInts.l0 k a b ((i + 1 : Nat) : Int)) (fun k => ?_) ((ih (i + 1) (by omega)).eq ?_)
      · rw [laws_sameInts.l0]; rw [if_pos (by omega), if_pos (by omega), if_pos (by omega), rd_nat a i ha, rd_nat b i hb, if_pos c, hw]
      · rw [List.drop_eq_getElem_cons ha, List.drop_eq_getElem_cons hb, c]; simp only [List.cons.injEq, true_and]
    · refine Ev.step (f := fun k => some false) (fun k => ?_) ((Ev.now _).eq ?_)
      · rw [laws_sameInts.l0]; rw [if_pos (by omega), if_pos (by omega), if_pos (by omega), rd_nat a i ha, rd_nat b i hb, if_neg c]
      · rw [List.drop_eq_getElem_cons ha, List.drop_eq_getElem_cons hb]; simp only [List.cons.injEq, c, false_and, decide_false]
theorem sameInts_ev (a b : List Int) (hl : a.length ≤ 140737488351232) : Ev (fun k => laws_sameInts.f k a b) (decide (a = b)) := by
  unfold laws_sameInts.f
  by_cases h : a.length = b.length
  · exact Ev.ifp (by omega) ((sameInts_l a b h hl a.length 0 (by omega)).eq (by simp))
  · refine Ev.ifn (by omega) ((Ev.now false).eq ?_)
    symm; simp; intro e; exact h (by rw [e])
theorem sameInts_self (a : List Int) (hl : a.length ≤ 140737488351232) : Ev (fun k => laws_sameInts.f k a a) true := (sameInts_ev a a hl).eq (by simp)
theorem alive_ev : Ev (fun k => laws_alive.f k) true := Ev.of (fun k => laws_alive.mono k) (k := 20) (by decide +kernel)
theorem impl_ways (clue kn : List Int) (h1 : clue.length ≤ 1000000000) (h2 : kn.length ≤ 1000000000) : Ev (fun k => impl_LineWays.f k clue kn) (waysV clue kn) := by
  unfold impl_LineWays.f waysV
  refine Ev.bind (impl_known kn (by omega)) ?_
  by_cases c1 : knownV kn = true
  · refine Ev.ifp c1 (Ev.bind (impl_clue clue _ (by omega)) ?_)
    by_cases c2 : clueV clue kn.length = true
    · exact Ev.ifp c2 (Ev.bind (impl_linesFor_ev clue kn (knownV_ok c1).2.1) (Ev.eq (Ev.now _) (by rw [if_pos ⟨c1, c2⟩]; simp)))
    · exact Ev.ifn c2 (Ev.eq (Ev.now _) (by rw [if_neg (fun h => c2 h.2)]))
  · exact Ev.ifn c1 (Ev.eq (Ev.now _) (by rw [if_neg (fun h => c1 h.1)]))
theorem spec_known_l (l : List Int) (hl : l.length ≤ 140737488351232) : ∀ (d i : Nat), l.length = i + d →
    Ev (fun k => spec_KnownValid.l0 k l i) ((l.drop i).all (fun x => decide (-1 ≤ x ∧ x ≤ 1)) && decide (1 ≤ (l.length : Int) ∧ (l.length : Int) ≤ 8)) := by
  intro d
  induction d with
  | zero =>
    intro i hi
    refine Ev.step (fun k => by rw [spec_KnownValid.l0]) (Ev.ifn (by omega) (Ev.bindc (l1In_f _ _ _) (Ev.eq (Ev.now _) ?_)))
    rw [List.drop_eq_nil_of_le (by omega)]; simp
  | succ d ih =>
    intro i hi
    have hlt : i < l.length := by omega
    have hw : wrap64 ((i : Int) + 1) = ((i + 1 : Nat) : Int) := by rw [w64 (by omega) (by omega)]; omega
    refine Ev.step (fun k => by rw [spec_KnownValid.l0]) ?_
    rw [rd_nat l i hlt, hw, List.drop_eq_getElem_cons hlt, List.all_cons]
    refine Ev.ifp (by omega) (Ev.ifp (by omega) (Ev.bindc (l1In_f _ _ _) ?_))
    by_cases c : -1 ≤ l[i] ∧ l[i] ≤ 1
    · exact Ev.ifp (by simpa using c) (Ev.eq (ih (i + 1) (by omega)) (by simp [c]))
    · exact Ev.ifn (by simpa using c) (Ev.eq (Ev.now _) (by simp [c]))
theorem spec_known (l : List Int) (hl : l.length ≤ 140737488351232) : Ev (fun k => spec_KnownValid.f k l) (knownV l) := by
  unfold spec_KnownValid.f
  exact spec_known_l l hl l.length 0 (by omega)
def kOf (L : List Bool) : List Int := L.map (fun b => if b = true then 1 else 0)
theorem kOf_len (L : List Bool) : (kOf L).length = L.length := by unfold kOf; rw [List.length_map]
theorem kOf_get (L : List Bool) (j : Nat) (h : j < (kOf L).length) : (kOf L)[j] = if L[j]'(by rw [kOf_len] at h; exact h) = true then 1 else 0 := by
  simp [kOf]
theorem kOf_known (L : List Bool) (h : 1 ≤ L.length ∧ L.length ≤ 8) : knownV (kOf L) = true := by
  unfold knownV
  rw [kOf_len]
  simp only [Bool.and_eq_true, decide_eq_true_eq, List.all_eq_true]
  refine ⟨fun x hx => ?_, by omega⟩
  unfold kOf at hx
  rw [List.mem_map] at hx
  obtain ⟨b, _, rfl⟩ := hx
  cases b <;> simp
theorem kOf_fit (L : List Bool) (m : Nat) : fitD m 0 (kOf L) = true ↔ lineN m L.length = L := by
  rw [fitD_iff]
  constructor
  · intro h
    apply List.ext_getElem
    · rw [lineN_length]
    · intro j h1 h2
      have := h j (by rw [kOf_len]; exact h2)
      rw [kOf_get, Nat.zero_add] at this
      rw [lineN_get]
      unfold bitI at this
      cases hb : m.testBit j <;> cases hl : L[j] <;> simp [hb, hl] at this ⊢
  · intro h j hj
    right
    rw [kOf_get, Nat.zero_add]
    have hj' : j < L.length := by rw [kOf_len] at hj; exact hj
    have e : L[j] = m.testBit j := by
      have : (lineN m L.length)[j]'(by rw [lineN_length]; exact hj') = m.testBit j := lineN_get m _ j _
      rw [← this]; congr 1; exact h.symm
    rw [e]; unfold bitI; rfl
theorem LF_self (L : List Bool) (x : List Int) (hx : clueL L = x) : (LF x (kOf L)).length = 1 := by
  have hm : toN L ∈ LF x (kOf L) := by
    rw [LF_mem, kOf_len]
    refine ⟨toN_lt L, ?_⟩
    unfold isLine
    rw [(kOf_fit L (toN L)).2 (lineN_toN L), kOf_len, lineN_toN, hx]; simp
  have h1 : (LF x (kOf L)).length ≤ 1 := LF_le_one (fun j h => by rw [kOf_get]; split <;> omega)
  have h2 := List.length_pos_of_mem hm
  omega
theorem LF_more (L : List Bool) : LF (clueL L ++ [1]) (kOf L) = [] := by
  rw [List.eq_nil_iff_forall_not_mem]
  intro m hm
  rw [LF_mem] at hm
  have h := hm.2
  unfold isLine at h
  rw [Bool.and_eq_true, kOf_fit, decide_eq_true_eq, kOf_len] at h
  rw [h.1] at h
  have := congrArg List.length h.2
  simp at this
theorem forced_self (L : List Bool) (h : 1 ≤ L.length ∧ L.length ≤ 8) : forcedV (clueL L) (kOf L) = (kOf L, true) := by
  unfold forcedV
  have h1 := LF_self L _ rfl
  rw [if_pos ⟨kOf_known L h, by rw [kOf_len]; exact clueV_of L h.1 h.2⟩]
  have hne : LF (clueL L) (kOf L) ≠ [] := by intro e; rw [e] at h1; simp at h1
  rw [if_neg hne]
  congr 1
  obtain ⟨m, hm⟩ := List.exists_mem_of_ne_nil _ hne
  apply List.ext_getElem
  · rw [List.length_map, List.length_range]
  · intro j h2 h3
    rw [List.getElem_map, List.getElem_range]
    exact cls_keeps hne j h3 (by rw [kOf_get]; split <;> omega)
theorem law_l0 (L : List Bool) (h9 : L.length ≤ 9) : ∀ (d i : Nat), L.length = i + d →
    Ev (fun k => laws_FnLineClue.l0 k L (clueL L) (kOf (L.take i)) i) true := by
  have hl := clueL_len L
  intro d
  induction d with
  | zero =>
    intro i hi
    rw [List.take_of_length_le (by omega)]
    have hk := kOf_len L
    refine Ev.step (fun k => by rw [laws_FnLineClue.l0]) (Ev.ifn (by omega) (Ev.bind (spec_known (kOf L) (by omega)) ?_))
    by_cases c : 1 ≤ L.length ∧ L.length ≤ 8
    · have hcv : clueV (clueL L) (kOf L).length = true := by rw [hk]; exact clueV_of L c.1 c.2
      have hw1 : waysV (clueL L) (kOf L) = 1 := by
        unfold waysV
        rw [if_pos ⟨kOf_known L c, hcv⟩, LF_self L _ rfl]; rfl
      refine Ev.ifp (kOf_known L c) (Ev.bind (impl_forced (clueL L) (kOf L) (by omega) (by omega)) (Ev.bind (impl_ways (clueL L) (kOf L) (by omega) (by omega)) (Ev.ifp hw1 ?_)))
      rw [forced_self L c]
      refine Ev.ifp rfl (Ev.bind (sameInts_self (kOf L) (by omega)) (Ev.ifp rfl (Ev.bindc rfl (Ev.ifp (by show 0 + (clueL L).length < 17592186044416; omega) (Ev.bindc rfl (Ev.ifp (by rw [List.nil_append]; omega) ?_))))))
      rw [List.nil_append]
      refine Ev.bind (impl_ways (clueL L ++ [1]) (kOf L) (by rw [List.length_append, List.length_singleton]; omega) (by omega)) (Ev.eq (Ev.now _) ?_)
      unfold waysV
      rw [LF_more]
      split <;> simp
    · refine Ev.ifn ?_ (Ev.bind alive_ev (Ev.now _))
      intro h
      have := knownV_ok h
      omega
  | succ d ih =>
    intro i hi
    have hlt : i < L.length := by omega
    have hw : wrap64 ((i : Int) + 1) = ((i + 1 : Nat) : Int) := by rw [w64 (by omega) (by omega)]; omega
    have hn := ih (i + 1) (by omega)
    have e : kOf (L.take i) ++ [if L[i] = true then 1 else 0] = kOf (L.take (i + 1)) := by
      unfold kOf
      rw [List.take_succ_eq_append_getElem hlt, List.map_append]; rfl
    have hq : (kOf (L.take i)).length < 17592186044416 := by rw [kOf_len, List.length_take]; omega
    refine Ev.step (fun k => by rw [laws_FnLineClue.l0, hw]) (Ev.ifp (by omega) (Ev.ifp (by omega) ?_))
    rw [rdOf_nat L i hlt]
    by_cases c : L[i] = true
    · rw [if_pos c] at e
      rw [← e] at hn
      exact Ev.ifp c (Ev.ifp hq hn)
    · rw [if_neg c] at e
      rw [← e] at hn
      exact Ev.ifn c (Ev.ifp hq hn)
theorem FnLineClue : laws_FnLineClue.Pure := by
  intro l h _ hb
  apply Ev.rounds
  unfold laws_FnLineClue.f
  by_cases c0 : (l.length : Int) > 1048576
  · exact Ev.ifp c0 (Ev.now _)
  refine Ev.ifn c0 ?_
  obtain ⟨L, e, h9⟩ := drawClue l h hb
  have hl := clueL_len L
  refine Ev.bind e (Ev.bind (impl_clueof L (by omega)) (Ev.bind (spec_clueof L (by omega)) (Ev.bind (sameInts_self _ (by omega)) (Ev.ifp rfl ?_))))
  exact law_l0 L h9 L.length 0 (by omega)

end Go.Proofs.Ytnmlcbdbbnaabaa.Pure
