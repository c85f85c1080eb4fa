/- For every code: at the board that the code draws BoardColours answers what the reference answers; with rows and columns exchanged the numbers are the same, and without holes they differ by at most 1. No conditions beyond the code being bytes. -/
import Derived.Test.YtbdkmkbkggnekaaPFnBoardColoursx4
namespace Go.Proofs.Ytbdkmkbkggnekaa.Pure
open Go.RowKit Go.Proofs.Ytbdkmkbkggnekaa.PFnBoardColours Go.Proofs.YtbdkmkbkggnekaaW.PrintWords Go.Proofs.YtbdkmkbkggnekaaW.PrintLast Go.Proofs.YtbdkmkbkggnekaaW.PrintMore
set_option linter.unusedVariables false
set_option linter.unusedSimpArgs false
/-! Ev: small steps. -/
theorem _root_.Go.Proofs.YtbdkmkbkggnekaaW.PrintWords.Ev.ifp {α : Type} {c : Prop} [Decidable c] {g f : Nat → Option α} {r : α} (hc : c) (h : Ev g r) : Ev (fun k => if c then g k else f k) r :=
  Ev.congr (fun _ => if_pos hc) h
theorem _root_.Go.Proofs.YtbdkmkbkggnekaaW.PrintWords.Ev.ifn {α : Type} {c : Prop} [Decidable c] {g f : Nat → Option α} {r : α} (hc : ¬ c) (h : Ev f r) : Ev (fun k => if c then g k else f k) r :=
  Ev.congr (fun _ => if_neg hc) h
theorem _root_.Go.Proofs.YtbdkmkbkggnekaaW.PrintWords.Ev.bindc {α β : Type} {o : Option α} {f : Nat → α → Option β} {a : α} {r : β} (h : o = some a) (k : Ev (fun n => f n a) r) : Ev (fun n => o.bind (f n)) r := by
  subst h; exact k
theorem _root_.Go.Proofs.YtbdkmkbkggnekaaW.PrintWords.Ev.eq {α : Type} {g : Nat → Option α} {r r' : α} (h : Ev g r) (e : r = r') : Ev g r' := e ▸ h
theorem _root_.Go.Proofs.YtbdkmkbkggnekaaW.PrintWords.Ev.cst {α : Type} {o : Option α} {r : α} (h : o = some r) : Ev (fun _ => o) r := ⟨0, fun _ _ => h⟩
theorem w64 {x : Int} (h0 : -9223372036854775808 ≤ x) (h1 : x ≤ 9223372036854775807) : wrap64 x = x := by unfold wrap64; omega
theorem wf_i64 {x : Int} (h : (Lit.int .i64 x).wf = true) : -9223372036854775808 ≤ x ∧ x ≤ 9223372036854775807 := by
  have h2 : (decide (IntKind.i64.min ≤ x) && decide (x ≤ IntKind.i64.max)) = true := h
  simp [IntKind.min, IntKind.max, IntKind.bits, IntKind.signed] at h2
  exact h2
theorem wf_u8 {x : Int} (h : (Lit.int .u8 x).wf = true) : 0 ≤ x ∧ x ≤ 255 := by
  have h2 : (decide (IntKind.u8.min ≤ x) && decide (x ≤ IntKind.u8.max)) = true := h
  simp [IntKind.min, IntKind.max, IntKind.bits, IntKind.signed] at h2
  omega
theorem rd_nat (xs : List Int) (i : Nat) (h : i < xs.length) : rd xs (i : Int) = xs[i] := by
  simp [rd, List.getD_eq_getElem?_getD, h]
theorem rd_mem (xs : List Int) (i : Int) (h0 : 0 ≤ i) (h : i < xs.length) : rd xs i ∈ xs := by
  obtain ⟨n, rfl⟩ := Int.eq_ofNat_of_zero_le h0
  rw [rd_nat xs n (by omega)]; exact List.getElem_mem _
theorem l1In_f (a b c : Int) : spec_l1In.f a b c = some (decide (b ≤ a ∧ a ≤ c)) := by
  unfold spec_l1In.f
  by_cases h : a ≥ b
  · rw [if_pos h]; simp; omega
  · rw [if_neg h]; simp; omega
/-! Binary digits. -/
def bit (m : Int) (d : Nat) : Int := m / 2 ^ d % 2
theorem bit_01 (m : Int) (d : Nat) : bit m d = 0 ∨ bit m d = 1 := by unfold bit; omega
theorem shr_bit {m : Int} (h0 : 0 ≤ m) (d : Nat) (hd : d ≤ 64) : Int.tmod (shr .i64 m (d : Int)) 2 = bit m d := by
  have e : shr .i64 m (d : Int) = m / 2 ^ d := by
    unfold shr
    rw [show min (d : Int).toNat IntKind.i64.bits = d from by simp [IntKind.bits]; omega]
  rw [e, Int.tmod_eq_emod_of_nonneg (Int.ediv_nonneg h0 (Int.pow_nonneg (by decide)))]
  rfl
theorem shr_nat (m : Int) (d : Nat) (hd : d ≤ 64) : shr .i64 m (d : Int) = m / 2 ^ d := by
  unfold shr
  rw [show min (d : Int).toNat IntKind.i64.bits = d from by simp [IntKind.bits]; omega]
theorem and1_bit {x : Int} (h0 : 0 ≤ x) (h1 : x < 4611686018427387904) : Go.bits .and .i64 x 1 = x % 2 := by
  have := bits_mask .i64 62 (by decide) (fun n h h' => by rw [IntKind.wrap_i64]; omega) 1 (by decide) x h0 h1
  simpa using this
theorem bit_nat (a d : Nat) : bit (a : Int) d = if a.testBit d then 1 else 0 := by
  unfold bit
  rw [Nat.testBit_eq_decide_div_mod_eq]
  have e : ((a : Int) / 2 ^ d % 2) = ((a / 2 ^ d % 2 : Nat) : Int) := by push_cast; rfl
  rw [e]
  by_cases h : a / 2 ^ d % 2 = 1
  · simp [h]
  · have : a / 2 ^ d % 2 = 0 := by omega
    simp [this]
/-- What BoardValid answers. -/
def boardV (r c h : Int) : Bool := decide (1 ≤ r ∧ 1 ≤ c ∧ r ≤ 24 ∧ c ≤ 24 ∧ r * c ≤ 24 ∧ 0 ≤ h ∧ h < 2 ^ (r * c).toNat)
theorem mul_bd {r c : Int} (h1 : 1 ≤ r) (h2 : r ≤ 24) (h3 : 1 ≤ c) (h4 : c ≤ 24) : 1 ≤ r * c ∧ r * c ≤ 576 ∧ wrap64 (r * c) = r * c := by
  have a : 0 < r * c := Int.mul_pos (by omega) (by omega)
  have b : r * c ≤ 24 * 24 := Int.mul_le_mul h2 h4 (by omega) (by omega)
  exact ⟨by omega, by omega, w64 (by omega) (by omega)⟩
theorem shl1_all : ∀ n ∈ List.range 25, shl .i64 1 (n : Int) = 2 ^ n ∧ 1 ≤ (2 : Int) ^ n ∧ (2 : Int) ^ n ≤ 16777216 := by decide +kernel
theorem shl1 (n : Int) (h0 : 0 ≤ n) (h1 : n ≤ 24) : shl .i64 1 n = 2 ^ n.toNat ∧ 1 ≤ (2 : Int) ^ n.toNat ∧ (2 : Int) ^ n.toNat ≤ 16777216 := by
  have := shl1_all n.toNat (List.mem_range.2 (by omega))
  rw [show ((n.toNat : Nat) : Int) = n by omega] at this
  exact this
theorem impl_board (r c h : Int) : impl_BoardValid.f r c h = some (boardV r c h) := by
  unfold impl_BoardValid.f boardV
  by_cases c1 : r < 1
  · rw [if_pos c1]; simp; omega
  rw [if_neg c1]
  by_cases c2 : c < 1
  · rw [if_pos c2]; simp; omega
  rw [if_neg c2]
  by_cases c3 : r > 24
  · rw [if_pos c3]; simp; omega
  rw [if_neg c3]
  by_cases c4 : c > 24
  · rw [if_pos c4]; simp; omega
  rw [if_neg c4]
  have hm := mul_bd (r := r) (c := c) (by omega) (by omega) (by omega) (by omega)
  rw [hm.2.2]
  generalize r * c = n at hm
  by_cases c5 : n > 24
  · rw [if_pos c5]; simp; omega
  rw [if_neg c5]
  have hs := shl1 n (by omega) (by omega)
  by_cases c6 : h ≥ 0
  · rw [if_pos c6, if_pos (by omega), hs.1]; simp only [Option.some.injEq, decide_eq_decide]; omega
  · rw [if_neg c6]; simp; omega
theorem spec_board (r c h : Int) : spec_BoardValid.f r c h = some (boardV r c h) := by
  unfold spec_BoardValid.f boardV
  rw [l1In_f, l1In_f]
  simp only [Option.bind_some]
  by_cases c1 : 1 ≤ r ∧ r ≤ 24
  · rw [if_pos (by simpa using c1)]
    by_cases c2 : 1 ≤ c ∧ c ≤ 24
    · rw [if_pos (by simpa using c2)]
      have hm := mul_bd (r := r) (c := c) (by omega) (by omega) (by omega) (by omega)
      rw [hm.2.2]
      generalize r * c = n at hm
      by_cases c5 : n ≤ 24
      · have hs := shl1 n (by omega) (by omega)
        rw [if_pos c5, if_pos (by omega), hs.1, l1In_f, w64 (by omega) (by omega)]
        simp only [Option.bind_some, Option.some.injEq, decide_eq_decide]; omega
      · rw [if_neg c5]; simp; omega
    · rw [if_neg (by simpa using c2)]; simp; omega
  · rw [if_neg (by simpa using c1)]; simp; omega
/-! The colours of the free cells. -/
def par (c : Int) (i : Nat) : Int := ((i : Int) / c + (i : Int) % c) % 2
def cnt (c h p : Int) (a d : Nat) : Int := ((List.range' a d).countP (fun i => bit h i == 0 && par c i == p) : Nat)
theorem par_01 (c : Int) (i : Nat) : par c i = 0 ∨ par c i = 1 := by unfold par; omega
theorem cnt_succ (c h p : Int) (a d : Nat) : cnt c h p a (d + 1) = (if bit h a = 0 ∧ par c a = p then 1 else 0) + cnt c h p (a + 1) d := by
  unfold cnt
  rw [List.range'_succ, List.countP_cons]
  by_cases h1 : bit h a = 0
  · by_cases h2 : par c a = p
    · simp [h1, h2]; omega
    · simp [h1, h2]
  · simp [h1]
theorem cnt_le (c h p : Int) (a d : Nat) : 0 ≤ cnt c h p a d ∧ cnt c h p a d ≤ d := by
  unfold cnt
  have := List.countP_le_length (p := fun i => bit h i == 0 && par c i == p) (l := List.range' a d)
  rw [List.length_range'] at this
  omega
/-- What BoardColours answers. -/
def coloursV (r c h : Int) : Int × Int := if boardV r c h = true then (cnt c h 0 0 (r * c).toNat, cnt c h 1 0 (r * c).toNat) else (-1, -1)
theorem par_eq (c : Int) (i : Nat) (hc : 1 ≤ c) (hc2 : c ≤ 24) (hi : i ≤ 1000) : Int.tmod (wrap64 ((wrap64 (Int.tdiv (i : Int) c)) + (Int.tmod (i : Int) c))) 2 = par c i := by
  have h1 : 0 ≤ (i : Int) / c := Int.ediv_nonneg (by omega) (by omega)
  have h2 : (i : Int) / c ≤ i := Int.ediv_le_self _ (by omega)
  have h3 : 0 ≤ (i : Int) % c := Int.emod_nonneg _ (by omega)
  have h4 : (i : Int) % c < c := Int.emod_lt_of_pos _ (by omega)
  rw [Int.tdiv_eq_ediv_of_nonneg (by omega), Int.tmod_eq_emod_of_nonneg (show (0 : Int) ≤ i by omega), w64 (x := (i : Int) / c) (by omega) (by omega), w64 (by omega) (by omega), Int.tmod_eq_emod_of_nonneg (by omega)]
  rfl
theorem boardV_ok {r c h : Int} (hv : boardV r c h = true) : 1 ≤ r ∧ 1 ≤ c ∧ r ≤ 24 ∧ c ≤ 24 ∧ 1 ≤ r * c ∧ r * c ≤ 24 ∧ 0 ≤ h ∧ h < 2 ^ (r * c).toNat ∧ h < 16777216 ∧ wrap64 (r * c) = r * c := by
  unfold boardV at hv
  rw [decide_eq_true_eq] at hv
  obtain ⟨h1, h2, h3, h4, h5, h6, h7⟩ := hv
  have hm := mul_bd (r := r) (c := c) (by omega) (by omega) (by omega) (by omega)
  have hs := shl1 (r * c) (by omega) (by omega)
  exact ⟨h1, h2, h3, h4, hm.1, h5, h6, h7, by omega, hm.2.2⟩
theorem spec_colours_l (r c h : Int) (n : Nat) (hn : wrap64 (r * c) = n) (hn2 : n ≤ 24) (hc : 1 ≤ c) (hc2 : c ≤ 24) (hh : 0 ≤ h) : ∀ (d i : Nat) (e o : Int), n = i + d → 0 ≤ e → e + d ≤ 1000 → 0 ≤ o → o + d ≤ 1000 →
    Ev (fun k => spec_BoardColours.l0 k e o i r c h) (e + cnt c h 0 i d, o + cnt c h 1 i d) := by
  intro d
  induction d with
  | zero =>
    intro i e o hi _ _ _ _
    refine Ev.step (fun k => by rw [spec_BoardColours.l0]) ?_
    rw [hn]
    exact Ev.ifn (by omega) (Ev.eq (Ev.now _) (by simp [cnt]))
  | succ d ih =>
    intro i e o hi h1 h2 h3 h4
    have hw : wrap64 ((i : Int) + 1) = ((i + 1 : Nat) : Int) := by rw [w64 (by omega) (by omega)]; omega
    refine Ev.step (fun k => by rw [spec_BoardColours.l0]) ?_
    rw [hn, hw, shr_bit hh i (by omega), par_eq c i hc hc2 (by omega), w64 (x := e + 1) (by omega) (by omega), w64 (x := o + 1) (by omega) (by omega), cnt_succ, cnt_succ]
    refine Ev.ifp (by omega) (Ev.ifp (by omega) ?_)
    rcases bit_01 h i with hb | hb <;> rw [hb]
    · refine Ev.ifn (by omega) (Ev.ifn (by omega) ?_)
      rcases par_01 c i with hp | hp <;> rw [hp]
      · exact Ev.ifp rfl (Ev.eq (ih (i + 1) (e + 1) o (by omega) (by omega) (by omega) (by omega) (by omega)) (by simp; omega))
      · exact Ev.ifn (by omega) (Ev.eq (ih (i + 1) e (o + 1) (by omega) (by omega) (by omega) (by omega) (by omega)) (by simp; omega))
    · exact Ev.ifp rfl (Ev.eq (ih (i + 1) e o (by omega) (by omega) (by omega) (by omega) (by omega)) (by simp))
theorem spec_colours (r c h : Int) : Ev (fun k => spec_BoardColours.f k r c h) (coloursV r c h) := by
  unfold spec_BoardColours.f coloursV
  refine Ev.bindc (spec_board r c h) ?_
  by_cases hv : boardV r c h = true
  · obtain ⟨h1, h2, h3, h4, h5, h6, h7, h8, h9, h10⟩ := boardV_ok hv
    refine Ev.ifp hv (Ev.eq (spec_colours_l r c h (r * c).toNat (by rw [h10]; omega) (by omega) h2 h4 h7 (r * c).toNat 0 0 0 (by omega) (by omega) (by omega) (by omega) (by omega)) ?_)
    rw [if_pos hv]; simp
  · exact Ev.ifn hv (Ev.eq (Ev.now _) (by rw [if_neg hv]))
theorem impl_colours_l (c h : Int) (n : Nat) (hn2 : n ≤ 24) (hc : 1 ≤ c) (hc2 : c ≤ 24) (hh : 0 ≤ h) (hh2 : h < 4611686018427387904) : ∀ (d i : Nat) (e o : Int), n = i + d → 0 ≤ e → e + d ≤ 1000 → 0 ≤ o → o + d ≤ 1000 →
    Ev (fun k => impl_BoardColours.l0 k e o i n c h) (e + cnt c h 0 i d, o + cnt c h 1 i d) := by
  intro d
  induction d with
  | zero =>
    intro i e o hi _ _ _ _
    exact Ev.step (fun k => by rw [impl_BoardColours.l0]) (Ev.ifn (by omega) (Ev.eq (Ev.now _) (by simp [cnt])))
  | succ d ih =>
    intro i e o hi h1 h2 h3 h4
    have hw : wrap64 ((i : Int) + 1) = ((i + 1 : Nat) : Int) := by rw [w64 (by omega) (by omega)]; omega
    have hb0 : Go.bits .and .i64 (shr .i64 h (i : Int)) 1 = bit h i := by
      have hq : h / 2 ^ i ≤ h := Int.ediv_le_self _ hh
      rw [shr_nat _ _ (by omega), and1_bit (Int.ediv_nonneg hh (Int.pow_nonneg (by decide))) (by omega)]
      rfl
    refine Ev.step (fun k => by rw [impl_BoardColours.l0]) ?_
    rw [hw, hb0, par_eq c i hc hc2 (by omega), w64 (x := e + 1) (by omega) (by omega), w64 (x := o + 1) (by omega) (by omega), cnt_succ, cnt_succ]
    refine Ev.ifp (by omega) (Ev.ifp (by omega) ?_)
    rcases bit_01 h i with hb | hb <;> rw [hb]
    · refine Ev.ifp rfl (Ev.ifn (by omega) ?_)
      rcases par_01 c i with hp | hp <;> rw [hp]
      · exact Ev.ifp rfl (Ev.eq (ih (i + 1) (e + 1) o (by omega) (by omega) (by omega) (by omega) (by omega)) (by simp; omega))
      · exact Ev.ifn (by omega) (Ev.ifp rfl (Ev.eq (ih (i + 1) e (o + 1) (by omega) (by omega) (by omega) (by omega) (by omega)) (by simp; omega)))
    · exact Ev.ifn (by omega) (Ev.eq (ih (i + 1) e o (by omega) (by omega) (by omega) (by omega) (by omega)) (by simp))
theorem impl_colours (r c h : Int) : Ev (fun k => impl_BoardColours.f k r c h) (coloursV r c h) := by
  unfold impl_BoardColours.f coloursV
  refine Ev.bindc (impl_board r c h) ?_
  by_cases hv : boardV r c h = true
  · obtain ⟨h1, h2, h3, h4, h5, h6, h7, h8, h9, h10⟩ := boardV_ok hv
    refine Ev.ifp hv ?_
    have := impl_colours_l c h (r * c).toNat (by omega) h2 h4 h7 (by omega) (r * c).toNat 0 0 0 (by omega) (by omega) (by omega) (by omega) (by omega)
    rw [h10, if_pos hv]
    rw [show (((r * c).toNat : Nat) : Int) = r * c by omega] at this
    simpa using this
  · exact Ev.ifn hv (Ev.eq (Ev.now _) (by rw [if_neg hv]))
/-! The board with rows and columns exchanged. -/
def sg (r c k : Nat) : Nat := k % c * r + k / c
theorem sg_all : ∀ r ∈ List.range 25, ∀ c ∈ List.range 25, 1 ≤ r → 1 ≤ c → r * c ≤ 24 →
    ((List.range (r * c)).map (sg r c)).isPerm (List.range (r * c)) = true ∧ (∀ k ∈ List.range (r * c), sg r c k < r * c ∧ sg r c k / r = k % c ∧ sg r c k % r = k / c) ∧
    (∀ k ∈ List.range (r * c), ∀ j ∈ List.range (r * c), sg r c k = sg r c j → k = j) := by decide +kernel
theorem sg_ok {r c : Nat} (h1 : 1 ≤ r) (h2 : 1 ≤ c) (h3 : r * c ≤ 24) :
    ((List.range (r * c)).map (sg r c)).Perm (List.range (r * c)) ∧ (∀ k, k < r * c → sg r c k < r * c ∧ sg r c k / r = k % c ∧ sg r c k % r = k / c) ∧ (∀ k j, k < r * c → j < r * c → sg r c k = sg r c j → k = j) := by
  have hr : r ≤ 24 := Nat.le_trans (Nat.le_mul_of_pos_right r (by omega)) h3
  have hc : c ≤ 24 := Nat.le_trans (Nat.le_mul_of_pos_left c (by omega)) h3
  have h := sg_all r (List.mem_range.2 (by omega)) c (List.mem_range.2 (by omega)) h1 h2 h3
  exact ⟨List.isPerm_iff.1 h.1, fun k hk => h.2.1 k (List.mem_range.2 hk), fun k j hk hj => h.2.2 k (List.mem_range.2 hk) j (List.mem_range.2 hj)⟩
def TN (r c x : Nat) (acc : Nat) : Nat → Nat → Nat
  | _, 0 => acc
  | i, d + 1 => TN r c x (if x.testBit i then acc ||| 2 ^ sg r c i else acc) (i + 1) d
theorem TN_bit (r c x : Nat) (m : Nat) : ∀ (d i acc : Nat), (TN r c x acc i d).testBit m = (acc.testBit m || (List.range' i d).any (fun k => x.testBit k && decide (sg r c k = m))) := by
  intro d
  induction d with
  | zero => intro i acc; simp [TN]
  | succ d ih =>
    intro i acc
    simp only [TN]
    rw [ih, List.range'_succ, List.any_cons]
    cases hx : x.testBit i
    · simp
    · rw [if_pos rfl, Nat.testBit_or, Nat.testBit_two_pow]
      simp [Bool.or_assoc]
theorem TN_lt (r c x n : Nat) (hs : ∀ k, k < n → sg r c k < n) : ∀ (d i acc : Nat), i + d ≤ n → acc < 2 ^ n → TN r c x acc i d < 2 ^ n := by
  intro d
  induction d with
  | zero => intro i acc _ h; exact h
  | succ d ih =>
    intro i acc hi ha
    simp only [TN]
    refine ih (i + 1) _ (by omega) ?_
    split
    · exact Nat.or_lt_two_pow ha (Nat.pow_lt_pow_right (by omega) (hs i (by omega)))
    · exact ha
def turnN (r c x : Nat) : Nat := TN r c x 0 0 (r * c)
theorem turn_bit {r c : Nat} (h1 : 1 ≤ r) (h2 : 1 ≤ c) (h3 : r * c ≤ 24) (x k : Nat) (hk : k < r * c) : (turnN r c x).testBit (sg r c k) = x.testBit k := by
  have h := sg_ok h1 h2 h3
  unfold turnN
  rw [TN_bit, Nat.zero_testBit, Bool.false_or]
  cases hx : x.testBit k
  · rw [List.any_eq_false]
    intro j hj
    rw [List.mem_range'_1] at hj
    intro hc
    simp only [Bool.and_eq_true, decide_eq_true_eq] at hc
    have := h.2.2 j k (by omega) hk hc.2
    subst this
    rw [hx] at hc
    simp at hc
  · rw [List.any_eq_true]
    exact ⟨k, by rw [List.mem_range'_1]; omega, by simp [hx]⟩
theorem par_turn {r c : Nat} (h1 : 1 ≤ r) (h2 : 1 ≤ c) (h3 : r * c ≤ 24) (k : Nat) (hk : k < r * c) : par (r : Int) (sg r c k) = par (c : Int) k := by
  have h := (sg_ok h1 h2 h3).2.1 k hk
  unfold par
  have e1 : ((sg r c k : Nat) : Int) / (r : Int) = ((k % c : Nat) : Int) := by rw [← h.2.1]; simp
  have e2 : ((sg r c k : Nat) : Int) % (r : Int) = ((k / c : Nat) : Int) := by rw [← h.2.2]; simp
  have e3 : (k : Int) / (c : Int) = ((k / c : Nat) : Int) := by simp
  have e4 : (k : Int) % (c : Int) = ((k % c : Nat) : Int) := by simp
  rw [e1, e2, e3, e4]
  omega
theorem cnt_turn {r c : Nat} (h1 : 1 ≤ r) (h2 : 1 ≤ c) (h3 : r * c ≤ 24) (x : Nat) (p : Int) : cnt (r : Int) (turnN r c x : Int) p 0 (r * c) = cnt (c : Int) (x : Int) p 0 (r * c) := by
  have h := sg_ok h1 h2 h3
  unfold cnt
  rw [← List.range_eq_range', ← h.1.countP_eq, List.countP_map]
  congr 1
  apply List.countP_congr
  intro k hk
  rw [List.mem_range] at hk
  simp only [Function.comp]
  rw [bit_nat, bit_nat, turn_bit h1 h2 h3 x k hk, par_turn h1 h2 h3 k hk]
theorem alt_all : ∀ r ∈ List.range 25, ∀ c ∈ List.range 25, 1 ≤ r → 1 ≤ c → r * c ≤ 24 → 0 ≤ cnt (c : Int) 0 0 0 (r * c) - cnt (c : Int) 0 1 0 (r * c) ∧ cnt (c : Int) 0 0 0 (r * c) - cnt (c : Int) 0 1 0 (r * c) ≤ 1 := by decide +kernel
theorem laws_turned_l {r c : Nat} (h1 : 1 ≤ r) (h2 : 1 ≤ c) (h3 : r * c ≤ 24) (x : Nat) (hx : x < 2 ^ (r * c)) : ∀ (d i acc : Nat), r * c = i + d → acc < 2 ^ (r * c) →
    Ev (fun k => laws_turned.l0 k i r c x c r acc) ((c : Int), (r : Int), ((TN r c x acc i d : Nat) : Int)) := by
  have hs := sg_ok h1 h2 h3
  have hr : r ≤ 24 := Nat.le_trans (Nat.le_mul_of_pos_right r (by omega)) h3
  have hc : c ≤ 24 := Nat.le_trans (Nat.le_mul_of_pos_left c (by omega)) h3
  have hp : 2 ^ (r * c) ≤ 2 ^ 24 := Nat.pow_le_pow_right (by omega) h3
  have hrc : wrap64 ((r : Int) * (c : Int)) = ((r * c : Nat) : Int) := by rw [w64 (by have := Int.natCast_mul r c; omega) (by have := Int.natCast_mul r c; omega)]; simp
  intro d
  induction d with
  | zero =>
    intro i acc hi ha
    refine Ev.step (fun k => by rw [laws_turned.l0]) ?_
    rw [hrc]
    exact Ev.ifn (by omega) (Ev.now _)
  | succ d ih =>
    intro i acc hi ha
    have hw : wrap64 ((i : Int) + 1) = ((i + 1 : Nat) : Int) := by rw [w64 (by omega) (by omega)]; omega
    have hk := hs.2.1 i (by omega)
    have hsg : wrap64 ((wrap64 ((Int.tmod (i : Int) (c : Int)) * (r : Int))) + (wrap64 (Int.tdiv (i : Int) (c : Int)))) = ((sg r c i : Nat) : Int) := by
      have e1 : Int.tmod (i : Int) (c : Int) = ((i % c : Nat) : Int) := by rw [Int.tmod_eq_emod_of_nonneg (by omega)]; simp
      have e2 : Int.tdiv (i : Int) (c : Int) = ((i / c : Nat) : Int) := by rw [Int.tdiv_eq_ediv_of_nonneg (by omega)]; simp
      have e3 : ((i % c : Nat) : Int) * (r : Int) = ((i % c * r : Nat) : Int) := by simp
      have b1 : i % c * r + i / c < r * c := hk.1
      rw [e1, e2, e3, w64 (x := ((i / c : Nat) : Int)) (by omega) (by omega), w64 (x := ((i % c * r : Nat) : Int)) (by omega) (by omega), w64 (by omega) (by omega)]
      unfold sg
      omega
    refine Ev.step (fun k => by rw [laws_turned.l0]) ?_
    rw [hrc, hw, hsg, shr_bit (by omega) i (by omega), bit_nat]
    refine Ev.ifp (by omega) (Ev.ifp (by omega) ?_)
    simp only [TN]
    cases hb : x.testBit i
    · exact Ev.ifn (by simp) (Ev.eq (ih (i + 1) acc (by omega) ha) (by simp))
    · have hle : sg r c i ≤ 24 := Nat.le_trans (Nat.le_of_lt hk.1) h3
      have hsh := shl1 ((sg r c i : Nat) : Int) (Int.natCast_nonneg _) (by exact_mod_cast hle)
      have h2p : (2 : Int) ^ ((sg r c i : Nat) : Int).toNat = ((2 ^ sg r c i : Nat) : Int) := by simp
      have hlt : 2 ^ sg r c i < 2 ^ (r * c) := Nat.pow_lt_pow_right (by omega) hk.1
      have hor : Go.bits .or .i64 (acc : Int) (shl .i64 1 ((sg r c i : Nat) : Int)) = ((acc ||| 2 ^ sg r c i : Nat) : Int) := by
        rw [hsh.1, h2p]
        exact (bits_nat .i64 62 (by decide) (fun n h h' => by rw [IntKind.wrap_i64]; omega) acc (2 ^ sg r c i) (Nat.lt_of_lt_of_le ha (Nat.pow_le_pow_right (by decide) (Nat.le_trans h3 (by decide)))) (Nat.lt_of_lt_of_le hlt (Nat.pow_le_pow_right (by decide) (Nat.le_trans h3 (by decide))))).2
      refine Ev.ifp (by simp) (Ev.ifn (by omega) (Ev.ifp (Int.natCast_nonneg _) ?_))
      rw [hor]
      exact Ev.eq (ih (i + 1) _ (by omega) (Nat.or_lt_two_pow ha hlt)) (by simp)
theorem turned_ev {r c : Nat} (h1 : 1 ≤ r) (h2 : 1 ≤ c) (h3 : r * c ≤ 24) (x : Nat) (hx : x < 2 ^ (r * c)) : Ev (fun k => laws_turned.f k r c x) ((c : Int), (r : Int), ((turnN r c x : Nat) : Int)) := by
  unfold laws_turned.f turnN
  exact laws_turned_l h1 h2 h3 x hx (r * c) 0 0 (by omega) (Nat.two_pow_pos _)
theorem turnN_lt {r c : Nat} (h1 : 1 ≤ r) (h2 : 1 ≤ c) (h3 : r * c ≤ 24) (x : Nat) : turnN r c x < 2 ^ (r * c) :=
  TN_lt r c x (r * c) (fun k hk => ((sg_ok h1 h2 h3).2.1 k hk).1) (r * c) 0 0 (by omega) (Nat.two_pow_pos _)
theorem boardV_nat {r c x : Nat} (h1 : 1 ≤ r) (h2 : 1 ≤ c) (h3 : r * c ≤ 24) (hx : x < 2 ^ (r * c)) : boardV (r : Int) (c : Int) (x : Int) = true := by
  have hr : r ≤ 24 := Nat.le_trans (Nat.le_mul_of_pos_right r (by omega)) h3
  have hc : c ≤ 24 := Nat.le_trans (Nat.le_mul_of_pos_left c (by omega)) h3
  unfold boardV
  rw [decide_eq_true_eq]
  have e : (r : Int) * (c : Int) = ((r * c : Nat) : Int) := by simp
  rw [e, Int.toNat_natCast]
  refine ⟨by omega, by omega, by omega, by omega, by omega, by omega, ?_⟩
  exact_mod_cast hx
/-! The reader of draws: only that each number drawn lies in its range. -/
structure Byts (b : List Int) : Prop where
  len : b.length ≤ 2000
  val : ∀ x ∈ b, 0 ≤ x ∧ x ≤ 255
theorem xor_nn {a b : Int} (ha : 0 ≤ a) (ha1 : a < 4611686018427387904) (hb : 0 ≤ b) (hb1 : b < 4611686018427387904) : 0 ≤ Go.bits .xor .i64 a b := by
  obtain ⟨m, rfl⟩ := Int.eq_ofNat_of_zero_le ha
  obtain ⟨n, rfl⟩ := Int.eq_ofNat_of_zero_le hb
  have h : (m ^^^ n) < 2 ^ 62 := Nat.xor_lt_two_pow (by omega) (by omega)
  have hm : m % 2 ^ IntKind.i64.bits = m := Nat.mod_eq_of_lt (show m < 2 ^ 64 by omega)
  have hn : n % 2 ^ IntKind.i64.bits = n := Nat.mod_eq_of_lt (show n < 2 ^ 64 by omega)
  simp only [Go.bits, BitVec.ofInt_natCast, BitVec.toNat_xor, BitVec.toNat_ofNat, hm, hn]
  rw [IntKind.wrap_i64]
  omega
theorem open_ok (l : List Int) (h : l.length ≤ maxLen) (hb : ∀ x ∈ l, (Lit.int .u8 x).wf = true) : ∃ b, spec_l20Open.f l = some (b, 0) ∧ Byts b := by
  unfold spec_l20Open.f
  by_cases c : (l.length : Int) > 2000
  · rw [if_pos c, if_pos (by omega)]
    exact ⟨_, rfl, by rw [List.length_take]; omega, fun x hx => wf_u8 (hb x (List.mem_of_mem_take hx))⟩
  · rw [if_neg c]
    exact ⟨_, rfl, by omega, fun x hx => wf_u8 (hb x hx)⟩
theorem pick_any {b : List Int} (hb : Byts b) {p : Int} (hp : 0 ≤ p) (hp1 : p ≤ 1000000) (n : Int) (hn1 : n ≤ 9223372036854775807) :
    ∃ r, Ev (fun k => spec_l20Rd_pick.f k b p n) (r, p + 1) ∧ 0 ≤ r ∧ (1 ≤ n → r < n) ∧ (n < 1 → r = 0) := by
  have hw : wrap64 (p + 1) = p + 1 := w64 (by omega) (by omega)
  have hw2 : wrap64 (p + 1 - 1) = p := by rw [w64 (by omega) (by omega)]; omega
  have hl := hb.len
  unfold spec_l20Rd_pick.f
  by_cases c : n < 1
  · refine ⟨0, Ev.ifp c (Ev.step (f := fun _ => some (0, p + 1)) (fun k => ?_) (Ev.now _)), by omega, by omega, fun _ => rfl⟩
    rw [spec_l20Rd_pick.j0]; rw [if_pos rfl, hw]
  · by_cases c0 : b.length = 0
    · refine ⟨0, Ev.ifn c (Ev.step (f := fun _ => some (0, p + 1)) (fun k => ?_) (Ev.now _)), by omega, by omega, fun _ => rfl⟩
      rw [spec_l20Rd_pick.j0]
      rw [c0, if_pos (by decide), hw]
    · have c0' : ((b.length : Int) == 0) = false := by simp; intro h; simp [h] at c0
      by_cases c1 : p < (b.length : Int)
      · have hm := hb.val _ (rd_mem b p hp c1)
        refine ⟨Int.tmod (rd b p) n, Ev.ifn c (Ev.step (f := fun _ => some (Int.tmod (rd b p) n, p + 1)) (fun k => ?_) (Ev.now _)), Int.tmod_nonneg _ hm.1, fun h => Int.tmod_lt_of_pos _ (by omega), fun h => absurd h c⟩
        rw [spec_l20Rd_pick.j0]
        rw [c0', if_neg (by decide), hw, hw2, if_pos c1, if_pos hp, if_neg (by omega), w64 (by omega) (by omega)]
      · have hL : (0 : Int) < (b.length : Int) := by omega
        have e1 := Int.tmod_nonneg (b.length : Int) hp
        have e2 := Int.tmod_lt_of_pos p hL
        have k7 : wrap64 (p * 7) = p * 7 := w64 (by omega) (by omega)
        have k73 : wrap64 (p * 7 + 3) = p * 7 + 3 := w64 (by omega) (by omega)
        have e3 := Int.tmod_nonneg (b.length : Int) (show 0 ≤ p * 7 + 3 by omega)
        have e4 := Int.tmod_lt_of_pos (p * 7 + 3) hL
        have m1 := hb.val _ (rd_mem b _ e1 e2)
        have m2 := hb.val _ (rd_mem b _ e3 e4)
        have d0 : Int.tdiv p (b.length : Int) = p / (b.length : Int) := Int.tdiv_eq_ediv_of_nonneg hp
        have d1 : 0 ≤ p / (b.length : Int) := Int.ediv_nonneg hp (by omega)
        have d2 : p / (b.length : Int) ≤ p := Int.ediv_le_self _ hp
        generalize hx1 : rd b (Int.tmod p (b.length : Int)) = x1 at m1
        generalize hx2 : rd b (Int.tmod (p * 7 + 3) (b.length : Int)) = x2 at m2
        generalize hq : p / (b.length : Int) = q at d0 d1 d2
        have hX : 0 ≤ Go.bits .xor .i64 (x1 * 131 + x2 * 1117 + p * 29 + q * 53) ((x1 * 131 + x2 * 1117 + p * 29 + q * 53) / 64) := xor_nn (by omega) (by omega) (by omega) (by omega)
        generalize hR : Go.bits .xor .i64 (x1 * 131 + x2 * 1117 + p * 29 + q * 53) ((x1 * 131 + x2 * 1117 + p * 29 + q * 53) / 64) = X at hX
        refine ⟨Int.tmod X n, Ev.ifn c (Ev.step (f := fun _ => some (Int.tmod X n, p + 1)) (fun k => ?_) (Ev.now _)), Int.tmod_nonneg _ hX, fun h => Int.tmod_lt_of_pos _ (by omega), fun h => absurd h c⟩
        rw [spec_l20Rd_pick.j0]
        rw [c0', if_neg (by decide), hw, hw2, if_neg c1, if_neg (by omega), k7, k73, if_pos e1, if_pos e2, if_pos e3, if_pos e4, if_neg (by omega), hx1, hx2, d0]
        rw [w64 (x := x1) (by omega) (by omega), w64 (x := x2) (by omega) (by omega), w64 (x := q) (by omega) (by omega), w64 (x := x1 * 131) (by omega) (by omega), w64 (x := x2 * 1117) (by omega) (by omega), w64 (x := p * 29) (by omega) (by omega), w64 (x := q * 53) (by omega) (by omega)]
        rw [w64 (x := x1 * 131 + x2 * 1117) (by omega) (by omega), w64 (x := x1 * 131 + x2 * 1117 + p * 29) (by omega) (by omega), w64 (x := x1 * 131 + x2 * 1117 + p * 29 + q * 53) (by omega) (by omega)]
        rw [Int.tdiv_eq_ediv_of_nonneg (by omega), w64 (by omega) (by omega), hR]
theorem odd_any {b : List Int} (hb : Byts b) {p : Int} (hp : 0 ≤ p) (hp1 : p ≤ 1000000) (n : Int) (hn1 : n ≤ 9223372036854775807) :
    ∃ r q, Ev (fun k => spec_l20Rd_odd.f k b p n) (r, q) ∧ p ≤ q ∧ q ≤ p + 1 := by
  unfold spec_l20Rd_odd.f
  by_cases c : n > 0
  · obtain ⟨r, e, _⟩ := pick_any hb hp hp1 n hn1
    exact ⟨_, _, Ev.ifp c (Ev.bind e (Ev.now _)), by omega, by omega⟩
  · exact ⟨_, _, Ev.ifn c (Ev.now _), by omega, by omega⟩
theorem drawBoard_l {b : List Int} (hb : Byts b) (n : Int) (hn : n ≤ 1000) (r c : Int) (hr : 1 ≤ r ∧ r ≤ 4) (hc : 1 ≤ c ∧ c ≤ 6) : ∀ (d : Nat) (h p : Int), 0 ≤ p → p ≤ 500 - d →
    ∃ q, Ev (fun k => spec_l20Board.l0 k n d b p r c h) q := by
  have hm := mul_bd (r := r) (c := c) (by omega) (by omega) (by omega) (by omega)
  have hm1 : r * c ≤ 4 * 6 := Int.mul_le_mul hr.2 hc.2 (by omega) (by omega)
  intro d
  induction d with
  | zero =>
    intro h p hp hp1
    obtain ⟨o, p1, eo, ho1, ho2⟩ := odd_any hb hp (by omega) n (by omega)
    suffices H : ∃ q, Ev (fun k => if o = true then ((spec_l20Rd_pick.f k b p1 3).bind fun bt134 => (if bt134.1 = 0 then ((some (([0, 25, 7] : List Int) : List Int)).bind fun y136 => ((spec_l20Rd_pick.f k b bt134.2 3).bind fun bt139 => (if 0 ≤ bt139.1 then (if bt139.1 < (y136.length : Int) then (some (rd y136 bt139.1, c, h, bt139.2)) else (none)) else (none)))) else (if bt134.1 = 1 then ((some (([0, 25] : List Int) : List Int)).bind fun y142 => ((spec_l20Rd_pick.f k b bt134.2 2).bind fun bt145 => (if 0 ≤ bt145.1 then (if bt145.1 < (y142.length : Int) then (some (r, rd y142 bt145.1, h, bt145.2)) else (none)) else (none)))) else (if 0 ≤ (wrap64 (r * c)) then ((some (([(-1), shl .i64 1 (wrap64 (r * c))] : List Int) : List Int)).bind fun y148 => ((spec_l20Rd_pick.f k b bt134.2 2).bind fun bt151 => (if 0 ≤ bt151.1 then (if bt151.1 < (y148.length : Int) then (some (r, c, rd y148 bt151.1, bt151.2)) else (none)) else (none)))) else (none))))) else (some (r, c, h, p1))) q by
      obtain ⟨q, e⟩ := H
      refine ⟨q, Ev.step (fun k => by rw [spec_l20Board.l0]) ?_⟩
      exact Ev.ifn (by omega) (Ev.bind eo e)
    cases o with
    | false => exact ⟨_, Ev.ifn (by decide) (Ev.now _)⟩
    | true =>
      obtain ⟨r1, e1, h1, h1', _⟩ := pick_any hb (p := p1) (by omega) (by omega) 3 (by omega)
      by_cases c1 : r1 = 0
      · obtain ⟨r2, e2, h2, h2', _⟩ := pick_any hb (p := p1 + 1) (by omega) (by omega) 3 (by omega)
        exact ⟨_, Ev.ifp rfl (Ev.bind e1 (Ev.ifp c1 (Ev.bindc rfl (Ev.bind e2 (Ev.ifp h2 (Ev.ifp (by simp; omega) (Ev.now _)))))))⟩
      · obtain ⟨r2, e2, h2, h2', _⟩ := pick_any hb (p := p1 + 1) (by omega) (by omega) 2 (by omega)
        by_cases c2 : r1 = 1
        · exact ⟨_, Ev.ifp rfl (Ev.bind e1 (Ev.ifn c1 (Ev.ifp c2 (Ev.bindc rfl (Ev.bind e2 (Ev.ifp h2 (Ev.ifp (by simp; omega) (Ev.now _))))))))⟩
        · exact ⟨_, Ev.ifp rfl (Ev.bind e1 (Ev.ifn c1 (Ev.ifn c2 (Ev.ifp (by omega) (Ev.bindc rfl (Ev.bind e2 (Ev.ifp h2 (Ev.ifp (by simp; omega) (Ev.now _)))))))))⟩
  | succ d ih =>
    intro h p hp hp1
    have hw : wrap64 (((d + 1 : Nat) : Int) - 1) = (d : Int) := by rw [w64 (by omega) (by omega)]; omega
    obtain ⟨r1, e1, h1, h1', _⟩ := pick_any hb (p := p) (by omega) (by omega) (wrap64 (r * c)) (by omega)
    obtain ⟨q, e⟩ := ih (Go.bits .or .i64 h (shl .i64 1 r1)) (p + 1) (by omega) (by omega)
    refine ⟨q, Ev.step (fun k => by rw [spec_l20Board.l0]) ?_⟩
    refine Ev.ifp (by omega) (Ev.bind e1 (Ev.ifp h1 ?_))
    rw [hw]; exact e
theorem drawBoard {b : List Int} (hb : Byts b) (n : Int) (hn : n ≤ 1000) : ∃ q, Ev (fun k => spec_l20Board.f k b 0 n) q := by
  obtain ⟨r1, e1, h1, h1', _⟩ := pick_any hb (p := 0) (by omega) (by omega) 4 (by omega)
  obtain ⟨r2, e2, h2, h2', _⟩ := pick_any hb (p := 0 + 1) (by omega) (by omega) 6 (by omega)
  obtain ⟨r3, e3, h3, h3', _⟩ := pick_any hb (p := 0 + 1 + 1) (by omega) (by omega) 5 (by omega)
  have a1 := h1' (by omega)
  have a2 := h2' (by omega)
  have a3 := h3' (by omega)
  obtain ⟨q, e⟩ := drawBoard_l hb n hn (1 + r1) (1 + r2) (by omega) (by omega) r3.toNat 0 (0 + 1 + 1 + 1) (by omega) (by omega)
  refine ⟨q, ?_⟩
  unfold spec_l20Board.f
  refine Ev.bind e1 (Ev.bind e2 (Ev.bind e3 ?_))
  rw [w64 (x := 1 + r1) (by omega) (by omega), w64 (x := 1 + r2) (by omega) (by omega)]
  rw [show ((r3.toNat : Nat) : Int) = r3 by omega] at e
  exact e
theorem alive_ev : Ev (fun k => laws_alive.f k) true := Ev.of (fun k => laws_alive.mono k) (k := 20) (by decide +kernel)
theorem FnBoardColours : laws_FnBoardColours.Pure := by
  intro l h _ hb
  apply Ev.rounds
  unfold laws_FnBoardColours.f
  by_cases c0 : (l.length : Int) > 1048576
  · exact Ev.ifp c0 (Ev.now _)
  refine Ev.ifn c0 ?_
  obtain ⟨b, e, hB⟩ := open_ok l h hb
  obtain ⟨⟨r, c, m, p⟩, e1⟩ := drawBoard hB 9 (by omega)
  refine Ev.bind (a := (r, c, m)) (by unfold spec_DrawBoardColours.f; exact Ev.bindc e (Ev.bind e1 (Ev.now _))) ?_
  refine Ev.bind (impl_colours r c m) (Ev.bind (spec_colours r c m) (Ev.ifp rfl ?_))
  show Ev (fun k => laws_FnBoardColours.j0 k (coloursV r c m).1 (coloursV r c m).2 ((coloursV r c m).2 != (coloursV r c m).2) r c m) true
  refine Ev.step (fun k => by rw [laws_FnBoardColours.j0]) (Ev.ifn (by simp) ?_)
  by_cases hv : boardV r c m = true
  · obtain ⟨h1, h2, h3, h4, h5, h6, h7, h8, h9, h10⟩ := boardV_ok hv
    obtain ⟨R, rfl⟩ := Int.eq_ofNat_of_zero_le (show 0 ≤ r by omega)
    obtain ⟨C, rfl⟩ := Int.eq_ofNat_of_zero_le (show 0 ≤ c by omega)
    obtain ⟨X, rfl⟩ := Int.eq_ofNat_of_zero_le h7
    have erc : (R : Int) * (C : Int) = ((R * C : Nat) : Int) := by simp
    rw [erc] at h5 h6 h8
    rw [Int.toNat_natCast] at h8
    have hX : X < 2 ^ (R * C) := by exact_mod_cast h8
    have k1 : 1 ≤ R := by omega
    have k2 : 1 ≤ C := by omega
    have k3 : R * C ≤ 24 := by omega
    have ec : coloursV R C X = (cnt C X 0 0 (R * C), cnt C X 1 0 (R * C)) := by unfold coloursV; rw [if_pos hv, erc, Int.toNat_natCast]
    have et : coloursV C R (turnN R C X : Nat) = (cnt C X 0 0 (R * C), cnt C X 1 0 (R * C)) := by
      have e2 : (C : Int) * (R : Int) = ((R * C : Nat) : Int) := by rw [Int.mul_comm]; exact erc
      have hv2 : boardV (C : Int) (R : Int) ((turnN R C X : Nat) : Int) = true := boardV_nat k2 k1 (by rw [Nat.mul_comm]; exact k3) (by rw [Nat.mul_comm]; exact turnN_lt k1 k2 k3 X)
      unfold coloursV
      rw [if_pos hv2, e2, Int.toNat_natCast, cnt_turn k1 k2 k3 X 0, cnt_turn k1 k2 k3 X 1]
    have ez : coloursV R C 0 = (cnt C 0 0 0 (R * C), cnt C 0 1 0 (R * C)) := by
      have hv0 : boardV (R : Int) (C : Int) 0 = true := boardV_nat (x := 0) k1 k2 k3 (Nat.two_pow_pos _)
      unfold coloursV
      rw [if_pos hv0, erc, Int.toNat_natCast]
    have ha := alt_all R (List.mem_range.2 (by omega)) C (List.mem_range.2 (by omega)) k1 k2 k3
    have hl0 := cnt_le C 0 0 0 (R * C)
    have hl1 := cnt_le C 0 1 0 (R * C)
    have hm0 := cnt_le C X 0 0 (R * C)
    rw [ec]
    refine Ev.ifn (by omega) (Ev.bind (turned_ev k1 k2 k3 X hX) (Ev.bind (impl_colours C R (turnN R C X : Nat)) (Ev.bind (impl_colours R C 0) ?_)))
    rw [et, ez]
    have hww : wrap64 (cnt C 0 0 0 (R * C) - cnt C 0 1 0 (R * C)) = cnt C 0 0 0 (R * C) - cnt C 0 1 0 (R * C) := w64 (by omega) (by omega)
    simp only [hww]
    exact Ev.ifp trivial (Ev.ifp trivial (Ev.ifp (by omega) (Ev.eq (Ev.now _) (by simpa using ha.2))))
  · have ec : coloursV r c m = (-1, -1) := by unfold coloursV; rw [if_neg hv]
    rw [ec]
    exact Ev.ifp (by decide) (Ev.ifp rfl (Ev.ifp rfl (Ev.bind alive_ev (Ev.now _))))

end Go.Proofs.Ytbdkmkbkggnekaa.Pure
