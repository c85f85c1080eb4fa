/- For every code: at the board that the code draws TilingCount answers what the reference answers; with rows and columns exchanged there are as many tilings; where the colours have not the same numbers of free cells there is none; with one domino put on a corner in both ways they add up. No conditions beyond the code being bytes. -/
import Derived.Test.YtbdkmkbkggnekaaDoorPFnTilingCountx9
namespace Go.Proofs.YtbdkmkbkggnekaaDoor.Pure
open Go.RowKit Go.Proofs.YtbdkmkbkggnekaaDoor.PFnTilingCount Go.Proofs.YtbdkmkbkggnekaaDoorW.PrintWords Go.Proofs.YtbdkmkbkggnekaaDoorW.PrintLast Go.Proofs.YtbdkmkbkggnekaaDoorW.PrintMore
set_option linter.unusedVariables false
set_option linter.unusedSimpArgs false
/-! Ev: small steps. -/
theorem _root_.Go.Proofs.YtbdkmkbkggnekaaDoorW.PrintWords.Ev.ifp {α : Type} {c : Prop} [Decidable c] {g f : Nat → Option α} {r : α} (hc : c) (h : Ev g r) : Ev (fun k => if c then g k else f k) r :=
  Ev.congr (fun _ => if_pos hc) h
theorem _root_.Go.Proofs.YtbdkmkbkggnekaaDoorW.PrintWords.Ev.ifn {α : Type} {c : Prop} [Decidable c] {g f : Nat → Option α} {r : α} (hc : ¬ c) (h : Ev f r) : Ev (fun k => if c then g k else f k) r :=
  Ev.congr (fun _ => if_neg hc) h
theorem _root_.Go.Proofs.YtbdkmkbkggnekaaDoorW.PrintWords.Ev.bindc {α β : Type} {o : Option α} {f : Nat → α → Option β} {a : α} {r : β} (h : o = some a) (k : Ev (fun n => f n a) r) : Ev (fun n => o.bind (f n)) r := by
  subst h; exact k
theorem _root_.Go.Proofs.YtbdkmkbkggnekaaDoorW.PrintWords.Ev.eq {α : Type} {g : Nat → Option α} {r r' : α} (h : Ev g r) (e : r = r') : Ev g r' := e ▸ h
theorem _root_.Go.Proofs.YtbdkmkbkggnekaaDoorW.PrintWords.Ev.cst {α : Type} {o : Option α} {r : α} (h : o = some r) : Ev (fun _ => o) r := ⟨0, fun _ _ => h⟩
theorem w64 {x : Int} (h0 : -9223372036854775808 ≤ x) (h1 : x ≤ 9223372036854775807) : wrap64 x = x := by unfold wrap64; omega
theorem wf_i64 {x : Int} (h : (Lit.int .i64 x).wf = true) : -9223372036854775808 ≤ x ∧ x ≤ 9223372036854775807 := by
  have h2 : (decide (IntKind.i64.min ≤ x) && decide (x ≤ IntKind.i64.max)) = true := h
  simp [IntKind.min, IntKind.max, IntKind.bits, IntKind.signed] at h2
  exact h2
theorem wf_u8 {x : Int} (h : (Lit.int .u8 x).wf = true) : 0 ≤ x ∧ x ≤ 255 := by
  have h2 : (decide (IntKind.u8.min ≤ x) && decide (x ≤ IntKind.u8.max)) = true := h
  simp [IntKind.min, IntKind.max, IntKind.bits, IntKind.signed] at h2
  omega
theorem rd_nat (xs : List Int) (i : Nat) (h : i < xs.length) : rd xs (i : Int) = xs[i] := by
  simp [rd, List.getD_eq_getElem?_getD, h]
theorem rd_mem (xs : List Int) (i : Int) (h0 : 0 ≤ i) (h : i < xs.length) : rd xs i ∈ xs := by
  obtain ⟨n, rfl⟩ := Int.eq_ofNat_of_zero_le h0
  rw [rd_nat xs n (by omega)]; exact List.getElem_mem _
theorem l1In_f (a b c : Int) : spec_l1In.f a b c = some (decide (b ≤ a ∧ a ≤ c)) := by
  unfold spec_l1In.f
  by_cases h : a ≥ b
  · rw [if_pos h]; simp; omega
  · rw [if_neg h]; simp; omega
/-! Binary digits. -/
def bit (m : Int) (d : Nat) : Int := m / 2 ^ d % 2
theorem bit_01 (m : Int) (d : Nat) : bit m d = 0 ∨ bit m d = 1 := by unfold bit; omega
theorem shr_bit {m : Int} (h0 : 0 ≤ m) (d : Nat) (hd : d ≤ 64) : Int.tmod (shr .i64 m (d : Int)) 2 = bit m d := by
  have e : shr .i64 m (d : Int) = m / 2 ^ d := by
    unfold shr
    rw [show min (d : Int).toNat IntKind.i64.bits = d from by simp [IntKind.bits]; omega]
  rw [e, Int.tmod_eq_emod_of_nonneg (Int.ediv_nonneg h0 (Int.pow_nonneg (by decide)))]
  rfl
theorem shr_nat (m : Int) (d : Nat) (hd : d ≤ 64) : shr .i64 m (d : Int) = m / 2 ^ d := by
  unfold shr
  rw [show min (d : Int).toNat IntKind.i64.bits = d from by simp [IntKind.bits]; omega]
theorem and1_bit {x : Int} (h0 : 0 ≤ x) (h1 : x < 4611686018427387904) : Go.bits .and .i64 x 1 = x % 2 := by
  have := bits_mask .i64 62 (by decide) (fun n h h' => by rw [IntKind.wrap_i64]; omega) 1 (by decide) x h0 h1
  simpa using this
theorem bit_nat (a d : Nat) : bit (a : Int) d = if a.testBit d then 1 else 0 := by
  unfold bit
  rw [Nat.testBit_eq_decide_div_mod_eq]
  have e : ((a : Int) / 2 ^ d % 2) = ((a / 2 ^ d % 2 : Nat) : Int) := by push_cast; rfl
  rw [e]
  by_cases h : a / 2 ^ d % 2 = 1
  · simp [h]
  · have : a / 2 ^ d % 2 = 0 := by omega
    simp [this]
/-- What BoardValid answers. -/
def boardV (r c h : Int) : Bool := decide (1 ≤ r ∧ 1 ≤ c ∧ r ≤ 24 ∧ c ≤ 24 ∧ r * c ≤ 24 ∧ 0 ≤ h ∧ h < 2 ^ (r * c).toNat)
theorem mul_bd {r c : Int} (h1 : 1 ≤ r) (h2 : r ≤ 24) (h3 : 1 ≤ c) (h4 : c ≤ 24) : 1 ≤ r * c ∧ r * c ≤ 576 ∧ wrap64 (r * c) = r * c := by
  have a : 0 < r * c := Int.mul_pos (by omega) (by omega)
  have b : r * c ≤ 24 * 24 := Int.mul_le_mul h2 h4 (by omega) (by omega)
  exact ⟨by omega, by omega, w64 (by omega) (by omega)⟩
theorem shl1_all : ∀ n ∈ List.range 25, shl .i64 1 (n : Int) = 2 ^ n ∧ 1 ≤ (2 : Int) ^ n ∧ (2 : Int) ^ n ≤ 16777216 := by decide +kernel
theorem shl1 (n : Int) (h0 : 0 ≤ n) (h1 : n ≤ 24) : shl .i64 1 n = 2 ^ n.toNat ∧ 1 ≤ (2 : Int) ^ n.toNat ∧ (2 : Int) ^ n.toNat ≤ 16777216 := by
  have := shl1_all n.toNat (List.mem_range.2 (by omega))
  rw [show ((n.toNat : Nat) : Int) = n by omega] at this
  exact this
theorem impl_board (r c h : Int) : impl_BoardValid.f r c h = some (boardV r c h) := by
  unfold impl_BoardValid.f boardV
  by_cases c1 : r < 1
  · rw [if_pos c1]; simp; omega
  rw [if_neg c1]
  by_cases c2 : c < 1
  · rw [if_pos c2]; simp; omega
  rw [if_neg c2]
  by_cases c3 : r > 24
  · rw [if_pos c3]; simp; omega
  rw [if_neg c3]
  by_cases c4 : c > 24
  · rw [if_pos c4]; simp; omega
  rw [if_neg c4]
  have hm := mul_bd (r := r) (c := c) (by omega) (by omega) (by omega) (by omega)
  rw [hm.2.2]
  generalize r * c = n at hm
  by_cases c5 : n > 24
  · rw [if_pos c5]; simp; omega
  rw [if_neg c5]
  have hs := shl1 n (by omega) (by omega)
  by_cases c6 : h ≥ 0
  · rw [if_pos c6, if_pos (by omega), hs.1]; simp only [Option.some.injEq, decide_eq_decide]; omega
  · rw [if_neg c6]; simp; omega
theorem spec_board (r c h : Int) : spec_BoardValid.f r c h = some (boardV r c h) := by
  unfold spec_BoardValid.f boardV
  rw [l1In_f, l1In_f]
  simp only [Option.bind_some]
  by_cases c1 : 1 ≤ r ∧ r ≤ 24
  · rw [if_pos (by simpa using c1)]
    by_cases c2 : 1 ≤ c ∧ c ≤ 24
    · rw [if_pos (by simpa using c2)]
      have hm := mul_bd (r := r) (c := c) (by omega) (by omega) (by omega) (by omega)
      rw [hm.2.2]
      generalize r * c = n at hm
      by_cases c5 : n ≤ 24
      · have hs := shl1 n (by omega) (by omega)
        rw [if_pos c5, if_pos (by omega), hs.1, l1In_f, w64 (by omega) (by omega)]
        simp only [Option.bind_some, Option.some.injEq, decide_eq_decide]; omega
      · rw [if_neg c5]; simp; omega
    · rw [if_neg (by simpa using c2)]; simp; omega
  · rw [if_neg (by simpa using c1)]; simp; omega
/-! The colours of the free cells. -/
def par (c : Int) (i : Nat) : Int := ((i : Int) / c + (i : Int) % c) % 2
def cnt (c h p : Int) (a d : Nat) : Int := ((List.range' a d).countP (fun i => bit h i == 0 && par c i == p) : Nat)
theorem par_01 (c : Int) (i : Nat) : par c i = 0 ∨ par c i = 1 := by unfold par; omega
theorem cnt_succ (c h p : Int) (a d : Nat) : cnt c h p a (d + 1) = (if bit h a = 0 ∧ par c a = p then 1 else 0) + cnt c h p (a + 1) d := by
  unfold cnt
  rw [List.range'_succ, List.countP_cons]
  by_cases h1 : bit h a = 0
  · by_cases h2 : par c a = p
    · simp [h1, h2]; omega
    · simp [h1, h2]
  · simp [h1]
theorem cnt_le (c h p : Int) (a d : Nat) : 0 ≤ cnt c h p a d ∧ cnt c h p a d ≤ d := by
  unfold cnt
  have := List.countP_le_length (p := fun i => bit h i == 0 && par c i == p) (l := List.range' a d)
  rw [List.length_range'] at this
  omega
/-- What BoardColours answers. -/
def coloursV (r c h : Int) : Int × Int := if boardV r c h = true then (cnt c h 0 0 (r * c).toNat, cnt c h 1 0 (r * c).toNat) else (-1, -1)
theorem par_eq (c : Int) (i : Nat) (hc : 1 ≤ c) (hc2 : c ≤ 24) (hi : i ≤ 1000) : Int.tmod (wrap64 ((wrap64 (Int.tdiv (i : Int) c)) + (Int.tmod (i : Int) c))) 2 = par c i := by
  have h1 : 0 ≤ (i : Int) / c := Int.ediv_nonneg (by omega) (by omega)
  have h2 : (i : Int) / c ≤ i := Int.ediv_le_self _ (by omega)
  have h3 : 0 ≤ (i : Int) % c := Int.emod_nonneg _ (by omega)
  have h4 : (i : Int) % c < c := Int.emod_lt_of_pos _ (by omega)
  rw [Int.tdiv_eq_ediv_of_nonneg (by omega), Int.tmod_eq_emod_of_nonneg (show (0 : Int) ≤ i by omega), w64 (x := (i : Int) / c) (by omega) (by omega), w64 (by omega) (by omega), Int.tmod_eq_emod_of_nonneg (by omega)]
  rfl
theorem boardV_ok {r c h : Int} (hv : boardV r c h = true) : 1 ≤ r ∧ 1 ≤ c ∧ r ≤ 24 ∧ c ≤ 24 ∧ 1 ≤ r * c ∧ r * c ≤ 24 ∧ 0 ≤ h ∧ h < 2 ^ (r * c).toNat ∧ h < 16777216 ∧ wrap64 (r * c) = r * c := by
  unfold boardV at hv
  rw [decide_eq_true_eq] at hv
  obtain ⟨h1, h2, h3, h4, h5, h6, h7⟩ := hv
  have hm := mul_bd (r := r) (c := c) (by omega) (by omega) (by omega) (by omega)
  have hs := shl1 (r * c) (by omega) (by omega)
  exact ⟨h1, h2, h3, h4, hm.1, h5, h6, h7, by omega, hm.2.2⟩
theorem impl_colours_l (c h : Int) (n : Nat) (hn2 : n ≤ 24) (hc : 1 ≤ c) (hc2 : c ≤ 24) (hh : 0 ≤ h) (hh2 : h < 4611686018427387904) : ∀ (d i : Nat) (e o : Int), n = i + d → 0 ≤ e → e + d ≤ 1000 → 0 ≤ o → o + d ≤ 1000 →
    Ev (fun k => impl_BoardColours.l0 k e o i n c h) (e + cnt c h 0 i d, o + cnt c h 1 i d) := by
  intro d
  induction d with
  | zero =>
    intro i e o hi _ _ _ _
    exact Ev.step (fun k => by rw [impl_BoardColours.l0]) (Ev.ifn (by omega) (Ev.eq (Ev.now _) (by simp [cnt])))
  | succ d ih =>
    intro i e o hi h1 h2 h3 h4
    have hw : wrap64 ((i : Int) + 1) = ((i + 1 : Nat) : Int) := by rw [w64 (by omega) (by omega)]; omega
    have hb0 : Go.bits .and .i64 (shr .i64 h (i : Int)) 1 = bit h i := by
      have hq : h / 2 ^ i ≤ h := Int.ediv_le_self _ hh
      rw [shr_nat _ _ (by omega), and1_bit (Int.ediv_nonneg hh (Int.pow_nonneg (by decide))) (by omega)]
      rfl
    refine Ev.step (fun k => by rw [impl_BoardColours.l0]) ?_
    rw [hw, hb0, par_eq c i hc hc2 (by omega), w64 (x := e + 1) (by omega) (by omega), w64 (x := o + 1) (by omega) (by omega), cnt_succ, cnt_succ]
    refine Ev.ifp (by omega) (Ev.ifp (by omega) ?_)
    rcases bit_01 h i with hb | hb <;> rw [hb]
    · refine Ev.ifp rfl (Ev.ifn (by omega) ?_)
      rcases par_01 c i with hp | hp <;> rw [hp]
      · exact Ev.ifp rfl (Ev.eq (ih (i + 1) (e + 1) o (by omega) (by omega) (by omega) (by omega) (by omega)) (by simp; omega))
      · exact Ev.ifn (by omega) (Ev.ifp rfl (Ev.eq (ih (i + 1) e (o + 1) (by omega) (by omega) (by omega) (by omega) (by omega)) (by simp; omega)))
    · exact Ev.ifn (by omega) (Ev.eq (ih (i + 1) e o (by omega) (by omega) (by omega) (by omega) (by omega)) (by simp))
theorem impl_colours (r c h : Int) : Ev (fun k => impl_BoardColours.f k r c h) (coloursV r c h) := by
  unfold impl_BoardColours.f coloursV
  refine Ev.bindc (impl_board r c h) ?_
  by_cases hv : boardV r c h = true
  · obtain ⟨h1, h2, h3, h4, h5, h6, h7, h8, h9, h10⟩ := boardV_ok hv
    refine Ev.ifp hv ?_
    have := impl_colours_l c h (r * c).toNat (by omega) h2 h4 h7 (by omega) (r * c).toNat 0 0 0 (by omega) (by omega) (by omega) (by omega) (by omega)
    rw [h10, if_pos hv]
    rw [show (((r * c).toNat : Nat) : Int) = r * c by omega] at this
    simpa using this
  · exact Ev.ifn hv (Ev.eq (Ev.now _) (by rw [if_neg hv]))
theorem boardV_nat {r c x : Nat} (h1 : 1 ≤ r) (h2 : 1 ≤ c) (h3 : r * c ≤ 24) (hx : x < 2 ^ (r * c)) : boardV (r : Int) (c : Int) (x : Int) = true := by
  have hr : r ≤ 24 := Nat.le_trans (Nat.le_mul_of_pos_right r (by omega)) h3
  have hc : c ≤ 24 := Nat.le_trans (Nat.le_mul_of_pos_left c (by omega)) h3
  unfold boardV
  rw [decide_eq_true_eq]
  have e : (r : Int) * (c : Int) = ((r * c : Nat) : Int) := by simp
  rw [e, Int.toNat_natCast]
  refine ⟨by omega, by omega, by omega, by omega, by omega, by omega, ?_⟩
  exact_mod_cast hx
/-! The board with rows and columns exchanged. -/
def sg (r c k : Nat) : Nat := k % c * r + k / c
theorem sg_all : ∀ r ∈ List.range 25, ∀ c ∈ List.range 25, 1 ≤ r → 1 ≤ c → r * c ≤ 24 →
    ((List.range (r * c)).map (sg r c)).isPerm (List.range (r * c)) = true ∧ (∀ k ∈ List.range (r * c), sg r c k < r * c ∧ sg r c k / r = k % c ∧ sg r c k % r = k / c) ∧
    (∀ k ∈ List.range (r * c), ∀ j ∈ List.range (r * c), sg r c k = sg r c j → k = j) := by decide +kernel
theorem sg_ok {r c : Nat} (h1 : 1 ≤ r) (h2 : 1 ≤ c) (h3 : r * c ≤ 24) :
    ((List.range (r * c)).map (sg r c)).Perm (List.range (r * c)) ∧ (∀ k, k < r * c → sg r c k < r * c ∧ sg r c k / r = k % c ∧ sg r c k % r = k / c) ∧ (∀ k j, k < r * c → j < r * c → sg r c k = sg r c j → k = j) := by
  have hr : r ≤ 24 := Nat.le_trans (Nat.le_mul_of_pos_right r (by omega)) h3
  have hc : c ≤ 24 := Nat.le_trans (Nat.le_mul_of_pos_left c (by omega)) h3
  have h := sg_all r (List.mem_range.2 (by omega)) c (List.mem_range.2 (by omega)) h1 h2 h3
  exact ⟨List.isPerm_iff.1 h.1, fun k hk => h.2.1 k (List.mem_range.2 hk), fun k j hk hj => h.2.2 k (List.mem_range.2 hk) j (List.mem_range.2 hj)⟩
def TN (r c x : Nat) (acc : Nat) : Nat → Nat → Nat
  | _, 0 => acc
  | i, d + 1 => TN r c x (if x.testBit i then acc ||| 2 ^ sg r c i else acc) (i + 1) d
theorem TN_bit (r c x : Nat) (m : Nat) : ∀ (d i acc : Nat), (TN r c x acc i d).testBit m = (acc.testBit m || (List.range' i d).any (fun k => x.testBit k && decide (sg r c k = m))) := by
  intro d
  induction d with
  | zero => intro i acc; simp [TN]
  | succ d ih =>
    intro i acc
    simp only [TN]
    rw [ih, List.range'_succ, List.any_cons]
    cases hx : x.testBit i
    · simp
    · rw [if_pos rfl, Nat.testBit_or, Nat.testBit_two_pow]
      simp [Bool.or_assoc]
theorem TN_lt (r c x n : Nat) (hs : ∀ k, k < n → sg r c k < n) : ∀ (d i acc : Nat), i + d ≤ n → acc < 2 ^ n → TN r c x acc i d < 2 ^ n := by
  intro d
  induction d with
  | zero => intro i acc _ h; exact h
  | succ d ih =>
    intro i acc hi ha
    simp only [TN]
    refine ih (i + 1) _ (by omega) ?_
    split
    · exact Nat.or_lt_two_pow ha (Nat.pow_lt_pow_right (by omega) (hs i (by omega)))
    · exact ha
def turnN (r c x : Nat) : Nat := TN r c x 0 0 (r * c)
theorem turn_bit {r c : Nat} (h1 : 1 ≤ r) (h2 : 1 ≤ c) (h3 : r * c ≤ 24) (x k : Nat) (hk : k < r * c) : (turnN r c x).testBit (sg r c k) = x.testBit k := by
  have h := sg_ok h1 h2 h3
  unfold turnN
  rw [TN_bit, Nat.zero_testBit, Bool.false_or]
  cases hx : x.testBit k
  · rw [List.any_eq_false]
    intro j hj
    rw [List.mem_range'_1] at hj
    intro hc
    simp only [Bool.and_eq_true, decide_eq_true_eq] at hc
    have := h.2.2 j k (by omega) hk hc.2
    subst this
    rw [hx] at hc
    simp at hc
  · rw [List.any_eq_true]
    exact ⟨k, by rw [List.mem_range'_1]; omega, by simp [hx]⟩
theorem par_turn {r c : Nat} (h1 : 1 ≤ r) (h2 : 1 ≤ c) (h3 : r * c ≤ 24) (k : Nat) (hk : k < r * c) : par (r : Int) (sg r c k) = par (c : Int) k := by
  have h := (sg_ok h1 h2 h3).2.1 k hk
  unfold par
  have e1 : ((sg r c k : Nat) : Int) / (r : Int) = ((k % c : Nat) : Int) := by rw [← h.2.1]; simp
  have e2 : ((sg r c k : Nat) : Int) % (r : Int) = ((k / c : Nat) : Int) := by rw [← h.2.2]; simp
  have e3 : (k : Int) / (c : Int) = ((k / c : Nat) : Int) := by simp
  have e4 : (k : Int) % (c : Int) = ((k % c : Nat) : Int) := by simp
  rw [e1, e2, e3, e4]
  omega
theorem cnt_turn {r c : Nat} (h1 : 1 ≤ r) (h2 : 1 ≤ c) (h3 : r * c ≤ 24) (x : Nat) (p : Int) : cnt (r : Int) (turnN r c x : Int) p 0 (r * c) = cnt (c : Int) (x : Int) p 0 (r * c) := by
  have h := sg_ok h1 h2 h3
  unfold cnt
  rw [← List.range_eq_range', ← h.1.countP_eq, List.countP_map]
  congr 1
  apply List.countP_congr
  intro k hk
  rw [List.mem_range] at hk
  simp only [Function.comp]
  rw [bit_nat, bit_nat, turn_bit h1 h2 h3 x k hk, par_turn h1 h2 h3 k hk]
theorem alt_all : ∀ r ∈ List.range 25, ∀ c ∈ List.range 25, 1 ≤ r → 1 ≤ c → r * c ≤ 24 → 0 ≤ cnt (c : Int) 0 0 0 (r * c) - cnt (c : Int) 0 1 0 (r * c) ∧ cnt (c : Int) 0 0 0 (r * c) - cnt (c : Int) 0 1 0 (r * c) ≤ 1 := by decide +kernel
theorem laws_turned_l {r c : Nat} (h1 : 1 ≤ r) (h2 : 1 ≤ c) (h3 : r * c ≤ 24) (x : Nat) (hx : x < 2 ^ (r * c)) : ∀ (d i acc : Nat), r * c = i + d → acc < 2 ^ (r * c) →
    Ev (fun k => laws_turned.l0 k i r c x c r acc) ((c : Int), (r : Int), ((TN r c x acc i d : Nat) : Int)) := by
  have hs := sg_ok h1 h2 h3
  have hr : r ≤ 24 := Nat.le_trans (Nat.le_mul_of_pos_right r (by omega)) h3
  have hc : c ≤ 24 := Nat.le_trans (Nat.le_mul_of_pos_left c (by omega)) h3
  have hp : 2 ^ (r * c) ≤ 2 ^ 24 := Nat.pow_le_pow_right (by omega) h3
  have hrc : wrap64 ((r : Int) * (c : Int)) = ((r * c : Nat) : Int) := by rw [w64 (by have := Int.natCast_mul r c; omega) (by have := Int.natCast_mul r c; omega)]; simp
  intro d
  induction d with
  | zero =>
    intro i acc hi ha
    refine Ev.step (fun k => by rw [laws_turned.l0]) ?_
    rw [hrc]
    exact Ev.ifn (by omega) (Ev.now _)
  | succ d ih =>
    intro i acc hi ha
    have hw : wrap64 ((i : Int) + 1) = ((i + 1 : Nat) : Int) := by rw [w64 (by omega) (by omega)]; omega
    have hk := hs.2.1 i (by omega)
    have hsg : wrap64 ((wrap64 ((Int.tmod (i : Int) (c : Int)) * (r : Int))) + (wrap64 (Int.tdiv (i : Int) (c : Int)))) = ((sg r c i : Nat) : Int) := by
      have e1 : Int.tmod (i : Int) (c : Int) = ((i % c : Nat) : Int) := by rw [Int.tmod_eq_emod_of_nonneg (by omega)]; simp
      have e2 : Int.tdiv (i : Int) (c : Int) = ((i / c : Nat) : Int) := by rw [Int.tdiv_eq_ediv_of_nonneg (by omega)]; simp
      have e3 : ((i % c : Nat) : Int) * (r : Int) = ((i % c * r : Nat) : Int) := by simp
      have b1 : i % c * r + i / c < r * c := hk.1
      rw [e1, e2, e3, w64 (x := ((i / c : Nat) : Int)) (by omega) (by omega), w64 (x := ((i % c * r : Nat) : Int)) (by omega) (by omega), w64 (by omega) (by omega)]
      unfold sg
      omega
    refine Ev.step (fun k => by rw [laws_turned.l0]) ?_
    rw [hrc, hw, hsg, shr_bit (by omega) i (by omega), bit_nat]
    refine Ev.ifp (by omega) (Ev.ifp (by omega) ?_)
    simp only [TN]
    cases hb : x.testBit i
    · exact Ev.ifn (by simp) (Ev.eq (ih (i + 1) acc (by omega) ha) (by simp))
    · have hle : sg r c i ≤ 24 := Nat.le_trans (Nat.le_of_lt hk.1) h3
      have hsh := shl1 ((sg r c i : Nat) : Int) (Int.natCast_nonneg _) (by exact_mod_cast hle)
      have h2p : (2 : Int) ^ ((sg r c i : Nat) : Int).toNat = ((2 ^ sg r c i : Nat) : Int) := by simp
      have hlt : 2 ^ sg r c i < 2 ^ (r * c) := Nat.pow_lt_pow_right (by omega) hk.1
      have hor : Go.bits .or .i64 (acc : Int) (shl .i64 1 ((sg r c i : Nat) : Int)) = ((acc ||| 2 ^ sg r c i : Nat) : Int) := by
        rw [hsh.1, h2p]
        exact (bits_nat .i64 62 (by decide) (fun n h h' => by rw [IntKind.wrap_i64]; omega) acc (2 ^ sg r c i) (Nat.lt_of_lt_of_le ha (Nat.pow_le_pow_right (by decide) (Nat.le_trans h3 (by decide)))) (Nat.lt_of_lt_of_le hlt (Nat.pow_le_pow_right (by decide) (Nat.le_trans h3 (by decide))))).2
      refine Ev.ifp (by simp) (Ev.ifn (by omega) (Ev.ifp (Int.natCast_nonneg _) ?_))
      rw [hor]
      exact Ev.eq (ih (i + 1) _ (by omega) (Nat.or_lt_two_pow ha hlt)) (by simp)
theorem turned_ev {r c : Nat} (h1 : 1 ≤ r) (h2 : 1 ≤ c) (h3 : r * c ≤ 24) (x : Nat) (hx : x < 2 ^ (r * c)) : Ev (fun k => laws_turned.f k r c x) ((c : Int), (r : Int), ((turnN r c x : Nat) : Int)) := by
  unfold laws_turned.f turnN
  exact laws_turned_l h1 h2 h3 x hx (r * c) 0 0 (by omega) (Nat.two_pow_pos _)
theorem turnN_lt {r c : Nat} (h1 : 1 ≤ r) (h2 : 1 ≤ c) (h3 : r * c ≤ 24) (x : Nat) : turnN r c x < 2 ^ (r * c) :=
  TN_lt r c x (r * c) (fun k hk => ((sg_ok h1 h2 h3).2.1 k hk).1) (r * c) 0 0 (by omega) (Nat.two_pow_pos _)
/-! The reader of draws: only that each number drawn lies in its range. -/
structure Byts (b : List Int) : Prop where
  len : b.length ≤ 2000
  val : ∀ x ∈ b, 0 ≤ x ∧ x ≤ 255
theorem xor_nn {a b : Int} (ha : 0 ≤ a) (ha1 : a < 4611686018427387904) (hb : 0 ≤ b) (hb1 : b < 4611686018427387904) : 0 ≤ Go.bits .xor .i64 a b := by
  obtain ⟨m, rfl⟩ := Int.eq_ofNat_of_zero_le ha
  obtain ⟨n, rfl⟩ := Int.eq_ofNat_of_zero_le hb
  have h : (m ^^^ n) < 2 ^ 62 := Nat.xor_lt_two_pow (by omega) (by omega)
  have hm : m % 2 ^ IntKind.i64.bits = m := Nat.mod_eq_of_lt (show m < 2 ^ 64 by omega)
  have hn : n % 2 ^ IntKind.i64.bits = n := Nat.mod_eq_of_lt (show n < 2 ^ 64 by omega)
  simp only [Go.bits, BitVec.ofInt_natCast, BitVec.toNat_xor, BitVec.toNat_ofNat, hm, hn]
  rw [IntKind.wrap_i64]
  omega
theorem open_ok (l : List Int) (h : l.length ≤ maxLen) (hb : ∀ x ∈ l, (Lit.int .u8 x).wf = true) : ∃ b, spec_l20Open.f l = some (b, 0) ∧ Byts b := by
  unfold spec_l20Open.f
  by_cases c : (l.length : Int) > 2000
  · rw [if_pos c, if_pos (by omega)]
    exact ⟨_, rfl, by rw [List.length_take]; omega, fun x hx => wf_u8 (hb x (List.mem_of_mem_take hx))⟩
  · rw [if_neg c]
    exact ⟨_, rfl, by omega, fun x hx => wf_u8 (hb x hx)⟩
theorem pick_any {b : List Int} (hb : Byts b) {p : Int} (hp : 0 ≤ p) (hp1 : p ≤ 1000000) (n : Int) (hn1 : n ≤ 9223372036854775807) :
    ∃ r, Ev (fun k => spec_l20Rd_pick.f k b p n) (r, p + 1) ∧ 0 ≤ r ∧ (1 ≤ n → r < n) ∧ (n < 1 → r = 0) := by
  have hw : wrap64 (p + 1) = p + 1 := w64 (by omega) (by omega)
  have hw2 : wrap64 (p + 1 - 1) = p := by rw [w64 (by omega) (by omega)]; omega
  have hl := hb.len
  unfold spec_l20Rd_pick.f
  by_cases c : n < 1
  · refine ⟨0, Ev.ifp c (Ev.step (f := fun _ => some (0, p + 1)) (fun k => ?_) (Ev.now _)), by omega, by omega, fun _ => rfl⟩
    rw [spec_l20Rd_pick.j0]; rw [if_pos rfl, hw]
  · by_cases c0 : b.length = 0
    · refine ⟨0, Ev.ifn c (Ev.step (f := fun _ => some (0, p + 1)) (fun k => ?_) (Ev.now _)), by omega, by omega, fun _ => rfl⟩
      rw [spec_l20Rd_pick.j0]
      rw [c0, if_pos (by decide), hw]
    · have c0' : ((b.length : Int) == 0) = false := by simp; intro h; simp [h] at c0
      by_cases c1 : p < (b.length : Int)
      · have hm := hb.val _ (rd_mem b p hp c1)
        refine ⟨Int.tmod (rd b p) n, Ev.ifn c (Ev.step (f := fun _ => some (Int.tmod (rd b p) n, p + 1)) (fun k => ?_) (Ev.now _)), Int.tmod_nonneg _ hm.1, fun h => Int.tmod_lt_of_pos _ (by omega), fun h => absurd h c⟩
        rw [spec_l20Rd_pick.j0]
        rw [c0', if_neg (by decide), hw, hw2, if_pos c1, if_pos hp, if_neg (by omega), w64 (by omega) (by omega)]
      · have hL : (0 : Int) < (b.length : Int) := by omega
        have e1 := Int.tmod_nonneg (b.length : Int) hp
        have e2 := Int.tmod_lt_of_pos p hL
        have k7 : wrap64 (p * 7) = p * 7 := w64 (by omega) (by omega)
        have k73 : wrap64 (p * 7 + 3) = p * 7 + 3 := w64 (by omega) (by omega)
        have e3 := Int.tmod_nonneg (b.length : Int) (show 0 ≤ p * 7 + 3 by omega)
        have e4 := Int.tmod_lt_of_pos (p * 7 + 3) hL
        have m1 := hb.val _ (rd_mem b _ e1 e2)
        have m2 := hb.val _ (rd_mem b _ e3 e4)
        have d0 : Int.tdiv p (b.length : Int) = p / (b.length : Int) := Int.tdiv_eq_ediv_of_nonneg hp
        have d1 : 0 ≤ p / (b.length : Int) := Int.ediv_nonneg hp (by omega)
        have d2 : p / (b.length : Int) ≤ p := Int.ediv_le_self _ hp
        generalize hx1 : rd b (Int.tmod p (b.length : Int)) = x1 at m1
        generalize hx2 : rd b (Int.tmod (p * 7 + 3) (b.length : Int)) = x2 at m2
        generalize hq : p / (b.length : Int) = q at d0 d1 d2
        have hX : 0 ≤ Go.bits .xor .i64 (x1 * 131 + x2 * 1117 + p * 29 + q * 53) ((x1 * 131 + x2 * 1117 + p * 29 + q * 53) / 64) := xor_nn (by omega) (by omega) (by omega) (by omega)
        generalize hR : Go.bits .xor .i64 (x1 * 131 + x2 * 1117 + p * 29 + q * 53) ((x1 * 131 + x2 * 1117 + p * 29 + q * 53) / 64) = X at hX
        refine ⟨Int.tmod X n, Ev.ifn c (Ev.step (f := fun _ => some (Int.tmod X n, p + 1)) (fun k => ?_) (Ev.now _)), Int.tmod_nonneg _ hX, fun h => Int.tmod_lt_of_pos _ (by omega), fun h => absurd h c⟩
        rw [spec_l20Rd_pick.j0]
        rw [c0', if_neg (by decide), hw, hw2, if_neg c1, if_neg (by omega), k7, k73, if_pos e1, if_pos e2, if_pos e3, if_pos e4, if_neg (by omega), hx1, hx2, d0]
        rw [w64 (x := x1) (by omega) (by omega), w64 (x := x2) (by omega) (by omega), w64 (x := q) (by omega) (by omega), w64 (x := x1 * 131) (by omega) (by omega), w64 (x := x2 * 1117) (by omega) (by omega), w64 (x := p * 29) (by omega) (by omega), w64 (x := q * 53) (by omega) (by omega)]
        rw [w64 (x := x1 * 131 + x2 * 1117) (by omega) (by omega), w64 (x := x1 * 131 + x2 * 1117 + p * 29) (by omega) (by omega), w64 (x := x1 * 131 + x2 * 1117 + p * 29 + q * 53) (by omega) (by omega)]
        rw [Int.tdiv_eq_ediv_of_nonneg (by omega), w64 (by omega) (by omega), hR]
theorem odd_any {b : List Int} (hb : Byts b) {p : Int} (hp : 0 ≤ p) (hp1 : p ≤ 1000000) (n : Int) (hn1 : n ≤ 9223372036854775807) :
    ∃ r q, Ev (fun k => spec_l20Rd_odd.f k b p n) (r, q) ∧ p ≤ q ∧ q ≤ p + 1 := by
  unfold spec_l20Rd_odd.f
  by_cases c : n > 0
  · obtain ⟨r, e, _⟩ := pick_any hb hp hp1 n hn1
    exact ⟨_, _, Ev.ifp c (Ev.bind e (Ev.now _)), by omega, by omega⟩
  · exact ⟨_, _, Ev.ifn c (Ev.now _), by omega, by omega⟩
theorem drawBoard_l {b : List Int} (hb : Byts b) (n : Int) (hn : n ≤ 1000) (r c : Int) (hr : 1 ≤ r ∧ r ≤ 4) (hc : 1 ≤ c ∧ c ≤ 6) : ∀ (d : Nat) (h p : Int), 0 ≤ p → p ≤ 500 - d →
    ∃ q, Ev (fun k => spec_l20Board.l0 k n d b p r c h) q := by
  have hm := mul_bd (r := r) (c := c) (by omega) (by omega) (by omega) (by omega)
  have hm1 : r * c ≤ 4 * 6 := Int.mul_le_mul hr.2 hc.2 (by omega) (by omega)
  intro d
  induction d with
  | zero =>
    intro h p hp hp1
    obtain ⟨o, p1, eo, ho1, ho2⟩ := odd_any hb hp (by omega) n (by omega)
    suffices H : ∃ q, Ev (fun k => if o = true then ((spec_l20Rd_pick.f k b p1 3).bind fun bt134 => (if bt134.1 = 0 then ((some (([0, 25, 7] : List Int) : List Int)).bind fun y136 => ((spec_l20Rd_pick.f k b bt134.2 3).bind fun bt139 => (if 0 ≤ bt139.1 then (if bt139.1 < (y136.length : Int) then (some (rd y136 bt139.1, c, h, bt139.2)) else (none)) else (none)))) else (if bt134.1 = 1 then ((some (([0, 25] : List Int) : List Int)).bind fun y142 => ((spec_l20Rd_pick.f k b bt134.2 2).bind fun bt145 => (if 0 ≤ bt145.1 then (if bt145.1 < (y142.length : Int) then (some (r, rd y142 bt145.1, h, bt145.2)) else (none)) else (none)))) else (if 0 ≤ (wrap64 (r * c)) then ((some (([(-1), shl .i64 1 (wrap64 (r * c))] : List Int) : List Int)).bind fun y148 => ((spec_l20Rd_pick.f k b bt134.2 2).bind fun bt151 => (if 0 ≤ bt151.1 then (if bt151.1 < (y148.length : Int) then (some (r, c, rd y148 bt151.1, bt151.2)) else (none)) else (none)))) else (none))))) else (some (r, c, h, p1))) q by
      obtain ⟨q, e⟩ := H
      refine ⟨q, Ev.step (fun k => by rw [spec_l20Board.l0]) ?_⟩
      exact Ev.ifn (by omega) (Ev.bind eo e)
    cases o with
    | false => exact ⟨_, Ev.ifn (by decide) (Ev.now _)⟩
    | true =>
      obtain ⟨r1, e1, h1, h1', _⟩ := pick_any hb (p := p1) (by omega) (by omega) 3 (by omega)
      by_cases c1 : r1 = 0
      · obtain ⟨r2, e2, h2, h2', _⟩ := pick_any hb (p := p1 + 1) (by omega) (by omega) 3 (by omega)
        exact ⟨_, Ev.ifp rfl (Ev.bind e1 (Ev.ifp c1 (Ev.bindc rfl (Ev.bind e2 (Ev.ifp h2 (Ev.ifp (by simp; omega) (Ev.now _)))))))⟩
      · obtain ⟨r2, e2, h2, h2', _⟩ := pick_any hb (p := p1 + 1) (by omega) (by omega) 2 (by omega)
        by_cases c2 : r1 = 1
        · exact ⟨_, Ev.ifp rfl (Ev.bind e1 (Ev.ifn c1 (Ev.ifp c2 (Ev.bindc rfl (Ev.bind e2 (Ev.ifp h2 (Ev.ifp (by simp; omega) (Ev.now _))))))))⟩
        · exact ⟨_, Ev.ifp rfl (Ev.bind e1 (Ev.ifn c1 (Ev.ifn c2 (Ev.ifp (by omega) (Ev.bindc rfl (Ev.bind e2 (Ev.ifp h2 (Ev.ifp (by simp; omega) (Ev.now _)))))))))⟩
  | succ d ih =>
    intro h p hp hp1
    have hw : wrap64 (((d + 1 : Nat) : Int) - 1) = (d : Int) := by rw [w64 (by omega) (by omega)]; omega
    obtain ⟨r1, e1, h1, h1', _⟩ := pick_any hb (p := p) (by omega) (by omega) (wrap64 (r * c)) (by omega)
    obtain ⟨q, e⟩ := ih (Go.bits .or .i64 h (shl .i64 1 r1)) (p + 1) (by omega) (by omega)
    refine ⟨q, Ev.step (fun k => by rw [spec_l20Board.l0]) ?_⟩
    refine Ev.ifp (by omega) (Ev.bind e1 (Ev.ifp h1 ?_))
    rw [hw]; exact e
theorem drawBoard {b : List Int} (hb : Byts b) (n : Int) (hn : n ≤ 1000) : ∃ q, Ev (fun k => spec_l20Board.f k b 0 n) q := by
  obtain ⟨r1, e1, h1, h1', _⟩ := pick_any hb (p := 0) (by omega) (by omega) 4 (by omega)
  obtain ⟨r2, e2, h2, h2', _⟩ := pick_any hb (p := 0 + 1) (by omega) (by omega) 6 (by omega)
  obtain ⟨r3, e3, h3, h3', _⟩ := pick_any hb (p := 0 + 1 + 1) (by omega) (by omega) 5 (by omega)
  have a1 := h1' (by omega)
  have a2 := h2' (by omega)
  have a3 := h3' (by omega)
  obtain ⟨q, e⟩ := drawBoard_l hb n hn (1 + r1) (1 + r2) (by omega) (by omega) r3.toNat 0 (0 + 1 + 1 + 1) (by omega) (by omega)
  refine ⟨q, ?_⟩
  unfold spec_l20Board.f
  refine Ev.bind e1 (Ev.bind e2 (Ev.bind e3 ?_))
  rw [w64 (x := 1 + r1) (by omega) (by omega), w64 (x := 1 + r2) (by omega) (by omega)]
  rw [show ((r3.toNat : Nat) : Int) = r3 by omega] at e
  exact e
theorem alive_ev : Ev (fun k => laws_alive.f k) true := Ev.of (fun k => laws_alive.mono k) (k := 20) (by decide +kernel)
/-! Matchings: in how many ways cells can be paired with neighbours. -/
def mat (adj : Nat → Nat → Bool) : Nat → List Nat → Nat
  | _, [] => 1
  | 0, _ :: _ => 0
  | k + 1, a :: S => ((S.filter (adj a)).map fun d => mat adj k (S.erase d)).sum
theorem mat_cons (adj : Nat → Nat → Bool) (k a : Nat) (S : List Nat) : mat adj (k + 1) (a :: S) = ((S.filter (adj a)).map fun d => mat adj k (S.erase d)).sum := rfl
theorem sum_map_congr {α : Type} (l : List α) (f g : α → Nat) (h : ∀ x ∈ l, f x = g x) : (l.map f).sum = (l.map g).sum := by
  rw [List.map_congr_left h]
theorem sum_filter (l : List Nat) (p : Nat → Bool) (f : Nat → Nat) : ((l.filter p).map f).sum = (l.map fun x => if p x = true then f x else 0).sum := by
  induction l with
  | nil => rfl
  | cons x l ih =>
    rw [List.filter_cons]
    by_cases c : p x = true
    · rw [if_pos c]; simp only [List.map_cons, List.sum_cons, if_pos c]; rw [ih]
    · rw [if_neg c]; simp only [List.map_cons, List.sum_cons, if_neg c]; rw [ih]; omega
theorem sum_erase (l : List Nat) (hn : l.Nodup) (d : Nat) (f : Nat → Nat) : ((l.erase d).map f).sum = (l.map fun x => if x = d then 0 else f x).sum := by
  induction l with
  | nil => rfl
  | cons x l ih =>
    have h1 := List.nodup_cons.1 hn
    by_cases c : x = d
    · subst c
      rw [List.erase_cons_head]
      simp only [List.map_cons, List.sum_cons, if_true, Nat.zero_add]
      refine sum_map_congr _ _ _ (fun y hy => ?_)
      rw [if_neg (show ¬ y = x from fun e => h1.1 (e ▸ hy))]
    · rw [List.erase_cons_tail (by simp [c])]
      simp only [List.map_cons, List.sum_cons, if_neg c, ih h1.2]
theorem sum_add (l : List Nat) (f g : Nat → Nat) : (l.map fun x => f x + g x).sum = (l.map f).sum + (l.map g).sum := by
  induction l with
  | nil => rfl
  | cons x l ih => simp only [List.map_cons, List.sum_cons, ih]; omega
theorem sum_comm (l m : List Nat) (F : Nat → Nat → Nat) : (l.map fun x => (m.map fun y => F x y).sum).sum = (m.map fun y => (l.map fun x => F x y).sum).sum := by
  induction l with
  | nil => simp; induction m with
    | nil => rfl
    | cons y m ih => simpa using ih
  | cons x l ih =>
    simp only [List.map_cons, List.sum_cons]
    rw [ih, sum_add]
theorem sum_perm {l m : List Nat} (h : l.Perm m) (f : Nat → Nat) : (l.map f).sum = (m.map f).sum := by
  have h2 := h.map f
  generalize l.map f = a at h2
  generalize m.map f = b at h2
  induction h2 with
  | nil => rfl
  | cons x _ ih => simp [ih]
  | swap x y l => simp only [List.sum_cons]; omega
  | trans _ _ h1 h2 => rw [h1, h2]
/-- Two pairs, in either order. -/
theorem two_pairs (S : List Nat) (hn : S.Nodup) (p q : Nat → Bool) (G : List Nat → Nat) :
    ((S.filter p).map fun d => (((S.erase d).filter q).map fun e => G ((S.erase d).erase e)).sum).sum = ((S.filter q).map fun d => (((S.erase d).filter p).map fun e => G ((S.erase d).erase e)).sum).sum := by
  have A : ∀ (p q : Nat → Bool), ((S.filter p).map fun d => (((S.erase d).filter q).map fun e => G ((S.erase d).erase e)).sum).sum = (S.map fun d => (S.map fun e => if p d = true ∧ q e = true ∧ e ≠ d then G ((S.erase d).erase e) else 0).sum).sum := by
    intro p q
    rw [sum_filter]
    refine sum_map_congr _ _ _ (fun d _ => ?_)
    by_cases c : p d = true
    · rw [if_pos c, sum_filter, sum_erase S hn]
      refine sum_map_congr _ _ _ (fun e _ => ?_)
      by_cases c1 : e = d
      · rw [if_pos c1, if_neg (fun h => h.2.2 c1)]
      · rw [if_neg c1]
        by_cases c2 : q e = true
        · rw [if_pos c2, if_pos ⟨c, c2, c1⟩]
        · rw [if_neg c2, if_neg (fun h => c2 h.2.1)]
    · rw [if_neg c]
      have z : ∀ (l : List Nat), (l.map fun e => if p d = true ∧ q e = true ∧ e ≠ d then G ((S.erase d).erase e) else 0).sum = 0 := by
        intro l
        induction l with
        | nil => rfl
        | cons x l ih => simp only [List.map_cons, List.sum_cons, ih]; rw [if_neg (fun h => c h.1)]
      rw [z]
  rw [A p q, A q p, sum_comm]
  refine sum_map_congr _ _ _ (fun e _ => sum_map_congr _ _ _ (fun d _ => ?_))
  rw [List.erase_comm]
  by_cases c : p d = true ∧ q e = true ∧ e ≠ d
  · rw [if_pos c, if_pos ⟨c.2.1, c.1, fun h => c.2.2 h.symm⟩]
  · rw [if_neg c, if_neg (fun h => c ⟨h.2.1, h.1, fun h' => h.2.2 h'.symm⟩)]
theorem mat_perm (adj : Nat → Nat → Bool) (hs : ∀ a b, adj a b = adj b a) : ∀ (n : Nat) {S S' : List Nat}, S.Perm S' → S.Nodup → S.length ≤ n → mat adj n S = mat adj n S' := by
  intro n
  induction n using Nat.strongRecOn with
  | _ n ih =>
  intro S S' h
  induction h with
  | nil => intro _ _; rfl
  | cons a hp ihp =>
    rename_i l m
    intro hn hl
    cases n with
    | zero => simp at hl
    | succ k =>
      have h1 := List.nodup_cons.1 hn
      rw [mat_cons, mat_cons, sum_perm (hp.filter _)]
      refine sum_map_congr _ _ _ (fun d hd => ?_)
      have hdm : d ∈ l := hp.mem_iff.2 (List.mem_filter.1 hd).1
      refine ih k (by omega) (hp.erase d) (h1.2.erase d) ?_
      have := List.length_erase_of_mem hdm
      simp only [List.length_cons] at hl; omega
  | swap a b l =>
    intro hn hl
    cases n with
    | zero => simp at hl
    | succ k =>
      cases k with
      | zero => simp at hl
      | succ k =>
        -- b :: a :: l on the left
        have h1 := List.nodup_cons.1 hn
        have h2 := List.nodup_cons.1 h1.2
        have hab : a ≠ b := fun e => h1.1 (by simp [e])
        have hal : a ∉ l := h2.1
        have hbl : b ∉ l := fun h => h1.1 (by simp [h])
        have side : ∀ (x y : Nat), x ∉ l → y ∉ l → mat adj (k + 1 + 1) (x :: y :: l) = (if adj x y = true then mat adj (k + 1) l else 0) + ((l.filter (adj x)).map fun d => (((l.erase d).filter (adj y)).map fun e => mat adj k ((l.erase d).erase e)).sum).sum := by
          intro x y hx hy
          rw [mat_cons, List.filter_cons]
          have e1 : ((l.filter (adj x)).map fun d => mat adj (k + 1) ((y :: l).erase d)).sum = ((l.filter (adj x)).map fun d => (((l.erase d).filter (adj y)).map fun e => mat adj k ((l.erase d).erase e)).sum).sum := by
            refine sum_map_congr _ _ _ (fun d hd => ?_)
            have hdl := (List.mem_filter.1 hd).1
            rw [List.erase_cons_tail (by simp; intro e; exact hy (e ▸ hdl)), mat_cons]
          by_cases c : adj x y = true
          · rw [if_pos c, if_pos c]
            simp only [List.map_cons, List.sum_cons, List.erase_cons_head]
            rw [e1]
          · rw [if_neg c, if_neg c, e1]; omega
        rw [side b a hbl hal, side a b hal hbl, hs b a, two_pairs l h2.2 (adj b) (adj a) (mat adj k)]
  | trans h1 h2 i1 i2 =>
    intro hn hl
    rw [i1 hn hl, i2 (h1.nodup_iff.1 hn) (by rw [← h1.length_eq]; exact hl)]
theorem mat_fuel (adj : Nat → Nat → Bool) : ∀ (n : Nat) (S : List Nat), S.length ≤ n → ∀ m, S.length ≤ m → mat adj n S = mat adj m S := by
  intro n
  induction n with
  | zero => intro S h m hm; cases S with
    | nil => simp [mat]
    | cons a S => simp at h
  | succ n ih =>
    intro S h m hm
    cases S with
    | nil => simp [mat]
    | cons a S =>
      cases m with
      | zero => simp at hm
      | succ m =>
        rw [mat_cons, mat_cons]
        refine sum_map_congr _ _ _ (fun d hd => ?_)
        have := List.length_erase_of_mem (List.mem_filter.1 hd).1
        simp only [List.length_cons] at h hm
        exact ih _ (by omega) m (by omega)
/-- Other names for the cells. -/
theorem mat_map (adj adj' : Nat → Nat → Bool) (t : Nat → Nat) : ∀ (n : Nat) (S : List Nat), (∀ a ∈ S, ∀ b ∈ S, t a = t b → a = b) → (∀ a ∈ S, ∀ b ∈ S, adj' (t a) (t b) = adj a b) → S.length ≤ n → mat adj' n (S.map t) = mat adj n S := by
  intro n
  induction n with
  | zero => intro S _ _ h; cases S with
    | nil => simp [mat]
    | cons a S => simp at h
  | succ n ih =>
    intro S hi ha h
    cases S with
    | nil => simp [mat]
    | cons a S =>
      rw [List.map_cons, mat_cons, mat_cons]
      have e1 : (S.map t).filter (adj' (t a)) = (S.filter (adj a)).map t := by
        rw [List.filter_map]
        congr 1
        refine List.filter_congr (fun d hd => ?_)
        exact ha a (by simp) d (by simp [hd])
      rw [e1, List.map_map]
      refine sum_map_congr _ _ _ (fun d hd => ?_)
      have hdl := (List.mem_filter.1 hd).1
      have e2 : (S.map t).erase (t d) = (S.erase d).map t := by
        clear e1 ha h hd
        induction S with
        | nil => rfl
        | cons x S ihS =>
          by_cases c : x = d
          · subst c; simp
          · have c' : t x ≠ t d := fun e => c (hi x (by simp) d (by simp at hdl; rcases hdl with e2 | e2 <;> simp [e2]) e)
            rw [List.map_cons, List.erase_cons_tail (by simp [c']), List.erase_cons_tail (by simp [c]), List.map_cons]
            rw [ihS (fun a h1 b h2 => hi a (by simp at h1; rcases h1 with e | e <;> simp [e]) b (by simp at h2; rcases h2 with e | e <;> simp [e])) (by
              rcases List.mem_cons.1 hdl with e | e
              · exact absurd e.symm c
              · exact e)]
      show mat adj' n ((S.map t).erase (t d)) = _
      rw [e2]
      have hlen := List.length_erase_of_mem hdl
      simp only [List.length_cons] at h
      exact ih _ (fun a h1 b h2 => hi a (List.mem_cons_of_mem _ (List.mem_of_mem_erase h1)) b (List.mem_cons_of_mem _ (List.mem_of_mem_erase h2))) (fun a h1 b h2 => ha a (List.mem_cons_of_mem _ (List.mem_of_mem_erase h1)) b (List.mem_cons_of_mem _ (List.mem_of_mem_erase h2))) (by omega)
/-- Each pair has both colours. -/
theorem mat_colours (adj : Nat → Nat → Bool) (col : Nat → Bool) (hc : ∀ a b, adj a b = true → col a ≠ col b) : ∀ (n : Nat) (S : List Nat), mat adj n S ≠ 0 → (S.filter col).length = (S.filter fun x => !col x).length := by
  intro n
  induction n with
  | zero => intro S h; cases S with
    | nil => rfl
    | cons a S => exact absurd rfl h
  | succ n ih =>
    intro S h
    cases S with
    | nil => rfl
    | cons a S =>
      rw [mat_cons] at h
      have hex : ∃ d ∈ S.filter (adj a), mat adj n (S.erase d) ≠ 0 := by
        by_cases c : ∃ d ∈ S.filter (adj a), mat adj n (S.erase d) ≠ 0
        · exact c
        · exfalso; apply h
          have : ∀ (l : List Nat), (∀ d ∈ l, mat adj n (S.erase d) = 0) → (l.map fun d => mat adj n (S.erase d)).sum = 0 := by
            intro l
            induction l with
            | nil => intro _; rfl
            | cons x l ihl => intro hz; simp only [List.map_cons, List.sum_cons]; rw [hz x (by simp), ihl (fun d hd => hz d (by simp [hd]))]
          exact this _ (fun d hd => Classical.byContradiction fun hne => c ⟨d, hd, hne⟩)
      obtain ⟨d, hd, hne⟩ := hex
      obtain ⟨hdl, hda⟩ := List.mem_filter.1 hd
      have e := ih _ hne
      have hcol := hc a d hda
      have hp := List.perm_cons_erase hdl
      have p1 := (hp.filter col).length_eq
      have p2 := (hp.filter fun x => !col x).length_eq
      simp only [List.filter_cons] at p1 p2 ⊢
      cases ca : col a <;> cases cd : col d
      · exact absurd (ca.trans cd.symm) hcol
      · simp only [ca, cd, Bool.not_false, Bool.not_true, if_true, Bool.false_eq_true, if_false, List.length_cons] at p1 p2 ⊢; omega
      · simp only [ca, cd, Bool.not_false, Bool.not_true, if_true, Bool.false_eq_true, if_false, List.length_cons] at p1 p2 ⊢; omega
      · exact absurd (ca.trans cd.symm) hcol
/-! A board's tilings. -/
def freeL (n u : Nat) : List Nat := (List.range n).filter fun i => !u.testBit i
def adjB (c a b : Nat) : Bool := (b == a + 1 && (a + 1) % c != 0) || (a == b + 1 && (b + 1) % c != 0) || b == a + c || a == b + c
def waysN (n c u : Nat) : Nat := mat (adjB c) n (freeL n u)
theorem adjB_symm (c a b : Nat) : adjB c a b = adjB c b a := by
  unfold adjB
  rw [Bool.eq_iff_iff]; simp only [Bool.or_eq_true, Bool.and_eq_true, beq_iff_eq]
  constructor <;> rintro (((h | h) | h) | h) <;> simp [h]
theorem freeL_nodup (n u : Nat) : (freeL n u).Nodup := (List.nodup_range).filter _
theorem freeL_mem (n u i : Nat) : i ∈ freeL n u ↔ i < n ∧ u.testBit i = false := by
  simp [freeL, List.mem_filter]
theorem freeL_len (n u : Nat) : (freeL n u).length ≤ n := by
  have := List.length_filter_le (fun i => !u.testBit i) (List.range n)
  simpa [freeL] using this
/-- All cells in front of a are used, a is free. -/
theorem freeL_first (n u a : Nat) (ha : a < n) (hf : u.testBit a = false) (hb : ∀ i, i < a → u.testBit i = true) : freeL n u = a :: (freeL n u).erase a ∧ ∀ d ∈ (freeL n u).erase a, a < d := by
  have e : freeL n u = a :: (List.range' (a + 1) (n - a - 1)).filter fun i => !u.testBit i := by
    unfold freeL
    have h1 : List.range n = List.range a ++ a :: List.range' (a + 1) (n - a - 1) := by
      rw [List.range_eq_range', List.range_eq_range', ← List.range'_succ]
      have := List.range'_append_1 (s := 0) (m := a) (n := n - a - 1 + 1)
      rw [Nat.zero_add] at this
      rw [this]; congr 1; omega
    rw [h1, List.filter_append, List.filter_cons]
    have h2 : (List.range a).filter (fun i => !u.testBit i) = [] := by
      rw [List.filter_eq_nil_iff]; intro i hi; simp [hb i (List.mem_range.1 hi)]
    rw [h2]; simp [hf]
  constructor
  · rw [e, List.erase_cons_head]
  · intro d hd
    rw [e, List.erase_cons_head] at hd
    have := (List.mem_filter.1 hd).1
    rw [List.mem_range'_1] at this; omega
theorem freeL_or (n u a : Nat) : (freeL n u).erase a = freeL n (u ||| 2 ^ a) := by
  rw [(freeL_nodup n u).erase_eq_filter]
  unfold freeL
  rw [List.filter_filter]
  apply List.filter_congr
  intro i _
  rw [Nat.testBit_or, Nat.testBit_two_pow]
  by_cases c : i = a
  · subst c; simp
  · have : ¬ a = i := fun e => c e.symm
    simp [c, this]
theorem sum_two (l : List Nat) (hn : l.Nodup) (p q : Nat) (hpq : p ≠ q) (x y : Nat) (f : Nat → Nat) (hf : ∀ d ∈ l, f d = if d = p then x else if d = q then y else 0) :
    (l.map f).sum = (if p ∈ l then x else 0) + (if q ∈ l then y else 0) := by
  induction l with
  | nil => rfl
  | cons d l ih =>
    have h1 := List.nodup_cons.1 hn
    have ih := ih h1.2 (fun d hd => hf d (by simp [hd]))
    rw [List.map_cons, List.sum_cons, hf d (by simp), ih]
    by_cases c1 : d = p
    · subst c1
      have h2 : ¬ q = d := fun e => hpq e.symm
      simp [h1.1, h2]
    · by_cases c2 : d = q
      · subst c2
        have h2 : ¬ p = d := fun e => c1 e.symm
        simp [h1.1, h2, c1]; omega
      · have h3 : ¬ p = d := fun e => c1 e.symm
        have h4 : ¬ q = d := fun e => c2 e.symm
        simp [c1, c2, h3, h4]
theorem div_lt_row {a r c : Nat} (hc : 1 ≤ c) (ha : a < r * c) (hm : (a + 1) % c ≠ 0) : a + 1 < r * c := by
  have h1 : a + 1 ≤ r * c := ha
  rcases Nat.lt_or_ge (a + 1) (r * c) with h | h
  · exact h
  · exfalso; apply hm
    have : a + 1 = r * c := by omega
    rw [this]; exact Nat.mul_mod_left r c
/-- One step: the first free cell is covered to the right or downwards. -/
theorem waysN_step (r c u a : Nat) (hc : 1 ≤ c) (ha : a < r * c) (hf : u.testBit a = false) (hb : ∀ i, i < a → u.testBit i = true) :
    waysN (r * c) c u = (if (a + 1) % c ≠ 0 ∧ u.testBit (a + 1) = false then waysN (r * c) c (u ||| 2 ^ a ||| 2 ^ (a + 1)) else 0) + (if a + c < r * c ∧ u.testBit (a + c) = false then waysN (r * c) c (u ||| 2 ^ a ||| 2 ^ (a + c)) else 0) := by
  obtain ⟨e1, e2⟩ := freeL_first (r * c) u a ha hf hb
  have hlen := freeL_len (r * c) u
  obtain ⟨m, hm⟩ : ∃ m, r * c = m + 1 := ⟨r * c - 1, by omega⟩
  have eS : (freeL (r * c) u).erase a = freeL (r * c) (u ||| 2 ^ a) := freeL_or _ _ _
  unfold waysN
  rw [e1]
  rw [show mat (adjB c) (r * c) (a :: (freeL (r * c) u).erase a) = ((((freeL (r * c) u).erase a).filter (adjB c a)).map fun d => mat (adjB c) m (((freeL (r * c) u).erase a).erase d)).sum by rw [hm]; rfl]
  rw [eS] at e2 ⊢
  rw [sum_filter]
  have hn2 := freeL_nodup (r * c) (u ||| 2 ^ a)
  have hfuel : ∀ d, d ∈ freeL (r * c) (u ||| 2 ^ a) → mat (adjB c) m ((freeL (r * c) (u ||| 2 ^ a)).erase d) = mat (adjB c) (r * c) (freeL (r * c) (u ||| 2 ^ a ||| 2 ^ d)) := by
    intro d hd
    rw [freeL_or]
    have l1 := List.length_erase_of_mem hd
    rw [freeL_or] at l1
    have l2 := freeL_len (r * c) (u ||| 2 ^ a)
    have l3 := List.length_pos_of_mem hd
    exact mat_fuel _ _ _ (by omega) _ (by omega)
  have hadj : ∀ d ∈ freeL (r * c) (u ||| 2 ^ a), (adjB c a d = true ↔ (d = a + 1 ∧ (a + 1) % c ≠ 0) ∨ d = a + c) := by
    intro d hd
    have hgt := e2 d hd
    unfold adjB
    simp only [Bool.or_eq_true, Bool.and_eq_true, beq_iff_eq, bne_iff_ne]
    constructor
    · rintro (((h | h) | h) | h)
      · exact Or.inl h
      · omega
      · exact Or.inr h
      · omega
    · rintro (h | h)
      · exact Or.inl (Or.inl (Or.inl h))
      · exact Or.inl (Or.inr h)
  have hbit : ∀ d, a < d → (u ||| 2 ^ a).testBit d = u.testBit d := by
    intro d hd
    rw [Nat.testBit_or, Nat.testBit_two_pow]
    simp [show ¬ a = d by omega]
  by_cases c1 : (a + 1) % c ≠ 0
  · have hc2 : c ≠ 1 := fun e => c1 (by rw [e]; exact Nat.mod_one _)
    rw [sum_two _ hn2 (a + 1) (a + c) (by omega) (mat (adjB c) (r * c) (freeL (r * c) (u ||| 2 ^ a ||| 2 ^ (a + 1)))) (mat (adjB c) (r * c) (freeL (r * c) (u ||| 2 ^ a ||| 2 ^ (a + c))))]
    · have m1 : (a + 1 ∈ freeL (r * c) (u ||| 2 ^ a)) ↔ ((a + 1) % c ≠ 0 ∧ u.testBit (a + 1) = false) := by
        rw [freeL_mem, hbit _ (by omega)]
        exact ⟨fun h => ⟨c1, h.2⟩, fun h => ⟨div_lt_row hc ha c1, h.2⟩⟩
      have m2 : (a + c ∈ freeL (r * c) (u ||| 2 ^ a)) ↔ (a + c < r * c ∧ u.testBit (a + c) = false) := by
        rw [freeL_mem, hbit _ (by omega)]
      simp only [m1, m2]
    · intro d hd
      by_cases d1 : d = a + 1
      · subst d1
        rw [if_pos ((hadj _ hd).2 (Or.inl ⟨rfl, c1⟩)), if_pos rfl, hfuel _ hd]
      · by_cases d2 : d = a + c
        · subst d2
          rw [if_pos ((hadj _ hd).2 (Or.inr rfl)), if_neg d1, if_pos rfl, hfuel _ hd]
        · rw [if_neg (fun h => by rcases (hadj _ hd).1 h with h | h; exact d1 h.1; exact d2 h), if_neg d1, if_neg d2]
  · rw [if_neg (fun h => c1 h.1), Nat.zero_add]
    rw [sum_two _ hn2 (a + c) a (by omega) (mat (adjB c) (r * c) (freeL (r * c) (u ||| 2 ^ a ||| 2 ^ (a + c)))) 0]
    · have m2 : (a + c ∈ freeL (r * c) (u ||| 2 ^ a)) ↔ (a + c < r * c ∧ u.testBit (a + c) = false) := by
        rw [freeL_mem, hbit _ (by omega)]
      simp only [m2, ite_self, Nat.add_zero]
    · intro d hd
      by_cases d2 : d = a + c
      · subst d2
        rw [if_pos ((hadj _ hd).2 (Or.inr rfl)), if_pos rfl, hfuel _ hd]
      · rw [if_neg (fun h => by rcases (hadj _ hd).1 h with h | h; exact c1 h.2; exact d2 h), if_neg d2, ite_self]
theorem waysN_full (n c u : Nat) (h : ∀ i, i < n → u.testBit i = true) : waysN n c u = 1 := by
  unfold waysN
  have : freeL n u = [] := by
    unfold freeL; rw [List.filter_eq_nil_iff]; intro i hi; simp [h i (List.mem_range.1 hi)]
  rw [this]
  cases n <;> rfl
/-- Right or not: the same test in Go's words. -/
theorem right_iff (a c : Nat) (hc : 1 ≤ c) : (a + 1) % c ≠ 0 ↔ a % c < c - 1 := by
  have h1 := Nat.mod_lt a (show 0 < c by omega)
  have h2 : (a + 1) % c = (a % c + 1) % c := by rw [Nat.add_mod]; simp
  rw [h2]
  rcases Nat.lt_or_ge (a % c + 1) c with h | h
  · rw [Nat.mod_eq_of_lt h]; omega
  · have e : a % c + 1 = c := by omega
    rw [e, Nat.mod_self]; omega
/-- Colours. -/
theorem ways_colours (r c u : Nat) (hc : 1 ≤ c) (h : waysN (r * c) c u ≠ 0) : ((freeL (r * c) u).filter fun i => (i / c + i % c) % 2 == 0).length = ((freeL (r * c) u).filter fun i => !((i / c + i % c) % 2 == 0)).length := by
  refine mat_colours (adjB c) _ ?_ _ _ h
  intro a b hab
  have key : ∀ a b, (b = a + 1 ∧ (a + 1) % c ≠ 0) ∨ b = a + c → (a / c + a % c) % 2 ≠ (b / c + b % c) % 2 := by
    rintro a b (⟨rfl, hr⟩ | rfl)
    · have h1 := (right_iff a c hc).1 hr
      have h2 : (a + 1) / c = a / c ∧ (a + 1) % c = a % c + 1 := by
        have e := Nat.div_add_mod a c
        have hlt : a % c + 1 < c := by generalize a % c = z at h1; omega
        have e3 : a + 1 = c * (a / c) + (a % c + 1) := by omega
        generalize a / c = q at e3 ⊢
        generalize a % c = z at e3 hlt ⊢
        rw [e3]
        constructor
        · rw [Nat.mul_add_div (by omega), Nat.div_eq_of_lt hlt, Nat.add_zero]
        · rw [Nat.mul_add_mod, Nat.mod_eq_of_lt hlt]
      rw [h2.1, h2.2]; omega
    · rw [Nat.add_div_right _ (by omega), Nat.add_mod_right]; omega
  have : (a / c + a % c) % 2 ≠ (b / c + b % c) % 2 := by
    unfold adjB at hab
    simp only [Bool.or_eq_true, Bool.and_eq_true, beq_iff_eq, bne_iff_ne] at hab
    rcases hab with ((h | h) | h) | h
    · exact key a b (Or.inl h)
    · exact fun e => key b a (Or.inl h) e.symm
    · exact key a b (Or.inr h)
    · exact fun e => key b a (Or.inr h) e.symm
  intro e
  have h1 := Nat.mod_two_eq_zero_or_one (a / c + a % c)
  have h2 := Nat.mod_two_eq_zero_or_one (b / c + b % c)
  rcases h1 with h1 | h1 <;> rcases h2 with h2 | h2 <;> simp [h1, h2] at e <;> omega
theorem boardV_ok2 {r c h : Int} (hv : boardV r c h = true) : 1 ≤ r ∧ 1 ≤ c ∧ r ≤ 24 ∧ c ≤ 24 ∧ 1 ≤ r * c ∧ r * c ≤ 24 ∧ 0 ≤ h ∧ h < 2 ^ (r * c).toNat ∧ h < 16777216 ∧ wrap64 (r * c) = r * c := by
  unfold boardV at hv
  rw [decide_eq_true_eq] at hv
  obtain ⟨h1, h2, h3, h4, h5, h6, h7⟩ := hv
  have hm := mul_bd (r := r) (c := c) (by omega) (by omega) (by omega) (by omega)
  have hs := shl1 (r * c) (by omega) (by omega)
  exact ⟨h1, h2, h3, h4, hm.1, h5, h6, h7, by omega, hm.2.2⟩
/-! A board's tilings in Go's words. -/
theorem full_or (n u : Nat) : (∀ i, i < n → u.testBit i = true) ∨ ∃ a, a < n ∧ u.testBit a = false ∧ ∀ i, i < a → u.testBit i = true := by
  induction n with
  | zero => exact .inl fun i hi => absurd hi (by omega)
  | succ n ih =>
    rcases ih with h | ⟨a, h1, h2, h3⟩
    · cases hb : u.testBit n
      · exact .inr ⟨n, by omega, hb, h⟩
      · refine .inl fun i hi => ?_
        rcases Nat.lt_or_ge i n with c | c
        · exact h i c
        · have : i = n := by omega
          subst this; exact hb
    · exact .inr ⟨a, by omega, h2, h3⟩
theorem full_eq (n u : Nat) (hu : u < 2 ^ n) (h : ∀ i, i < n → u.testBit i = true) : u = 2 ^ n - 1 := by
  apply Nat.eq_of_testBit_eq
  intro i
  rw [Nat.testBit_two_pow_sub_one]
  by_cases c : i < n
  · rw [h i c]; simp [c]
  · rw [Nat.testBit_lt_two_pow (Nat.lt_of_lt_of_le hu (Nat.pow_le_pow_right (by omega) (by omega)))]; simp [c]
theorem not_full (n u a : Nat) (ha : a < n) (hf : u.testBit a = false) : u ≠ 2 ^ n - 1 := by
  rintro rfl
  rw [Nat.testBit_two_pow_sub_one] at hf
  simp [ha] at hf
theorem freeL_two (n u a b : Nat) (ha : a < n) (hb : b < n) (fa : u.testBit a = false) (fb : u.testBit b = false) (hab : a ≠ b) : (freeL n (u ||| 2 ^ a ||| 2 ^ b)).length + 2 = (freeL n u).length := by
  rw [← freeL_or, ← freeL_or]
  have h1 : a ∈ freeL n u := (freeL_mem _ _ _).2 ⟨ha, fa⟩
  have h2 : b ∈ (freeL n u).erase a := by
    rw [freeL_or, freeL_mem]
    refine ⟨hb, ?_⟩
    rw [Nat.testBit_or, Nat.testBit_two_pow, fb]; simp [hab]
  have l1 := List.length_erase_of_mem h1
  have l2 := List.length_erase_of_mem h2
  have p1 := List.length_pos_of_mem h1
  have p2 := List.length_pos_of_mem h2
  omega
theorem or_lt {n u a : Nat} (hu : u < 2 ^ n) (ha : a < n) : u ||| 2 ^ a < 2 ^ n := Nat.or_lt_two_pow hu (Nat.pow_lt_pow_right (by omega) ha)
theorem ways_le (r c : Nat) (hc : 1 ≤ c) : ∀ m u, u < 2 ^ (r * c) → (freeL (r * c) u).length ≤ m → waysN (r * c) c u ≤ 2 ^ m := by
  intro m
  induction m with
  | zero =>
    intro u hu hm
    rcases full_or (r * c) u with h | ⟨a, h1, h2, h3⟩
    · rw [waysN_full _ _ _ h]; omega
    · have := List.length_pos_of_mem ((freeL_mem (r * c) u a).2 ⟨h1, h2⟩); omega
  | succ m ih =>
    intro u hu hm
    rcases full_or (r * c) u with h | ⟨a, h1, h2, h3⟩
    · rw [waysN_full _ _ _ h]; exact Nat.one_le_two_pow
    · rw [waysN_step r c u a hc h1 h2 h3, Nat.pow_succ]
      have g1 : (if (a + 1) % c ≠ 0 ∧ u.testBit (a + 1) = false then waysN (r * c) c (u ||| 2 ^ a ||| 2 ^ (a + 1)) else 0) ≤ 2 ^ m := by
        split
        · rename_i hq
          have hl := div_lt_row hc h1 hq.1
          have := freeL_two (r * c) u a (a + 1) h1 hl h2 hq.2 (by omega)
          exact ih _ (or_lt (or_lt hu h1) hl) (by omega)
        · exact Nat.zero_le _
      have g2 : (if a + c < r * c ∧ u.testBit (a + c) = false then waysN (r * c) c (u ||| 2 ^ a ||| 2 ^ (a + c)) else 0) ≤ 2 ^ m := by
        split
        · rename_i hq
          have := freeL_two (r * c) u a (a + c) h1 hq.1 h2 hq.2 (by omega)
          exact ih _ (or_lt (or_lt hu h1) hq.1) (by omega)
        · exact Nat.zero_le _
      exact Nat.le_trans (Nat.add_le_add g1 g2) (Nat.le_of_eq (by rw [Nat.pow_succ, Nat.mul_two]))
theorem ways_small (r c : Nat) (hc : 1 ≤ c) (h3 : r * c ≤ 24) (u : Nat) (hu : u < 2 ^ (r * c)) : waysN (r * c) c u ≤ 16777216 := by
  have := ways_le r c hc 24 u hu (Nat.le_trans (freeL_len _ _) h3)
  omega
theorem or_go (u v : Nat) (hu : u < 2 ^ 60) (hv : v < 2 ^ 60) : Go.bits .or .i64 (u : Int) (v : Int) = ((u ||| v : Nat) : Int) :=
  (bits_nat .i64 62 (by decide) (fun n h h' => by rw [IntKind.wrap_i64]; omega) u v (by omega) (by omega)).2
theorem shl1_nat (a : Nat) (ha : a ≤ 24) : shl .i64 1 (a : Int) = ((2 ^ a : Nat) : Int) := by
  have := (shl1 (a : Int) (by omega) (by omega)).1
  rw [this]; simp
theorem cover_go (u a b : Nat) (hu : u < 2 ^ 24) (ha : a < 24) (hb : b < 24) : Go.bits .or .i64 (Go.bits .or .i64 (u : Int) (shl .i64 1 (a : Int))) (shl .i64 1 (b : Int)) = ((u ||| 2 ^ a ||| 2 ^ b : Nat) : Int) := by
  have pa : (2 : Nat) ^ a < 2 ^ 24 := Nat.pow_lt_pow_right (by omega) ha
  have pb : (2 : Nat) ^ b < 2 ^ 24 := Nat.pow_lt_pow_right (by omega) hb
  rw [shl1_nat a (by omega), shl1_nat b (by omega), or_go u _ (by omega) (by omega), or_go _ _ (Nat.or_lt_two_pow (by omega) (by omega)) (by omega)]
theorem bitS (u d : Nat) (hd : d ≤ 64) : Int.tmod (shr .i64 (u : Int) (d : Int)) 2 = if u.testBit d then 1 else 0 := by
  rw [shr_bit (by omega) d hd, bit_nat]
theorem bitI (u d : Nat) (hu : u < 2 ^ 24) (hd : d ≤ 64) : Go.bits .and .i64 (shr .i64 (u : Int) (d : Int)) 1 = if u.testBit d then 1 else 0 := by
  have e : shr .i64 (u : Int) (d : Int) = (u : Int) / 2 ^ d := shr_nat _ _ hd
  have h0 : (0 : Int) ≤ (u : Int) / 2 ^ d := Int.ediv_nonneg (by omega) (Int.pow_nonneg (by decide))
  have h1 : (u : Int) / 2 ^ d ≤ (u : Int) := Int.ediv_le_self _ (by omega)
  rw [e, and1_bit h0 (by omega)]
  exact bit_nat u d
theorem right_go (a c : Nat) (hc : 1 ≤ c) (hc2 : c ≤ 24) : (Int.tmod (a : Int) (c : Int) < wrap64 ((c : Int) - 1)) ↔ (a + 1) % c ≠ 0 := by
  rw [right_iff a c hc, Int.tmod_eq_emod_of_nonneg (by omega), w64 (by omega) (by omega)]
  have : (a : Int) % (c : Int) = ((a % c : Nat) : Int) := by simp
  rw [this]
  omega
theorem le24 {r c : Nat} (h1 : 1 ≤ r) (h2 : 1 ≤ c) (h3 : r * c ≤ 24) : r ≤ 24 ∧ c ≤ 24 := ⟨Nat.le_trans (Nat.le_mul_of_pos_right r (by omega)) h3, Nat.le_trans (Nat.le_mul_of_pos_left c (by omega)) h3⟩
theorem mul_go (r c : Nat) (h3 : r * c ≤ 24) : wrap64 ((r : Int) * (c : Int)) = ((r * c : Nat) : Int) := by
  have e : (r : Int) * (c : Int) = ((r * c : Nat) : Int) := by simp
  rw [e, w64 (by omega) (by omega)]
theorem pow24 {n : Nat} (h : n ≤ 24) {u : Nat} (hu : u < 2 ^ n) : u < 2 ^ 24 := Nat.lt_of_lt_of_le hu (Nat.pow_le_pow_right (by omega) h)
theorem succ_go (a : Nat) (h : a ≤ 1000) : wrap64 ((a : Int) + 1) = ((a + 1 : Nat) : Int) := by rw [w64 (by omega) (by omega)]; simp
theorem add_go (a c : Nat) (h : a ≤ 1000) (h' : c ≤ 1000) : wrap64 ((a : Int) + (c : Int)) = ((a + c : Nat) : Int) := by rw [w64 (by omega) (by omega)]; simp
theorem sum_go (x y : Nat) (hx : x ≤ 16777216) (hy : y ≤ 16777216) : wrap64 ((x : Int) + (y : Int)) = ((x + y : Nat) : Int) := by rw [w64 (by omega) (by omega)]; simp
theorem zsum_go (y : Nat) (hy : y ≤ 16777216) : wrap64 (0 + (y : Int)) = (y : Int) := by rw [Int.zero_add, w64 (by omega) (by omega)]
theorem ful_go (n : Nat) (h : n ≤ 24) : wrap64 (shl .i64 1 (n : Int) - 1) = ((2 ^ n - 1 : Nat) : Int) := by
  have hp : (2 : Nat) ^ n ≤ 2 ^ 24 := Nat.pow_le_pow_right (by omega) h
  have hp1 := Nat.one_le_two_pow (n := n)
  rw [shl1_nat n h, w64 (by omega) (by omega)]
  omega
theorem condSR (u a c : Nat) (hc : 1 ≤ c) (hc2 : c ≤ 24) (ha : a ≤ 24) : (Int.tmod (a : Int) (c : Int) < wrap64 ((c : Int) - 1) ∧ Int.tmod (shr .i64 (u : Int) ((a + 1 : Nat) : Int)) 2 = 0) ↔ ((a + 1) % c ≠ 0 ∧ u.testBit (a + 1) = false) := by
  rw [right_go a c hc hc2, bitS u (a + 1) (by omega)]
  cases u.testBit (a + 1) <;> simp
theorem condSD (u a c n : Nat) (hc2 : c ≤ 24) (ha : a ≤ 24) : (((a + c : Nat) : Int) < (n : Int) ∧ Int.tmod (shr .i64 (u : Int) ((a + c : Nat) : Int)) 2 = 0) ↔ (a + c < n ∧ u.testBit (a + c) = false) := by
  rw [bitS u (a + c) (by omega)]
  cases u.testBit (a + c) <;> simp <;> omega
theorem condIR (u a c : Nat) (hu : u < 2 ^ 24) (hc : 1 ≤ c) (hc2 : c ≤ 24) (ha : a ≤ 24) : (Int.tmod (a : Int) (c : Int) < wrap64 ((c : Int) - 1) ∧ Go.bits .and .i64 (shr .i64 (u : Int) ((a + 1 : Nat) : Int)) 1 = 0) ↔ ((a + 1) % c ≠ 0 ∧ u.testBit (a + 1) = false) := by
  rw [right_go a c hc hc2, bitI u (a + 1) hu (by omega)]
  cases u.testBit (a + 1) <;> simp
theorem condID (u a c n : Nat) (hu : u < 2 ^ 24) (hc2 : c ≤ 24) (ha : a ≤ 24) : (((a + c : Nat) : Int) < (n : Int) ∧ Go.bits .and .i64 (shr .i64 (u : Int) ((a + c : Nat) : Int)) 1 = 0) ↔ (a + c < n ∧ u.testBit (a + c) = false) := by
  rw [bitI u (a + c) hu (by omega)]
  cases u.testBit (a + c) <;> simp <;> omega
theorem not_u64 (u : Nat) (hu : u < 2 ^ 24) : (Go.bits BinOp.xor IntKind.u64 IntKind.u64.max (IntKind.u64.wrap (u : Int))).toNat = 2 ^ 64 - (u + 1) := by
  have e0 : IntKind.u64.wrap (u : Int) = (u : Int) := by rw [IntKind.wrap_u64]; omega
  have e1 : IntKind.u64.max = ((18446744073709551615 : Nat) : Int) := by decide
  have ex : (18446744073709551615 : Nat) ^^^ u = 2 ^ 64 - (u + 1) := by
    apply Nat.eq_of_testBit_eq
    intro i
    rw [Nat.testBit_xor, show (18446744073709551615 : Nat) = 2 ^ 64 - 1 by decide, Nat.testBit_two_pow_sub_one, Nat.testBit_two_pow_sub_succ (by omega)]
    by_cases c : i < 64
    · simp [c]
    · rw [Nat.testBit_lt_two_pow (x := u) (i := i) (Nat.lt_of_lt_of_le hu (Nat.pow_le_pow_right (by omega) (by omega)))]; simp [c]
  rw [e0, e1]
  have e2 : Go.bits BinOp.xor IntKind.u64 ((18446744073709551615 : Nat) : Int) (u : Int) = IntKind.u64.wrap (((18446744073709551615 : Nat) ^^^ u : Nat) : Int) := by
    have h1 : (18446744073709551615 : Nat) % 2 ^ 64 = 18446744073709551615 := by decide
    have h2 : u % 2 ^ 64 = u := Nat.mod_eq_of_lt (by omega)
    show IntKind.u64.wrap (((BitVec.ofInt 64 ((18446744073709551615 : Nat) : Int) ^^^ BitVec.ofInt 64 (u : Int)).toNat : Nat) : Int) = _
    rw [BitVec.ofInt_natCast, BitVec.ofInt_natCast, BitVec.toNat_xor, BitVec.toNat_ofNat, BitVec.toNat_ofNat, h1, h2]
  rw [e2, ex, IntKind.wrap_u64]
  omega
theorem tz_first (u a : Nat) (hu : u < 2 ^ 24) (ha : a < 24) (hf : u.testBit a = false) (hb : ∀ i, i < a → u.testBit i = true) : tzV (u : Int) = (a : Int) := by
  unfold tzV
  rw [not_u64 u hu]
  have hx0 : 2 ^ 64 - (u + 1) ≠ 0 := by omega
  obtain ⟨m, hm, hk⟩ := Lib.ctzFrom_spec 64 (2 ^ 64 - (u + 1)) (by omega) (by omega)
  have e : Lib.ctz 64 (2 ^ 64 - (u + 1)) = Lib.ctzFrom 64 (2 ^ 64 - (u + 1)) := by unfold Lib.ctz; rw [if_neg hx0]
  rw [e]
  generalize Lib.ctzFrom 64 (2 ^ 64 - (u + 1)) = k at hm hk
  have hbit : ∀ i, i < 64 → (!u.testBit i) = (decide (k ≤ i) && (2 * m + 1).testBit (i - k)) := by
    intro i hi
    have := Nat.testBit_two_pow_sub_succ (x := u) (n := 64) (by omega) i
    rw [hm, Nat.mul_comm, Nat.testBit_mul_two_pow] at this
    rw [this]; simp [hi]
  rcases Nat.lt_trichotomy k a with c | c | c
  · have := hbit k hk
    rw [hb k c] at this
    simp at this
  · rw [c]
  · have := hbit a (by omega)
    rw [hf, decide_eq_false (by omega)] at this
    simp at this
/-- The map's ways: right ones. -/
def Rt (n c : Nat) (ps : List (Int × Int)) : Prop := ∀ (x : Nat) (m : Int), ps.lookup (x : Int) = some m → m = ((waysN n c x : Nat) : Int)
theorem Rt_nil (n c : Nat) : Rt n c [] := fun x m h => by simp at h
theorem Rt_add {n c : Nat} {ps : List (Int × Int)} (h : Rt n c ps) (u : Nat) : Rt n c (((u : Int), ((waysN n c u : Nat) : Int)) :: ps) := by
  intro x m hx
  rw [List.lookup_cons] at hx
  by_cases e : x = u
  · subst e
    simp only [beq_self_eq_true, Option.some.injEq] at hx
    exact hx.symm
  · have e2 : ((x : Int) == (u : Int)) = false := beq_eq_false_iff_ne.2 (by omega)
    rw [e2] at hx
    exact h x m hx
theorem til_ev (r c : Nat) (h1 : 1 ≤ r) (h2 : 1 ≤ c) (h3 : r * c ≤ 24) (hh : Int) : ∀ (m u : Nat) (ps : List (Int × Int)), u < 2 ^ (r * c) → (freeL (r * c) u).length ≤ m → m ≤ 24 → Rt (r * c) c ps → ps.length + 2 ^ (m + 1) ≤ 2 ^ 30 →
    ∃ ps', Rt (r * c) c ps' ∧ ps'.length + 1 ≤ ps.length + 2 ^ (m + 1) ∧ Ev (fun k => impl_tilings.f k r c hh u ps) (((waysN (r * c) c u : Nat) : Int), ps') := by
  intro m
  have hb := le24 h1 h2 h3
  induction m with
  | zero =>
    intro u ps hu hm _ hR hl
    rcases full_or (r * c) u with h | ⟨a, ha, hf, _⟩
    · refine ⟨ps, hR, by omega, Ev.step (fun k => by rw [impl_tilings.f]) ?_⟩
      rw [mul_go r c h3, ful_go (r * c) h3]
      refine Ev.ifp (by omega) (Ev.ifp (by rw [full_eq _ _ hu h]) ?_)
      rw [waysN_full _ _ _ h]; exact Ev.now _
    · have := List.length_pos_of_mem ((freeL_mem (r * c) u a).2 ⟨ha, hf⟩); omega
  | succ m ih =>
    intro u ps hu hm hm24 hR hl
    rcases full_or (r * c) u with h | ⟨a, ha, hf, hbl⟩
    · refine ⟨ps, hR, by have := Nat.one_le_two_pow (n := m + 1 + 1); omega, Ev.step (fun k => by rw [impl_tilings.f]) ?_⟩
      rw [mul_go r c h3, ful_go (r * c) h3]
      refine Ev.ifp (by omega) (Ev.ifp (by rw [full_eq _ _ hu h]) ?_)
      rw [waysN_full _ _ _ h]; exact Ev.now _
    · have hp : 2 ^ (m + 1 + 1) = 2 ^ (m + 1) + 2 ^ (m + 1) := by rw [Nat.pow_succ]; omega
      have hp1 := Nat.one_le_two_pow (n := m + 1)
      have hnf := not_full (r * c) u a ha hf
      have hu24 := pow24 h3 hu
      have htz := tz_first u a hu24 (by omega) hf hbl
      cases e : ps.lookup (u : Int) with
      | some n =>
        refine ⟨ps, hR, by omega, Ev.step (fun k => by rw [impl_tilings.f]) ?_⟩
        rw [mul_go r c h3, ful_go (r * c) h3]
        refine Ev.ifp (by omega) (Ev.ifn (by omega) ?_)
        simp only [e]
        rw [hR u n e]; exact Ev.now _
      | none =>
        have ha24 : a ≤ 24 := by omega
        obtain ⟨x1, p1, hR1, hl1, hx1, hE1⟩ : ∃ (x1 : Nat) (p1 : List (Int × Int)), Rt (r * c) c p1 ∧ p1.length + 1 ≤ ps.length + 2 ^ (m + 1) ∧ Aside0 (x1 = if (a + 1) % c ≠ 0 ∧ u.testBit (a + 1) = false then waysN (r * c) c (u ||| 2 ^ a ||| 2 ^ (a + 1)) else 0) ∧
            Ev (fun k => if Int.tmod (a : Int) (c : Int) < wrap64 ((c : Int) - 1) ∧ Go.bits .and .i64 (shr .i64 (u : Int) ((a + 1 : Nat) : Int)) 1 = 0 then ((impl_tilings.f k r c hh (Go.bits .or .i64 (Go.bits .or .i64 (u : Int) (shl .i64 1 (a : Int))) (shl .i64 1 ((a + 1 : Nat) : Int))) ps).bind fun z => some (wrap64 (0 + z.1), z.2)) else (some (0, ps))) ((x1 : Int), p1) := by
          by_cases q : (a + 1) % c ≠ 0 ∧ u.testBit (a + 1) = false
          · have hl1 := div_lt_row h2 ha q.1
            have hfl := freeL_two (r * c) u a (a + 1) ha hl1 hf q.2 (by omega)
            have hlt := or_lt (or_lt hu ha) hl1
            obtain ⟨p1, g1, g2, g3⟩ := ih (u ||| 2 ^ a ||| 2 ^ (a + 1)) ps hlt (by omega) (by omega) hR (by omega)
            have hs := ways_small r c h2 h3 _ hlt
            refine ⟨_, p1, g1, g2, ⟨(if_pos q).symm⟩, Ev.ifp ((condIR u a c hu24 h2 hb.2 ha24).2 q) ?_⟩
            rw [cover_go u a (a + 1) hu24 (by omega) (by omega)]
            refine Ev.bind g3 (Ev.eq (Ev.now _) ?_)
            rw [zsum_go _ hs]
          · exact ⟨0, ps, hR, by omega, ⟨(if_neg q).symm⟩, Ev.ifn (fun h => q ((condIR u a c hu24 h2 hb.2 ha24).1 h)) (Ev.now _)⟩
        obtain ⟨x2, p2, hR2, hl2, hx2, hE2⟩ : ∃ (x2 : Nat) (p2 : List (Int × Int)), Rt (r * c) c p2 ∧ p2.length + 1 ≤ p1.length + 2 ^ (m + 1) ∧ Aside0 (x2 = x1 + if a + c < r * c ∧ u.testBit (a + c) = false then waysN (r * c) c (u ||| 2 ^ a ||| 2 ^ (a + c)) else 0) ∧
            Ev (fun k => if ((a + c : Nat) : Int) < ((r * c : Nat) : Int) ∧ Go.bits .and .i64 (shr .i64 (u : Int) ((a + c : Nat) : Int)) 1 = 0 then ((impl_tilings.f k r c hh (Go.bits .or .i64 (Go.bits .or .i64 (u : Int) (shl .i64 1 (a : Int))) (shl .i64 1 ((a + c : Nat) : Int))) p1).bind fun y => some (wrap64 ((x1 : Int) + y.1), y.2)) else (some ((x1 : Int), p1))) ((x2 : Int), p2) := by
          by_cases q : a + c < r * c ∧ u.testBit (a + c) = false
          · have hfl := freeL_two (r * c) u a (a + c) ha q.1 hf q.2 (by omega)
            have hlt := or_lt (or_lt hu ha) q.1
            obtain ⟨p2, g1, g2, g3⟩ := ih (u ||| 2 ^ a ||| 2 ^ (a + c)) p1 hlt (by omega) (by omega) hR1 (by omega)
            have hs := ways_small r c h2 h3 _ hlt
            have hs1 : x1 ≤ 16777216 := by
              rw [hx1.out]; split
              · rename_i q1
                exact ways_small r c h2 h3 _ (or_lt (or_lt hu ha) (div_lt_row h2 ha q1.1))
              · omega
            refine ⟨_, p2, g1, g2, ⟨by rw [if_pos q]⟩, Ev.ifp ((condID u a c (r * c) hu24 hb.2 ha24).2 q) ?_⟩
            rw [cover_go u a (a + c) hu24 (by omega) (by omega)]
            refine Ev.bind g3 (Ev.eq (Ev.now _) ?_)
            rw [sum_go _ _ hs1 hs]
          · exact ⟨x1, p1, hR1, by omega, ⟨by rw [if_neg q]; rfl⟩, Ev.ifn (fun h => q ((condID u a c (r * c) hu24 hb.2 ha24).1 h)) (Ev.now _)⟩
        have hx : x2 = waysN (r * c) c u := by rw [hx2.out, hx1.out]; exact (waysN_step r c u a h2 ha hf hbl).symm
        refine ⟨((u : Int), ((waysN (r * c) c u : Nat) : Int)) :: p2, Rt_add hR2 u, by rw [List.length_cons]; omega, Ev.step (fun k => by rw [impl_tilings.f]) ?_⟩
        rw [mul_go r c h3, ful_go (r * c) h3]
        refine Ev.ifp (by omega) (Ev.ifn (by omega) ?_)
        simp only [e]
        rw [htz, succ_go a (by omega), add_go a c (by omega) (by omega)]
        refine Ev.ifn (by omega) (Ev.ifp (by omega) (Ev.ifp (by omega) ?_))
        refine Ev.bind hE1 (Ev.bind hE2 ?_)
        refine Ev.ifp (by simp only []; omega) (Ev.eq (Ev.now _) ?_)
        rw [hx]
theorem l14_first (n u t : Nat) (hn : n ≤ 24) (ht : t ≤ n) (hl : ∀ i, i < t → u.testBit i = true) (hs : t = n ∨ u.testBit t = false) : ∀ (d i : Nat), i + d = t → Ev (fun k => spec_l14Ways.l0 k (n : Int) (u : Int) (i : Int)) (t : Int) := by
  intro d
  induction d with
  | zero =>
    intro i hi
    have hi : i = t := by omega
    subst hi
    refine Ev.step (fun k => by rw [spec_l14Ways.l0]) ?_
    rcases hs with h | h
    · exact Ev.ifn (by omega) (Ev.now _)
    · by_cases c : i < n
      · refine Ev.ifp (by omega) (Ev.ifp (by omega) (Ev.ifn ?_ (Ev.now _)))
        rw [bitS u i (by omega), h]; simp
      · exact Ev.ifn (by omega) (Ev.now _)
  | succ d ih =>
    intro i hi
    refine Ev.step (fun k => by rw [spec_l14Ways.l0]) ?_
    refine Ev.ifp (by omega) (Ev.ifp (by omega) (Ev.ifp ?_ ?_))
    · rw [bitS u i (by omega), hl i (by omega)]; simp
    · have e : wrap64 ((i : Int) + 1) = ((i + 1 : Nat) : Int) := by rw [w64 (by omega) (by omega)]; simp
      rw [e]
      exact ih (i + 1) (by omega)
/-- The keys and their ways: right ones. -/
def R2 (n c : Nat) (ks ns : List Int) : Prop := ks.length = ns.length ∧ ∀ (i : Nat) (x : Nat), ks[i]? = some (x : Int) → ns[i]? = some ((waysN n c x : Nat) : Int)
theorem R2_nil (n c : Nat) : R2 n c [] [] := ⟨rfl, fun i x h => by simp at h⟩
theorem R2_add {n c : Nat} {ks ns : List Int} (h : R2 n c ks ns) (u : Nat) : R2 n c (ks ++ [(u : Int)]) (ns ++ [((waysN n c u : Nat) : Int)]) := by
  refine ⟨by simp [h.1], fun i x hx => ?_⟩
  rcases Nat.lt_or_ge i ks.length with c1 | c1
  · rw [List.getElem?_append_left c1] at hx
    rw [List.getElem?_append_left (by rw [← h.1]; exact c1)]
    exact h.2 i x hx
  · rw [List.getElem?_append_right c1] at hx
    rw [List.getElem?_append_right (by rw [← h.1]; exact c1), ← h.1]
    cases e : i - ks.length with
    | zero =>
      rw [e] at hx
      simp only [List.getElem?_cons_zero, Option.some.injEq] at hx ⊢
      have : u = x := by omega
      rw [this]
    | succ j => rw [e] at hx; simp at hx
theorem l14_look (n c u : Nat) (ks ns : List Int) (h : R2 n c ks ns) (hk : ks.length < 1099511627776) : ∀ (d i : Nat), i + d = ks.length → ∃ o, Ev (fun k => spec_l14Ways.l1 k ks ns (u : Int) (i : Int)) o ∧ ∀ m, o = some m → m = ((waysN n c u : Nat) : Int) := by
  intro d
  induction d with
  | zero =>
    intro i hi
    exact ⟨none, Ev.step (fun k => by rw [spec_l14Ways.l1]) (Ev.ifn (by omega) (Ev.now _)), fun m e => by cases e⟩
  | succ d ih =>
    intro i hi
    have e : wrap64 ((i : Int) + 1) = ((i + 1 : Nat) : Int) := by rw [w64 (by omega) (by omega)]; simp
    have hik : i < ks.length := by omega
    by_cases c1 : ks[i] = (u : Int)
    · refine ⟨some (rd ns (i : Int)), ?_, ?_⟩
      · refine Ev.step (fun k => by rw [spec_l14Ways.l1]) ?_
        refine Ev.ifp (by omega) (Ev.ifp (by omega) (Ev.ifp (by rw [rd_nat ks i hik]; exact c1) (Ev.ifp (by have := h.1; omega) (Ev.now _))))
      · intro m em
        have em := Option.some.inj em
        have h2 := h.2 i u (by rw [List.getElem?_eq_getElem hik, c1])
        have hin : i < ns.length := by have := h.1; omega
        rw [List.getElem?_eq_getElem hin] at h2
        rw [← em, rd_nat ns i hin]
        exact Option.some.inj h2
    · obtain ⟨o, h1, h2⟩ := ih (i + 1) (by omega)
      refine ⟨o, ?_, h2⟩
      refine Ev.step (fun k => by rw [spec_l14Ways.l1]) ?_
      refine Ev.ifp (by omega) (Ev.ifp (by omega) (Ev.ifn (by rw [rd_nat ks i hik]; exact c1) ?_))
      rw [e]; exact h1
theorem l14_ev (r c : Nat) (h1 : 1 ≤ r) (h2 : 1 ≤ c) (h3 : r * c ≤ 24) (hh : Int) : ∀ (m u : Nat) (ks ns : List Int), u < 2 ^ (r * c) → (freeL (r * c) u).length ≤ m → m ≤ 24 → R2 (r * c) c ks ns → ks.length + 2 ^ (m + 1) ≤ 2 ^ 30 →
    ∃ ks' ns', R2 (r * c) c ks' ns' ∧ ks'.length + 1 ≤ ks.length + 2 ^ (m + 1) ∧ Ev (fun k => spec_l14Ways.f k r c hh u ks ns) (((waysN (r * c) c u : Nat) : Int), ks', ns') := by
  intro m
  have hb := le24 h1 h2 h3
  induction m with
  | zero =>
    intro u ks ns hu hm _ hR hl
    rcases full_or (r * c) u with h | ⟨a, ha, hf, _⟩
    · refine ⟨ks, ns, hR, by omega, Ev.step (fun k => by rw [spec_l14Ways.f]) ?_⟩
      rw [mul_go r c h3]
      refine Ev.bind (l14_first (r * c) u (r * c) h3 (Nat.le_refl _) h (.inl rfl) (r * c) 0 (by omega)) (Ev.ifp rfl ?_)
      rw [waysN_full _ _ _ h]; exact Ev.now _
    · have := List.length_pos_of_mem ((freeL_mem (r * c) u a).2 ⟨ha, hf⟩); omega
  | succ m ih =>
    intro u ks ns hu hm hm24 hR hl
    rcases full_or (r * c) u with h | ⟨a, ha, hf, hbl⟩
    · refine ⟨ks, ns, hR, by have := Nat.one_le_two_pow (n := m + 1 + 1); omega, Ev.step (fun k => by rw [spec_l14Ways.f]) ?_⟩
      rw [mul_go r c h3]
      refine Ev.bind (l14_first (r * c) u (r * c) h3 (Nat.le_refl _) h (.inl rfl) (r * c) 0 (by omega)) (Ev.ifp rfl ?_)
      rw [waysN_full _ _ _ h]; exact Ev.now _
    · have hp : 2 ^ (m + 1 + 1) = 2 ^ (m + 1) + 2 ^ (m + 1) := by rw [Nat.pow_succ]; omega
      have hp1 := Nat.one_le_two_pow (n := m + 1)
      obtain ⟨o, ho, hoe⟩ := l14_look (r * c) c u ks ns hR (by omega) ks.length 0 (by omega)
      have hfirst := l14_first (r * c) u a h3 (by omega) hbl (.inr hf) a 0 (by omega)
      cases o with
      | some n =>
        refine ⟨ks, ns, hR, by omega, Ev.step (fun k => by rw [spec_l14Ways.f]) ?_⟩
        rw [mul_go r c h3]
        refine Ev.bind hfirst (Ev.ifn (by omega) (Ev.bind ho ?_))
        rw [hoe n rfl]; exact Ev.now _
      | none =>
        have ha24 : a ≤ 24 := by omega
        have hu24 := pow24 h3 hu
        obtain ⟨x1, k1, n1, hR1, hl1, hx1, hE1⟩ : ∃ (x1 : Nat) (k1 n1 : List Int), R2 (r * c) c k1 n1 ∧ k1.length + 1 ≤ ks.length + 2 ^ (m + 1) ∧ Aside0 (x1 = if (a + 1) % c ≠ 0 ∧ u.testBit (a + 1) = false then waysN (r * c) c (u ||| 2 ^ a ||| 2 ^ (a + 1)) else 0) ∧
            Ev (fun k => if Int.tmod (a : Int) (c : Int) < wrap64 ((c : Int) - 1) ∧ Int.tmod (shr .i64 (u : Int) ((a + 1 : Nat) : Int)) 2 = 0 then ((spec_l14Ways.f k r c hh (Go.bits .or .i64 (Go.bits .or .i64 (u : Int) (shl .i64 1 (a : Int))) (shl .i64 1 ((a + 1 : Nat) : Int))) ks ns).bind fun z => some (wrap64 (0 + z.1), z.2)) else (some (0, ks, ns))) ((x1 : Int), k1, n1) := by
          by_cases q : (a + 1) % c ≠ 0 ∧ u.testBit (a + 1) = false
          · have hl1 := div_lt_row h2 ha q.1
            have hfl := freeL_two (r * c) u a (a + 1) ha hl1 hf q.2 (by omega)
            have hlt := or_lt (or_lt hu ha) hl1
            obtain ⟨k1, n1, g1, g2, g3⟩ := ih (u ||| 2 ^ a ||| 2 ^ (a + 1)) ks ns hlt (by omega) (by omega) hR (by omega)
            have hs := ways_small r c h2 h3 _ hlt
            refine ⟨_, k1, n1, g1, g2, ⟨(if_pos q).symm⟩, Ev.ifp ((condSR u a c h2 hb.2 ha24).2 q) ?_⟩
            rw [cover_go u a (a + 1) hu24 (by omega) (by omega)]
            refine Ev.bind g3 (Ev.eq (Ev.now _) ?_)
            rw [zsum_go _ hs]
          · exact ⟨0, ks, ns, hR, by omega, ⟨(if_neg q).symm⟩, Ev.ifn (fun h => q ((condSR u a c h2 hb.2 ha24).1 h)) (Ev.now _)⟩
        obtain ⟨x2, k2, n2, hR2, hl2, hx2, hE2⟩ : ∃ (x2 : Nat) (k2 n2 : List Int), R2 (r * c) c k2 n2 ∧ k2.length + 1 ≤ k1.length + 2 ^ (m + 1) ∧ Aside0 (x2 = x1 + if a + c < r * c ∧ u.testBit (a + c) = false then waysN (r * c) c (u ||| 2 ^ a ||| 2 ^ (a + c)) else 0) ∧
            Ev (fun k => if ((a + c : Nat) : Int) < ((r * c : Nat) : Int) ∧ Int.tmod (shr .i64 (u : Int) ((a + c : Nat) : Int)) 2 = 0 then ((spec_l14Ways.f k r c hh (Go.bits .or .i64 (Go.bits .or .i64 (u : Int) (shl .i64 1 (a : Int))) (shl .i64 1 ((a + c : Nat) : Int))) k1 n1).bind fun y => some (wrap64 ((x1 : Int) + y.1), y.2)) else (some ((x1 : Int), k1, n1))) ((x2 : Int), k2, n2) := by
          by_cases q : a + c < r * c ∧ u.testBit (a + c) = false
          · have hfl := freeL_two (r * c) u a (a + c) ha q.1 hf q.2 (by omega)
            have hlt := or_lt (or_lt hu ha) q.1
            obtain ⟨k2, n2, g1, g2, g3⟩ := ih (u ||| 2 ^ a ||| 2 ^ (a + c)) k1 n1 hlt (by omega) (by omega) hR1 (by omega)
            have hs := ways_small r c h2 h3 _ hlt
            have hs1 : x1 ≤ 16777216 := by
              rw [hx1.out]; split
              · rename_i q1
                exact ways_small r c h2 h3 _ (or_lt (or_lt hu ha) (div_lt_row h2 ha q1.1))
              · omega
            refine ⟨_, k2, n2, g1, g2, ⟨by rw [if_pos q]⟩, Ev.ifp ((condSD u a c (r * c) hb.2 ha24).2 q) ?_⟩
            rw [cover_go u a (a + c) hu24 (by omega) (by omega)]
            refine Ev.bind g3 (Ev.eq (Ev.now _) ?_)
            rw [sum_go _ _ hs1 hs]
          · exact ⟨x1, k1, n1, hR1, by omega, ⟨by rw [if_neg q]; rfl⟩, Ev.ifn (fun h => q ((condSD u a c (r * c) hb.2 ha24).1 h)) (Ev.now _)⟩
        have hx : x2 = waysN (r * c) c u := by rw [hx2.out, hx1.out]; exact (waysN_step r c u a h2 ha hf hbl).symm
        refine ⟨k2 ++ [(u : Int)], n2 ++ [((waysN (r * c) c u : Nat) : Int)], R2_add hR2 u, by rw [List.length_append, List.length_singleton]; omega, Ev.step (fun k => by rw [spec_l14Ways.f]) ?_⟩
        rw [mul_go r c h3]
        refine Ev.bind hfirst (Ev.ifn (by omega) (Ev.bind ho ?_))
        refine Ev.ifn (by omega) (Ev.ifp (by omega) ?_)
        rw [succ_go a (by omega), add_go a c (by omega) (by omega)]
        refine Ev.ifp (by omega) (Ev.ifp (by omega) ?_)
        refine Ev.bind hE1 (Ev.bind hE2 ?_)
        have := hR2.1
        refine Ev.ifp (by simp only []; omega) (Ev.ifp (by simp only []; omega) (Ev.eq (Ev.now _) ?_))
        rw [hx]
def waysV (r c h : Int) : Int := if boardV r c h = true then ((waysN (r.toNat * c.toNat) c.toNat h.toNat : Nat) : Int) else -1
theorem waysV_nat {r c x : Nat} (h1 : 1 ≤ r) (h2 : 1 ≤ c) (h3 : r * c ≤ 24) (hx : x < 2 ^ (r * c)) : waysV (r : Int) (c : Int) (x : Int) = ((waysN (r * c) c x : Nat) : Int) := by
  unfold waysV
  rw [if_pos (boardV_nat h1 h2 h3 hx)]
  simp
theorem boardV_rep {r c h : Int} (hv : boardV r c h = true) : ∃ R C H : Nat, r = R ∧ c = C ∧ h = H ∧ 1 ≤ R ∧ 1 ≤ C ∧ R * C ≤ 24 ∧ H < 2 ^ (R * C) := by
  obtain ⟨h1, h2, h3, h4, h5, h6, h7, h8, h9, h10⟩ := boardV_ok2 hv
  obtain ⟨R, rfl⟩ := Int.eq_ofNat_of_zero_le (show 0 ≤ r by omega)
  obtain ⟨C, rfl⟩ := Int.eq_ofNat_of_zero_le (show 0 ≤ c by omega)
  obtain ⟨H, rfl⟩ := Int.eq_ofNat_of_zero_le h7
  have e : (R : Int) * (C : Int) = ((R * C : Nat) : Int) := by simp
  rw [e] at h6 h8
  refine ⟨R, C, H, rfl, rfl, rfl, by omega, by omega, by omega, ?_⟩
  rw [Int.toNat_natCast] at h8
  exact_mod_cast h8
theorem wf_small {n H : Nat} (h : H < 2 ^ n) (hn : n ≤ 24) : (Lit.int .i64 (H : Int)).wf = true := by
  have h1 := pow24 hn h
  have h2 : (decide (IntKind.i64.min ≤ (H : Int)) && decide ((H : Int) ≤ IntKind.i64.max)) = true := by
    simp [IntKind.min, IntKind.max, IntKind.bits, IntKind.signed]
    omega
  exact h2
theorem impl_count (r c h : Int) : Ev (fun k => impl_TilingCount.f k r c h) (waysV r c h) := by
  unfold impl_TilingCount.f waysV
  refine Ev.bindc (impl_board r c h) ?_
  by_cases hv : boardV r c h = true
  · obtain ⟨R, C, H, rfl, rfl, rfl, h1, h2, h3, h4⟩ := boardV_rep hv
    obtain ⟨ps', _, _, hE⟩ := til_ev R C h1 h2 h3 H 24 H [] h4 (Nat.le_trans (freeL_len _ _) h3) (by omega) (Rt_nil _ _) (by simp)
    refine Ev.ifp hv (Ev.ifp (wf_small h4 h3) (Ev.bind hE (Ev.eq (Ev.now _) ?_)))
    rw [if_pos hv]; simp
  · exact Ev.ifn hv (Ev.eq (Ev.now _) (by rw [if_neg hv]))
theorem spec_count (r c h : Int) : Ev (fun k => spec_TilingCount.f k r c h) (waysV r c h) := by
  unfold spec_TilingCount.f waysV
  refine Ev.bindc (spec_board r c h) ?_
  by_cases hv : boardV r c h = true
  · obtain ⟨R, C, H, rfl, rfl, rfl, h1, h2, h3, h4⟩ := boardV_rep hv
    obtain ⟨ks', ns', _, _, hE⟩ := l14_ev R C h1 h2 h3 H 24 H [] [] h4 (Nat.le_trans (freeL_len _ _) h3) (by omega) (R2_nil _ _) (by simp)
    refine Ev.ifp hv (Ev.bind hE (Ev.eq (Ev.now _) ?_))
    rw [if_pos hv]; simp
  · exact Ev.ifn hv (Ev.eq (Ev.now _) (by rw [if_neg hv]))
theorem adj_all : ∀ r ∈ List.range 25, ∀ c ∈ List.range 25, 1 ≤ r → 1 ≤ c → r * c ≤ 24 → ∀ a ∈ List.range (r * c), ∀ b ∈ List.range (r * c), adjB r (sg r c a) (sg r c b) = adjB c a b := by decide +kernel
theorem adj_turn {r c : Nat} (h1 : 1 ≤ r) (h2 : 1 ≤ c) (h3 : r * c ≤ 24) (a b : Nat) (ha : a < r * c) (hb : b < r * c) : adjB r (sg r c a) (sg r c b) = adjB c a b := by
  have h := le24 h1 h2 h3
  exact adj_all r (List.mem_range.2 (by omega)) c (List.mem_range.2 (by omega)) h1 h2 h3 a (List.mem_range.2 ha) b (List.mem_range.2 hb)
theorem ways_turn {r c : Nat} (h1 : 1 ≤ r) (h2 : 1 ≤ c) (h3 : r * c ≤ 24) (x : Nat) : waysN (c * r) r (turnN r c x) = waysN (r * c) c x := by
  have hs := sg_ok h1 h2 h3
  unfold waysN
  rw [Nat.mul_comm c r]
  have hp : ((freeL (r * c) x).map (sg r c)).Perm (freeL (r * c) (turnN r c x)) := by
    unfold freeL
    have h := hs.1.filter (fun i => !(turnN r c x).testBit i)
    rw [List.filter_map] at h
    have e : (List.range (r * c)).filter ((fun i => !(turnN r c x).testBit i) ∘ sg r c) = (List.range (r * c)).filter (fun i => !x.testBit i) := by
      apply List.filter_congr
      intro k hk
      simp only [Function.comp]
      rw [turn_bit h1 h2 h3 x k (List.mem_range.1 hk)]
    rw [e] at h
    exact h
  have hm : ∀ a, a ∈ freeL (r * c) x → a < r * c := fun a ha => ((freeL_mem _ _ _).1 ha).1
  rw [mat_perm (adjB r) (adjB_symm r) (r * c) hp.symm (freeL_nodup _ _) (freeL_len _ _)]
  exact mat_map (adjB c) (adjB r) (sg r c) (r * c) (freeL (r * c) x) (fun a ha b hb e => hs.2.2 a b (hm a ha) (hm b hb) e) (fun a ha b hb => adj_turn h1 h2 h3 a b (hm a ha) (hm b hb)) (freeL_len _ _)
theorem par_nat (c i : Nat) : par (c : Int) i = (((i / c + i % c) % 2 : Nat) : Int) := by
  unfold par; push_cast; rfl
theorem cnt_free0 (c x n : Nat) : cnt (c : Int) (x : Int) 0 0 n = ((((freeL n x).filter fun i => (i / c + i % c) % 2 == 0).length : Nat) : Int) := by
  unfold cnt freeL
  rw [← List.range_eq_range', List.filter_filter, ← List.countP_eq_length_filter]
  congr 1
  apply List.countP_congr
  intro i _
  rw [bit_nat, par_nat]
  cases x.testBit i <;> simp <;> omega
theorem cnt_free1 (c x n : Nat) : cnt (c : Int) (x : Int) 1 0 n = ((((freeL n x).filter fun i => !((i / c + i % c) % 2 == 0)).length : Nat) : Int) := by
  unfold cnt freeL
  rw [← List.range_eq_range', List.filter_filter, ← List.countP_eq_length_filter]
  congr 1
  apply List.countP_congr
  intro i _
  rw [bit_nat, par_nat]
  have h := Nat.mod_two_eq_zero_or_one (i / c + i % c)
  generalize (i / c + i % c) % 2 = z at h
  rcases h with h | h <;> subst h <;> cases x.testBit i <;> simp
theorem colours_ways {r c : Nat} (h2 : 1 ≤ c) (x : Nat) : cnt (c : Int) (x : Int) 0 0 (r * c) = cnt (c : Int) (x : Int) 1 0 (r * c) ∨ waysN (r * c) c x = 0 := by
  by_cases h : waysN (r * c) c x = 0
  · exact .inr h
  · refine .inl ?_
    rw [cnt_free0, cnt_free1, ways_colours r c x h2 h]
theorem fin3 {n' n s e o : Int} (h1 : n' = n) (h2 : s = n) (h3 : e = o ∨ n = 0) : (if n' = n then (if e = o then some (s == n) else (if n = 0 then some (s == n) else some false)) else some false) = some true := by
  subst h2
  rw [if_pos h1]
  rcases h3 with h | h
  · rw [if_pos h]; simp
  · by_cases c : e = o
    · rw [if_pos c]; simp
    · rw [if_neg c, if_pos h]; simp
theorem count_turn {R C X : Nat} (k1 : 1 ≤ R) (k2 : 1 ≤ C) (k3 : R * C ≤ 24) (hX : X < 2 ^ (R * C)) : Ev (fun k => impl_TilingCount.f k C R (turnN R C X : Nat)) ((waysN (R * C) C X : Nat) : Int) := by
  have h := impl_count (C : Int) (R : Int) ((turnN R C X : Nat) : Int)
  rw [waysV_nat k2 k1 (by rw [Nat.mul_comm]; exact k3) (by rw [Nat.mul_comm]; exact turnN_lt k1 k2 k3 X), ways_turn k1 k2 k3] at h
  exact h
theorem count_small {R C X : Nat} (k1 : 1 ≤ R) (k2 : 1 ≤ C) (k3 : R * C ≤ 24) (hX : X < 2 ^ (R * C)) : waysN (R * C) C X ≤ 16777216 := ways_small R C k2 k3 X hX
def one1 (R C X : Nat) : Nat := if (0 + 1) % C ≠ 0 ∧ X.testBit (0 + 1) = false then waysN (R * C) C (X ||| 2 ^ 0 ||| 2 ^ (0 + 1)) else 0
def one2 (R C X : Nat) : Nat := if 0 + C < R * C ∧ X.testBit (0 + C) = false then waysN (R * C) C (X ||| 2 ^ 0 ||| 2 ^ (0 + C)) else 0
theorem pos0 {R C X : Nat} (k1 : 1 ≤ R) (k2 : 1 ≤ C) (k3 : R * C ≤ 24) (hX : X < 2 ^ (R * C)) : 0 < R * C := Nat.mul_pos k1 k2
theorem one1_le {R C X : Nat} (k1 : 1 ≤ R) (k2 : 1 ≤ C) (k3 : R * C ≤ 24) (hX : X < 2 ^ (R * C)) : one1 R C X ≤ 16777216 := by
  unfold one1
  split
  · rename_i q
    have h0 := pos0 k1 k2 k3 hX
    exact ways_small R C k2 k3 _ (or_lt (or_lt hX h0) (div_lt_row k2 h0 q.1))
  · omega
theorem one2_le {R C X : Nat} (k1 : 1 ≤ R) (k2 : 1 ≤ C) (k3 : R * C ≤ 24) (hX : X < 2 ^ (R * C)) : one2 R C X ≤ 16777216 := by
  unfold one2
  split
  · rename_i q
    exact ways_small R C k2 k3 _ (or_lt (or_lt hX (pos0 k1 k2 k3 hX)) q.1)
  · omega
theorem ones_add {R C X : Nat} (k1 : 1 ≤ R) (k2 : 1 ≤ C) (k3 : R * C ≤ 24) (hX : X < 2 ^ (R * C)) (hf : X.testBit 0 = false) : waysN (R * C) C X = one1 R C X + one2 R C X := waysN_step R C X 0 k2 (pos0 k1 k2 k3 hX) hf (fun i hi => absurd hi (by omega))
theorem he' {R C X : Nat} (k1 : 1 ≤ R) (k2 : 1 ≤ C) (k3 : R * C ≤ 24) (hX : X < 2 ^ (R * C)) (hf : X.testBit 0 = false) {e o : Int} (he : e = o ∨ waysN (R * C) C X = 0) : e = o ∨ ((waysN (R * C) C X : Nat) : Int) = 0 := he.imp_right (fun h => by rw [h]; rfl)
theorem j2_ev {R C X : Nat} (k1 : 1 ≤ R) (k2 : 1 ≤ C) (k3 : R * C ≤ 24) (hX : X < 2 ^ (R * C)) (hf : X.testBit 0 = false) {e o : Int} (he : e = o ∨ waysN (R * C) C X = 0) (q : Bool) (hq : q = true ↔ (0 + C < R * C ∧ X.testBit (0 + C) = false)) : Ev (fun k => laws_FnTilingCount.j2 k ((waysN (R * C) C X : Nat) : Int) e o ((one1 R C X : Nat) : Int) q R C X) true := by
  have hb := le24 k1 k2 k3
  have l1 := one1_le k1 k2 k3 hX
  have l2 := one2_le k1 k2 k3 hX
  have hx24 := pow24 k3 hX
  refine Ev.step (fun k => by rw [laws_FnTilingCount.j2]) ?_
  cases q with
  | false =>
    have hn : ¬ (0 + C < R * C ∧ X.testBit (0 + C) = false) := fun h => by have := hq.2 h; simp at this
    have hs : ((one1 R C X : Nat) : Int) = ((waysN (R * C) C X : Nat) : Int) := by
      rw [ones_add k1 k2 k3 hX hf]; unfold one2; rw [if_neg hn, Nat.add_zero]
    exact Ev.ifn (by decide) (Ev.bind (turned_ev k1 k2 k3 X hX) (Ev.bind (count_turn k1 k2 k3 hX) (Ev.cst (fin3 rfl hs (he' k1 k2 k3 hX hf he)))))
  | true =>
    have hp := hq.1 rfl
    have hlt := or_lt (or_lt hX (pos0 k1 k2 k3 hX)) hp.1
    have ev2 : Ev (fun k => impl_TilingCount.f k R C (Go.bits .or .i64 (Go.bits .or .i64 (X : Int) 1) (shl .i64 1 (C : Int)))) ((one2 R C X : Nat) : Int) := by
      have e1 : Go.bits .or .i64 (X : Int) 1 = ((X ||| 1 : Nat) : Int) := or_go X 1 (by omega) (by omega)
      have h1 : X ||| 1 < 2 ^ 24 := Nat.or_lt_two_pow hx24 (by omega)
      have h2 : 2 ^ C ≤ 2 ^ 24 := Nat.pow_le_pow_right (by omega) (by omega)
      have e2 : Go.bits .or .i64 ((X ||| 1 : Nat) : Int) ((2 ^ C : Nat) : Int) = ((X ||| 1 ||| 2 ^ C : Nat) : Int) := or_go _ _ (by omega) (by omega)
      have h := impl_count (R : Int) (C : Int) ((X ||| 2 ^ 0 ||| 2 ^ (0 + C) : Nat) : Int)
      rw [waysV_nat k1 k2 k3 hlt] at h
      have e3 : one2 R C X = waysN (R * C) C (X ||| 2 ^ 0 ||| 2 ^ (0 + C)) := by unfold one2; rw [if_pos hp]
      rw [e1, shl1_nat C (by omega), e2, e3]
      rw [show X ||| 1 ||| 2 ^ C = X ||| 2 ^ 0 ||| 2 ^ (0 + C) by simp]
      exact h
    refine Ev.ifp rfl (Ev.ifp (by omega) (Ev.bind ev2 (Ev.bind (turned_ev k1 k2 k3 X hX) (Ev.bind (count_turn k1 k2 k3 hX) (Ev.cst (fin3 rfl ?_ (he' k1 k2 k3 hX hf he)))))))
    rw [sum_go _ _ l1 l2, ones_add k1 k2 k3 hX hf]
theorem j1_ev {R C X : Nat} (k1 : 1 ≤ R) (k2 : 1 ≤ C) (k3 : R * C ≤ 24) (hX : X < 2 ^ (R * C)) (hf : X.testBit 0 = false) {e o : Int} (he : e = o ∨ waysN (R * C) C X = 0) : Ev (fun k => laws_FnTilingCount.j1 k ((waysN (R * C) C X : Nat) : Int) e o ((one1 R C X : Nat) : Int) R C X) true := by
  refine Ev.step (fun k => by rw [laws_FnTilingCount.j1]) ?_
  by_cases c : (R : Int) > 1
  · refine Ev.ifp c (Ev.ifp (by omega) (j2_ev k1 k2 k3 hX hf he _ ?_))
    have hb := le24 k1 k2 k3
    have hlt : C < R * C := Nat.lt_of_lt_of_le (by omega : C < 2 * C) (Nat.mul_le_mul_right C (by omega))
    rw [bitS X C (by omega), Nat.zero_add]
    cases X.testBit C <;> simp [hlt]
  · refine Ev.ifn c (j2_ev k1 k2 k3 hX hf he _ ?_)
    have : R = 1 := by omega
    subst this
    simp
theorem j0_ev {R C X : Nat} (k1 : 1 ≤ R) (k2 : 1 ≤ C) (k3 : R * C ≤ 24) (hX : X < 2 ^ (R * C)) (hf : X.testBit 0 = false) {e o : Int} (he : e = o ∨ waysN (R * C) C X = 0) (q : Bool) (hq : q = true ↔ ((0 + 1) % C ≠ 0 ∧ X.testBit (0 + 1) = false)) : Ev (fun k => laws_FnTilingCount.j0 k ((waysN (R * C) C X : Nat) : Int) e o 0 q R C X) true := by
  have l1 := one1_le k1 k2 k3 hX
  have hx24 := pow24 k3 hX
  refine Ev.step (fun k => by rw [laws_FnTilingCount.j0]) ?_
  have J := j1_ev k1 k2 k3 hX hf he
  cases q with
  | false =>
    have hn : ¬ ((0 + 1) % C ≠ 0 ∧ X.testBit (0 + 1) = false) := fun h => by have := hq.2 h; simp at this
    have e1 : one1 R C X = 0 := by unfold one1; rw [if_neg hn]
    rw [e1] at J
    exact Ev.ifn (by decide) J
  | true =>
    have hp := hq.1 rfl
    have h0 := pos0 k1 k2 k3 hX
    have hlt := or_lt (or_lt hX h0) (div_lt_row k2 h0 hp.1)
    have ev1 : Ev (fun k => impl_TilingCount.f k R C (Go.bits .or .i64 (X : Int) 3)) ((one1 R C X : Nat) : Int) := by
      have e1 : Go.bits .or .i64 (X : Int) 3 = ((X ||| 3 : Nat) : Int) := or_go X 3 (by omega) (by omega)
      have h := impl_count (R : Int) (C : Int) ((X ||| 2 ^ 0 ||| 2 ^ (0 + 1) : Nat) : Int)
      rw [waysV_nat k1 k2 k3 hlt] at h
      have e3 : one1 R C X = waysN (R * C) C (X ||| 2 ^ 0 ||| 2 ^ (0 + 1)) := by unfold one1; rw [if_pos hp]
      rw [e1, e3, show X ||| 3 = X ||| 2 ^ 0 ||| 2 ^ (0 + 1) by rw [Nat.or_assoc]; rfl]
      exact h
    refine Ev.ifp rfl (Ev.bind ev1 ?_)
    rw [zsum_go _ l1]
    exact J
theorem FnTilingCount : laws_FnTilingCount.Pure := by
  intro l h _ hb
  apply Ev.rounds
  unfold laws_FnTilingCount.f
  by_cases c0 : (l.length : Int) > 1048576
  · exact Ev.ifp c0 (Ev.now _)
  refine Ev.ifn c0 ?_
  obtain ⟨b, e, hB⟩ := open_ok l h hb
  obtain ⟨⟨r, c, m, p⟩, e1⟩ := drawBoard hB 12 (by omega)
  refine Ev.bind (a := (r, c, m)) (by unfold spec_DrawTilingCount.f; exact Ev.bindc e (Ev.bind e1 (Ev.now _))) ?_
  refine Ev.bind (impl_count r c m) (Ev.bind (spec_count r c m) (Ev.ifp rfl ?_))
  by_cases hv : boardV r c m = true
  · obtain ⟨R, C, X, rfl, rfl, rfl, k1, k2, k3, hX⟩ := boardV_rep hv
    have eN := waysV_nat k1 k2 k3 hX
    have erc : (R : Int) * (C : Int) = ((R * C : Nat) : Int) := by simp
    have ec : coloursV R C X = (cnt C X 0 0 (R * C), cnt C X 1 0 (R * C)) := by unfold coloursV; rw [if_pos hv, erc, Int.toNat_natCast]
    have he := colours_ways (r := R) k2 X
    have hI := impl_colours (R : Int) (C : Int) (X : Int)
    rw [ec] at hI
    rw [eN]
    refine Ev.ifn (by omega) (Ev.bind hI ?_)
    have e0 : Int.tmod (X : Int) 2 = if X.testBit 0 then 1 else 0 := by
      have := bitS X 0 (by omega)
      rw [show shr .i64 (X : Int) ((0 : Nat) : Int) = (X : Int) by rw [shr_nat _ 0 (by omega)]; simp] at this
      exact this
    have e1 : Int.tmod ((X : Int) / 2) 2 = if X.testBit 1 then 1 else 0 := by
      have := bitS X 1 (by omega)
      rw [show shr .i64 (X : Int) ((1 : Nat) : Int) = (X : Int) / 2 by rw [shr_nat _ 1 (by omega)]; simp] at this
      exact this
    cases hf : X.testBit 0
    · refine Ev.ifp (by rw [e0, hf]; rfl) ?_
      by_cases c1 : (C : Int) > 1
      · refine Ev.ifp c1 (j0_ev k1 k2 k3 hX hf he _ ?_)
        rw [e1, Nat.zero_add, Nat.mod_eq_of_lt (show 1 < C by omega)]
        cases X.testBit 1 <;> simp
      · refine Ev.ifn c1 (j0_ev k1 k2 k3 hX hf he _ ?_)
        have : C = 1 := by omega
        subst this
        simp
    · refine Ev.ifn (by rw [e0, hf]; decide) (Ev.bind (turned_ev k1 k2 k3 X hX) (Ev.bind (count_turn k1 k2 k3 hX) (Ev.cst (fin3 rfl rfl ?_))))
      exact he.imp_right (fun h => by rw [h]; rfl)
  · have eN : waysV r c m = -1 := by unfold waysV; rw [if_neg hv]
    rw [eN]
    exact Ev.ifp (by decide) (Ev.ifp rfl (Ev.bind alive_ev (Ev.now _)))

end Go.Proofs.YtbdkmkbkggnekaaDoor.Pure
