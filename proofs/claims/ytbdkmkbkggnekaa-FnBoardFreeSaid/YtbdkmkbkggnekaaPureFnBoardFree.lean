/- For every code: at the board that the code draws BoardFree answers what the reference answers; the free cells of both colours are together all free cells, and without holes all cells are free. No conditions beyond the code being bytes. -/
import Derived.Test.YtbdkmkbkggnekaaPFnBoardFreex4
namespace Go.Proofs.Ytbdkmkbkggnekaa.Pure
open Go.RowKit Go.Proofs.Ytbdkmkbkggnekaa.PFnBoardFree Go.Proofs.YtbdkmkbkggnekaaW.PrintWords Go.Proofs.YtbdkmkbkggnekaaW.PrintLast Go.Proofs.YtbdkmkbkggnekaaW.PrintMore
set_option linter.unusedVariables false
set_option linter.unusedSimpArgs false
/-! Ev: small steps. -/
theorem _root_.Go.Proofs.YtbdkmkbkggnekaaW.PrintWords.Ev.ifp {α : Type} {c : Prop} [Decidable c] {g f : Nat → Option α} {r : α} (hc : c) (h : Ev g r) : Ev (fun k => if c then g k else f k) r :=
  Ev.congr (fun _ => if_pos hc) h
theorem _root_.Go.Proofs.YtbdkmkbkggnekaaW.PrintWords.Ev.ifn {α : Type} {c : Prop} [Decidable c] {g f : Nat → Option α} {r : α} (hc : ¬ c) (h : Ev f r) : Ev (fun k => if c then g k else f k) r :=
  Ev.congr (fun _ => if_neg hc) h
theorem _root_.Go.Proofs.YtbdkmkbkggnekaaW.PrintWords.Ev.bindc {α β : Type} {o : Option α} {f : Nat → α → Option β} {a : α} {r : β} (h : o = some a) (k : Ev (fun n => f n a) r) : Ev (fun n => o.bind (f n)) r := by
  subst h; exact k
theorem _root_.Go.Proofs.YtbdkmkbkggnekaaW.PrintWords.Ev.eq {α : Type} {g : Nat → Option α} {r r' : α} (h : Ev g r) (e : r = r') : Ev g r' := e ▸ h
theorem _root_.Go.Proofs.YtbdkmkbkggnekaaW.PrintWords.Ev.cst {α : Type} {o : Option α} {r : α} (h : o = some r) : Ev (fun _ => o) r := ⟨0, fun _ _ => h⟩
theorem w64 {x : Int} (h0 : -9223372036854775808 ≤ x) (h1 : x ≤ 9223372036854775807) : wrap64 x = x := by unfold wrap64; omega
theorem wf_i64 {x : Int} (h : (Lit.int .i64 x).wf = true) : -9223372036854775808 ≤ x ∧ x ≤ 9223372036854775807 := by
  have h2 : (decide (IntKind.i64.min ≤ x) && decide (x ≤ IntKind.i64.max)) = true := h
  simp [IntKind.min, IntKind.max, IntKind.bits, IntKind.signed] at h2
  exact h2
theorem wf_u8 {x : Int} (h : (Lit.int .u8 x).wf = true) : 0 ≤ x ∧ x ≤ 255 := by
  have h2 : (decide (IntKind.u8.min ≤ x) && decide (x ≤ IntKind.u8.max)) = true := h
  simp [IntKind.min, IntKind.max, IntKind.bits, IntKind.signed] at h2
  omega
theorem rd_nat (xs : List Int) (i : Nat) (h : i < xs.length) : rd xs (i : Int) = xs[i] := by
  simp [rd, List.getD_eq_getElem?_getD, h]
theorem rd_mem (xs : List Int) (i : Int) (h0 : 0 ≤ i) (h : i < xs.length) : rd xs i ∈ xs := by
  obtain ⟨n, rfl⟩ := Int.eq_ofNat_of_zero_le h0
  rw [rd_nat xs n (by omega)]; exact List.getElem_mem _
theorem l1In_f (a b c : Int) : spec_l1In.f a b c = some (decide (b ≤ a ∧ a ≤ c)) := by
  unfold spec_l1In.f
  by_cases h : a ≥ b
  · rw [if_pos h]; simp; omega
  · rw [if_neg h]; simp; omega
/-! Binary digits. -/
def bit (m : Int) (d : Nat) : Int := m / 2 ^ d % 2
theorem bit_01 (m : Int) (d : Nat) : bit m d = 0 ∨ bit m d = 1 := by unfold bit; omega
theorem shr_bit {m : Int} (h0 : 0 ≤ m) (d : Nat) (hd : d ≤ 64) : Int.tmod (shr .i64 m (d : Int)) 2 = bit m d := by
  have e : shr .i64 m (d : Int) = m / 2 ^ d := by
    unfold shr
    rw [show min (d : Int).toNat IntKind.i64.bits = d from by simp [IntKind.bits]; omega]
  rw [e, Int.tmod_eq_emod_of_nonneg (Int.ediv_nonneg h0 (Int.pow_nonneg (by decide)))]
  rfl
theorem shr_nat (m : Int) (d : Nat) (hd : d ≤ 64) : shr .i64 m (d : Int) = m / 2 ^ d := by
  unfold shr
  rw [show min (d : Int).toNat IntKind.i64.bits = d from by simp [IntKind.bits]; omega]
theorem and1_bit {x : Int} (h0 : 0 ≤ x) (h1 : x < 4611686018427387904) : Go.bits .and .i64 x 1 = x % 2 := by
  have := bits_mask .i64 62 (by decide) (fun n h h' => by rw [IntKind.wrap_i64]; omega) 1 (by decide) x h0 h1
  simpa using this
theorem bit_nat (a d : Nat) : bit (a : Int) d = if a.testBit d then 1 else 0 := by
  unfold bit
  rw [Nat.testBit_eq_decide_div_mod_eq]
  have e : ((a : Int) / 2 ^ d % 2) = ((a / 2 ^ d % 2 : Nat) : Int) := by push_cast; rfl
  rw [e]
  by_cases h : a / 2 ^ d % 2 = 1
  · simp [h]
  · have : a / 2 ^ d % 2 = 0 := by omega
    simp [this]
/-- What BoardValid answers. -/
def boardV (r c h : Int) : Bool := decide (1 ≤ r ∧ 1 ≤ c ∧ r ≤ 24 ∧ c ≤ 24 ∧ r * c ≤ 24 ∧ 0 ≤ h ∧ h < 2 ^ (r * c).toNat)
theorem mul_bd {r c : Int} (h1 : 1 ≤ r) (h2 : r ≤ 24) (h3 : 1 ≤ c) (h4 : c ≤ 24) : 1 ≤ r * c ∧ r * c ≤ 576 ∧ wrap64 (r * c) = r * c := by
  have a : 0 < r * c := Int.mul_pos (by omega) (by omega)
  have b : r * c ≤ 24 * 24 := Int.mul_le_mul h2 h4 (by omega) (by omega)
  exact ⟨by omega, by omega, w64 (by omega) (by omega)⟩
theorem shl1_all : ∀ n ∈ List.range 25, shl .i64 1 (n : Int) = 2 ^ n ∧ 1 ≤ (2 : Int) ^ n ∧ (2 : Int) ^ n ≤ 16777216 := by decide +kernel
theorem shl1 (n : Int) (h0 : 0 ≤ n) (h1 : n ≤ 24) : shl .i64 1 n = 2 ^ n.toNat ∧ 1 ≤ (2 : Int) ^ n.toNat ∧ (2 : Int) ^ n.toNat ≤ 16777216 := by
  have := shl1_all n.toNat (List.mem_range.2 (by omega))
  rw [show ((n.toNat : Nat) : Int) = n by omega] at this
  exact this
theorem impl_board (r c h : Int) : impl_BoardValid.f r c h = some (boardV r c h) := by
  unfold impl_BoardValid.f boardV
  by_cases c1 : r < 1
  · rw [if_pos c1]; simp; omega
  rw [if_neg c1]
  by_cases c2 : c < 1
  · rw [if_pos c2]; simp; omega
  rw [if_neg c2]
  by_cases c3 : r > 24
  · rw [if_pos c3]; simp; omega
  rw [if_neg c3]
  by_cases c4 : c > 24
  · rw [if_pos c4]; simp; omega
  rw [if_neg c4]
  have hm := mul_bd (r := r) (c := c) (by omega) (by omega) (by omega) (by omega)
  rw [hm.2.2]
  generalize r * c = n at hm
  by_cases c5 : n > 24
  · rw [if_pos c5]; simp; omega
  rw [if_neg c5]
  have hs := shl1 n (by omega) (by omega)
  by_cases c6 : h ≥ 0
  · rw [if_pos c6, if_pos (by omega), hs.1]; simp only [Option.some.injEq, decide_eq_decide]; omega
  · rw [if_neg c6]; simp; omega
theorem spec_board (r c h : Int) : spec_BoardValid.f r c h = some (boardV r c h) := by
  unfold spec_BoardValid.f boardV
  rw [l1In_f, l1In_f]
  simp only [Option.bind_some]
  by_cases c1 : 1 ≤ r ∧ r ≤ 24
  · rw [if_pos (by simpa using c1)]
    by_cases c2 : 1 ≤ c ∧ c ≤ 24
    · rw [if_pos (by simpa using c2)]
      have hm := mul_bd (r := r) (c := c) (by omega) (by omega) (by omega) (by omega)
      rw [hm.2.2]
      generalize r * c = n at hm
      by_cases c5 : n ≤ 24
      · have hs := shl1 n (by omega) (by omega)
        rw [if_pos c5, if_pos (by omega), hs.1, l1In_f, w64 (by omega) (by omega)]
        simp only [Option.bind_some, Option.some.injEq, decide_eq_decide]; omega
      · rw [if_neg c5]; simp; omega
    · rw [if_neg (by simpa using c2)]; simp; omega
  · rw [if_neg (by simpa using c1)]; simp; omega
/-! The colours of the free cells. -/
def par (c : Int) (i : Nat) : Int := ((i : Int) / c + (i : Int) % c) % 2
def cnt (c h p : Int) (a d : Nat) : Int := ((List.range' a d).countP (fun i => bit h i == 0 && par c i == p) : Nat)
theorem par_01 (c : Int) (i : Nat) : par c i = 0 ∨ par c i = 1 := by unfold par; omega
theorem cnt_succ (c h p : Int) (a d : Nat) : cnt c h p a (d + 1) = (if bit h a = 0 ∧ par c a = p then 1 else 0) + cnt c h p (a + 1) d := by
  unfold cnt
  rw [List.range'_succ, List.countP_cons]
  by_cases h1 : bit h a = 0
  · by_cases h2 : par c a = p
    · simp [h1, h2]; omega
    · simp [h1, h2]
  · simp [h1]
theorem cnt_le (c h p : Int) (a d : Nat) : 0 ≤ cnt c h p a d ∧ cnt c h p a d ≤ d := by
  unfold cnt
  have := List.countP_le_length (p := fun i => bit h i == 0 && par c i == p) (l := List.range' a d)
  rw [List.length_range'] at this
  omega
/-- What BoardColours answers. -/
def coloursV (r c h : Int) : Int × Int := if boardV r c h = true then (cnt c h 0 0 (r * c).toNat, cnt c h 1 0 (r * c).toNat) else (-1, -1)
theorem par_eq (c : Int) (i : Nat) (hc : 1 ≤ c) (hc2 : c ≤ 24) (hi : i ≤ 1000) : Int.tmod (wrap64 ((wrap64 (Int.tdiv (i : Int) c)) + (Int.tmod (i : Int) c))) 2 = par c i := by
  have h1 : 0 ≤ (i : Int) / c := Int.ediv_nonneg (by omega) (by omega)
  have h2 : (i : Int) / c ≤ i := Int.ediv_le_self _ (by omega)
  have h3 : 0 ≤ (i : Int) % c := Int.emod_nonneg _ (by omega)
  have h4 : (i : Int) % c < c := Int.emod_lt_of_pos _ (by omega)
  rw [Int.tdiv_eq_ediv_of_nonneg (by omega), Int.tmod_eq_emod_of_nonneg (show (0 : Int) ≤ i by omega), w64 (x := (i : Int) / c) (by omega) (by omega), w64 (by omega) (by omega), Int.tmod_eq_emod_of_nonneg (by omega)]
  rfl
theorem boardV_ok {r c h : Int} (hv : boardV r c h = true) : 1 ≤ r ∧ 1 ≤ c ∧ r ≤ 24 ∧ c ≤ 24 ∧ 1 ≤ r * c ∧ r * c ≤ 24 ∧ 0 ≤ h ∧ h < 2 ^ (r * c).toNat ∧ h < 16777216 ∧ wrap64 (r * c) = r * c := by
  unfold boardV at hv
  rw [decide_eq_true_eq] at hv
  obtain ⟨h1, h2, h3, h4, h5, h6, h7⟩ := hv
  have hm := mul_bd (r := r) (c := c) (by omega) (by omega) (by omega) (by omega)
  have hs := shl1 (r * c) (by omega) (by omega)
  exact ⟨h1, h2, h3, h4, hm.1, h5, h6, h7, by omega, hm.2.2⟩
theorem impl_colours_l (c h : Int) (n : Nat) (hn2 : n ≤ 24) (hc : 1 ≤ c) (hc2 : c ≤ 24) (hh : 0 ≤ h) (hh2 : h < 4611686018427387904) : ∀ (d i : Nat) (e o : Int), n = i + d → 0 ≤ e → e + d ≤ 1000 → 0 ≤ o → o + d ≤ 1000 →
    Ev (fun k => impl_BoardColours.l0 k e o i n c h) (e + cnt c h 0 i d, o + cnt c h 1 i d) := by
  intro d
  induction d with
  | zero =>
    intro i e o hi _ _ _ _
    exact Ev.step (fun k => by rw [impl_BoardColours.l0]) (Ev.ifn (by omega) (Ev.eq (Ev.now _) (by simp [cnt])))
  | succ d ih =>
    intro i e o hi h1 h2 h3 h4
    have hw : wrap64 ((i : Int) + 1) = ((i + 1 : Nat) : Int) := by rw [w64 (by omega) (by omega)]; omega
    have hb0 : Go.bits .and .i64 (shr .i64 h (i : Int)) 1 = bit h i := by
      have hq : h / 2 ^ i ≤ h := Int.ediv_le_self _ hh
      rw [shr_nat _ _ (by omega), and1_bit (Int.ediv_nonneg hh (Int.pow_nonneg (by decide))) (by omega)]
      rfl
    refine Ev.step (fun k => by rw [impl_BoardColours.l0]) ?_
    rw [hw, hb0, par_eq c i hc hc2 (by omega), w64 (x := e + 1) (by omega) (by omega), w64 (x := o + 1) (by omega) (by omega), cnt_succ, cnt_succ]
    refine Ev.ifp (by omega) (Ev.ifp (by omega) ?_)
    rcases bit_01 h i with hb | hb <;> rw [hb]
    · refine Ev.ifp rfl (Ev.ifn (by omega) ?_)
      rcases par_01 c i with hp | hp <;> rw [hp]
      · exact Ev.ifp rfl (Ev.eq (ih (i + 1) (e + 1) o (by omega) (by omega) (by omega) (by omega) (by omega)) (by simp; omega))
      · exact Ev.ifn (by omega) (Ev.ifp rfl (Ev.eq (ih (i + 1) e (o + 1) (by omega) (by omega) (by omega) (by omega) (by omega)) (by simp; omega)))
    · exact Ev.ifn (by omega) (Ev.eq (ih (i + 1) e o (by omega) (by omega) (by omega) (by omega) (by omega)) (by simp))
theorem impl_colours (r c h : Int) : Ev (fun k => impl_BoardColours.f k r c h) (coloursV r c h) := by
  unfold impl_BoardColours.f coloursV
  refine Ev.bindc (impl_board r c h) ?_
  by_cases hv : boardV r c h = true
  · obtain ⟨h1, h2, h3, h4, h5, h6, h7, h8, h9, h10⟩ := boardV_ok hv
    refine Ev.ifp hv ?_
    have := impl_colours_l c h (r * c).toNat (by omega) h2 h4 h7 (by omega) (r * c).toNat 0 0 0 (by omega) (by omega) (by omega) (by omega) (by omega)
    rw [h10, if_pos hv]
    rw [show (((r * c).toNat : Nat) : Int) = r * c by omega] at this
    simpa using this
  · exact Ev.ifn hv (Ev.eq (Ev.now _) (by rw [if_neg hv]))
/-! OnesCount of numbers below 2^24. -/
theorem and256 (a y m M : Nat) (ha : a < 256) (hm : m < 256) : (a + 256 * y) &&& (m + 256 * M) = (a &&& m) + 256 * (y &&& M) := by
  have e1 : a + 256 * y = 2 ^ 8 * y + a := by omega
  have e2 : m + 256 * M = 2 ^ 8 * M + m := by omega
  have e3 : (a &&& m) + 256 * (y &&& M) = 2 ^ 8 * (y &&& M) + (a &&& m) := by omega
  rw [e1, e2, e3]
  apply Nat.eq_of_testBit_eq
  intro i
  rw [Nat.testBit_and, Nat.testBit_two_pow_mul_add y ha, Nat.testBit_two_pow_mul_add M hm, Nat.testBit_two_pow_mul_add (y &&& M) (Nat.lt_of_le_of_lt Nat.and_le_left ha)]
  by_cases h : i < 8 <;> simp [h, Nat.testBit_and]
def A1 (a : Nat) : Nat := (a / 2 &&& 85) + (a &&& 85)
def A2 (a : Nat) : Nat := (A1 a / 4 &&& 51) + (A1 a &&& 51)
def A3 (a : Nat) : Nat := A2 a / 16 + A2 a % 16
def P8 (a : Nat) : Nat := (List.range 8).countP (fun i => a.testBit i)
theorem byte_all : ∀ a ∈ List.range 256, A1 a ≤ 170 ∧ A2 a ≤ 68 ∧ A2 a % 16 ≤ 4 ∧ A2 a / 16 ≤ 4 ∧ A3 a = P8 a ∧ P8 a ≤ 8 := by decide +kernel
theorem sh1_all : ∀ a ∈ List.range 256, ∀ q ∈ List.range 2, (a / 2 + 128 * q) &&& 85 = a / 2 &&& 85 := by decide +kernel
theorem sh2_all : ∀ a ∈ List.range 256, ∀ q ∈ List.range 4, (a / 4 + 64 * q) &&& 51 = a / 4 &&& 51 := by decide +kernel
theorem sh3_all : ∀ a ∈ List.range 256, a &&& 15 = a % 16 := by decide +kernel
theorem byte_ok {a : Nat} (h : a < 256) : A1 a ≤ 170 ∧ A2 a ≤ 68 ∧ A2 a % 16 ≤ 4 ∧ A2 a / 16 ≤ 4 ∧ A3 a = P8 a ∧ P8 a ≤ 8 := byte_all a (List.mem_range.2 h)
theorem L1_n (a b c : Nat) (ha : a < 256) (hb : b < 256) (hc : c < 256) :
    ((a + 256 * (b + 256 * c)) / 2 &&& 6148914691236517205) + ((a + 256 * (b + 256 * c)) &&& 6148914691236517205) = A1 a + 256 * (A1 b + 256 * A1 c) := by
  have e : (a + 256 * (b + 256 * c)) / 2 = (a / 2 + 128 * (b % 2)) + 256 * ((b / 2 + 128 * (c % 2)) + 256 * (c / 2 + 256 * 0)) := by omega
  have e0 : a + 256 * (b + 256 * c) = a + 256 * (b + 256 * (c + 256 * 0)) := by omega
  have em : 6148914691236517205 = 85 + 256 * (85 + 256 * (85 + 256 * 366503875925)) := by decide
  rw [e, e0, em, and256 _ _ _ _ (by omega) (by omega), and256 _ _ _ _ (by omega) (by omega), and256 _ _ _ _ (by omega) (by omega), and256 _ _ _ _ (by omega) (by omega), and256 _ _ _ _ (by omega) (by omega), and256 _ _ _ _ (by omega) (by omega)]
  rw [sh1_all a (List.mem_range.2 ha) (b % 2) (List.mem_range.2 (by omega)), sh1_all b (List.mem_range.2 hb) (c % 2) (List.mem_range.2 (by omega)), Nat.zero_and]
  unfold A1
  omega
theorem L2_n (a b c : Nat) (ha : a < 256) (hb : b < 256) (hc : c < 256) :
    ((A1 a + 256 * (A1 b + 256 * A1 c)) / 4 &&& 3689348814741910323) + ((A1 a + 256 * (A1 b + 256 * A1 c)) &&& 3689348814741910323) = A2 a + 256 * (A2 b + 256 * A2 c) := by
  have ga := byte_ok ha
  have gb := byte_ok hb
  have gc := byte_ok hc
  unfold A2
  generalize A1 a = p at ga ⊢
  generalize A1 b = q at gb ⊢
  generalize A1 c = r at gc ⊢
  have e : (p + 256 * (q + 256 * r)) / 4 = (p / 4 + 64 * (q % 4)) + 256 * ((q / 4 + 64 * (r % 4)) + 256 * (r / 4 + 256 * 0)) := by omega
  have e0 : p + 256 * (q + 256 * r) = p + 256 * (q + 256 * (r + 256 * 0)) := by omega
  have em : 3689348814741910323 = 51 + 256 * (51 + 256 * (51 + 256 * 219902325555)) := by decide
  rw [e, e0, em, and256 _ _ _ _ (by omega) (by omega), and256 _ _ _ _ (by omega) (by omega), and256 _ _ _ _ (by omega) (by omega), and256 _ _ _ _ (by omega) (by omega), and256 _ _ _ _ (by omega) (by omega), and256 _ _ _ _ (by omega) (by omega)]
  rw [sh2_all p (List.mem_range.2 (by omega)) (q % 4) (List.mem_range.2 (by omega)), sh2_all q (List.mem_range.2 (by omega)) (r % 4) (List.mem_range.2 (by omega)), Nat.zero_and]
  omega
theorem nib (p w : Nat) (h : p / 16 + p % 16 ≤ 15) : (p / 16 + p + 16 * w) % 16 = p / 16 + p % 16 := by omega
theorem L3_n (a b c : Nat) (ha : a < 256) (hb : b < 256) (hc : c < 256) :
    ((A2 a + 256 * (A2 b + 256 * A2 c)) / 16 + (A2 a + 256 * (A2 b + 256 * A2 c))) &&& 1085102592571150095 = A3 a + 256 * (A3 b + 256 * A3 c) := by
  have ga := byte_ok ha
  have gb := byte_ok hb
  have gc := byte_ok hc
  unfold A3
  generalize A2 a = p at ga ⊢
  generalize A2 b = q at gb ⊢
  generalize A2 c = r at gc ⊢
  have e : (p + 256 * (q + 256 * r)) / 16 + (p + 256 * (q + 256 * r)) = (p / 16 + p + 16 * (q % 16)) + 256 * ((q / 16 + q + 16 * (r % 16)) + 256 * ((r / 16 + r) + 256 * 0)) := by omega
  have em : 1085102592571150095 = 15 + 256 * (15 + 256 * (15 + 256 * 64677154575)) := by decide
  rw [e, em, and256 _ _ _ _ (by omega) (by omega), and256 _ _ _ _ (by omega) (by omega), and256 _ _ _ _ (by omega) (by omega), Nat.zero_and]
  rw [sh3_all _ (List.mem_range.2 (by omega)), sh3_all _ (List.mem_range.2 (by omega)), sh3_all _ (List.mem_range.2 (by omega))]
  rw [nib p _ (by omega), nib q _ (by omega), show (r / 16 + r) % 16 = r / 16 + r % 16 from by have := nib r 0 (by omega); simpa using this, Nat.mul_zero, Nat.add_zero]
theorem and_u (a b : Nat) (ha : a < 9223372036854775808) (hb : b < 9223372036854775808) : Go.bits .and .u64 (a : Int) (b : Int) = ((a &&& b : Nat) : Int) :=
  (bits_nat .u64 63 (by decide) (fun n h h' => by simp [IntKind.wrap, IntKind.bits, IntKind.signed]; omega) a b (by omega) (by omega)).1
theorem u64w (n : Int) (h0 : 0 ≤ n) (h1 : n < 9223372036854775808) : IntKind.u64.wrap n = n := by
  simp [IntKind.wrap, IntKind.bits, IntKind.signed]; omega
theorem fin_n (p q r : Nat) (hp : p ≤ 8) (hq : q ≤ 8) (hr : r ≤ 8) : (((p + 256 * (q + 256 * r)) / 256 + (p + 256 * (q + 256 * r))) / 65536 + ((p + 256 * (q + 256 * r)) / 256 + (p + 256 * (q + 256 * r)))) % 128 = p + (q + r) := by
  have h1 : (p + 256 * (q + 256 * r)) / 256 = q + 256 * r := by omega
  rw [h1]
  have h2 : (q + 256 * r + (p + 256 * (q + 256 * r))) / 65536 = r := by omega
  rw [h2]
  omega
theorem tail_n (V p : Nat) (hV : V < 4294967296) (hM : V % 128 = p) : some (Go.bits .and .i64 (wrap64 (IntKind.u64.wrap ((V : Int) + (V : Int) / 4294967296))) 127) = some ((p : Nat) : Int) := by
  have t1 : IntKind.u64.wrap ((V : Int) + (V : Int) / 4294967296) = (V : Int) := by rw [u64w _ (by omega) (by omega)]; omega
  have t2 : wrap64 (V : Int) = V := w64 (by omega) (by omega)
  have v0 : (0 : Int) ≤ (V : Int) := by omega
  have v1 : (V : Int) < 4611686018427387904 := by omega
  have t3 : Go.bits .and .i64 (V : Int) 127 = (V : Int) % 128 := by
    have := bits_mask .i64 62 (by decide) (fun n h h' => by rw [IntKind.wrap_i64]; omega) 7 (by decide) (V : Int) v0 v1
    simpa using this
  rw [t1, t2, t3]
  congr 1
  omega
/-- The binary digits that are 1, below 2^24. -/
def pop (x : Nat) : Nat := (List.range 24).countP (fun i => x.testBit i)
theorem pop_bytes (a b c : Nat) (ha : a < 256) (hb : b < 256) (hc : c < 256) : pop (a + 256 * (b + 256 * c)) = P8 a + (P8 b + P8 c) := by
  have e1 : a + 256 * (b + 256 * c) = 2 ^ 8 * (b + 256 * c) + a := by omega
  have e2 : b + 256 * c = 2 ^ 8 * c + b := by omega
  have hr : List.range 24 = List.range 8 ++ ((List.range 8).map (· + 8) ++ (List.range 8).map (· + 16)) := by decide
  unfold pop P8
  rw [hr, List.countP_append, List.countP_append, List.countP_map, List.countP_map, e1]
  congr 1
  · apply List.countP_congr
    intro i hi
    rw [List.mem_range] at hi
    rw [Nat.testBit_two_pow_mul_add _ ha, if_pos hi]
  · congr 1
    · apply List.countP_congr
      intro i hi
      rw [List.mem_range] at hi
      simp only [Function.comp]
      rw [Nat.testBit_two_pow_mul_add _ ha, if_neg (by omega), e2, Nat.testBit_two_pow_mul_add _ hb, if_pos (by omega), show i + 8 - 8 = i by omega]
    · apply List.countP_congr
      intro i hi
      rw [List.mem_range] at hi
      simp only [Function.comp]
      rw [Nat.testBit_two_pow_mul_add _ ha, if_neg (by omega), e2, Nat.testBit_two_pow_mul_add _ hb, if_neg (by omega), show i + 16 - 8 - 8 = i by omega]
theorem ones_pop (x : Nat) (hx : x < 16777216) : bits_OnesCount.f (IntKind.u64.wrap (x : Int)) = some ((pop x : Nat) : Int) := by
  obtain ⟨a, b, c, ha, hb, hc, rfl⟩ : ∃ a b c, a < 256 ∧ b < 256 ∧ c < 256 ∧ x = a + 256 * (b + 256 * c) := ⟨x % 256, x / 256 % 256, x / 65536, by omega, by omega, by omega, by omega⟩
  have ga := byte_ok ha
  have gb := byte_ok hb
  have gc := byte_ok hc
  have l1 := L1_n a b c ha hb hc
  have l2 := L2_n a b c ha hb hc
  have l3 := L3_n a b c ha hb hc
  rw [pop_bytes a b c ha hb hc]
  generalize hX : a + 256 * (b + 256 * c) = X at l1 ⊢
  have hX2 : X < 16777216 := by omega
  generalize hY : A1 a + 256 * (A1 b + 256 * A1 c) = Y at l1 l2
  have hY2 : Y < 16777216 := by omega
  generalize hZ : A2 a + 256 * (A2 b + 256 * A2 c) = Z at l2 l3
  have hZ2 : Z < 16777216 := by omega
  generalize hU : A3 a + 256 * (A3 b + 256 * A3 c) = U at l3
  have hU2 : U < 16777216 := by omega
  have s0 : IntKind.u64.wrap (X : Int) = X := u64w _ (by omega) (by omega)
  have s1 : Go.bits .and .u64 ((X : Int) / 2) 6148914691236517205 = ((X / 2 &&& 6148914691236517205 : Nat) : Int) := by rw [← and_u _ _ (by omega) (by omega)]; congr 1
  have s2 : Go.bits .and .u64 (X : Int) 6148914691236517205 = ((X &&& 6148914691236517205 : Nat) : Int) := by rw [← and_u _ _ (by omega) (by omega)]; congr 1
  have s3 : IntKind.u64.wrap (((X / 2 &&& 6148914691236517205 : Nat) : Int) + ((X &&& 6148914691236517205 : Nat) : Int)) = (Y : Int) := by rw [u64w _ (by omega) (by omega)]; omega
  have s4 : Go.bits .and .u64 ((Y : Int) / 4) 3689348814741910323 = ((Y / 4 &&& 3689348814741910323 : Nat) : Int) := by rw [← and_u _ _ (by omega) (by omega)]; congr 1
  have s5 : Go.bits .and .u64 (Y : Int) 3689348814741910323 = ((Y &&& 3689348814741910323 : Nat) : Int) := by rw [← and_u _ _ (by omega) (by omega)]; congr 1
  have s6 : IntKind.u64.wrap (((Y / 4 &&& 3689348814741910323 : Nat) : Int) + ((Y &&& 3689348814741910323 : Nat) : Int)) = (Z : Int) := by rw [u64w _ (by omega) (by omega)]; omega
  have s7 : Go.bits .and .u64 (IntKind.u64.wrap ((Z : Int) / 16 + (Z : Int))) 1085102592571150095 = (U : Int) := by
    have := and_u (Z / 16 + Z) 1085102592571150095 (by omega) (by omega)
    rw [l3] at this
    rw [u64w _ (by omega) (by omega), ← this]; congr 1
  have s8 : IntKind.u64.wrap ((U : Int) + (U : Int) / 256) = ((U / 256 + U : Nat) : Int) := by rw [u64w _ (by omega) (by omega)]; omega
  have s9 : IntKind.u64.wrap (((U / 256 + U : Nat) : Int) + ((U / 256 + U : Nat) : Int) / 65536) = (((U / 256 + U) / 65536 + (U / 256 + U) : Nat) : Int) := by rw [u64w _ (by omega) (by omega)]; omega
  unfold bits_OnesCount.f bits_OnesCount64.f
  rw [s0]
  simp only [s1, s2, s3, s4, s5, s6, s7, s8, s9, Option.bind_some]
  have hV : (U / 256 + U) / 65536 + (U / 256 + U) < 4294967296 := by omega
  have hM : ((U / 256 + U) / 65536 + (U / 256 + U)) % 128 = P8 a + (P8 b + P8 c) := by
    rw [← hU, ga.2.2.2.2.1, gb.2.2.2.2.1, gc.2.2.2.2.1]
    exact fin_n _ _ _ ga.2.2.2.2.2 gb.2.2.2.2.2 gc.2.2.2.2.2
  generalize (U / 256 + U) / 65536 + (U / 256 + U) = V at hV hM ⊢
  exact tail_n V _ hV hM
/-- The free cells from cell a on. -/
def freeN (h : Int) (a d : Nat) : Int := ((List.range' a d).countP (fun i => bit h i == 0) : Nat)
def freeV (r c h : Int) : Int := if boardV r c h = true then freeN h 0 (r * c).toNat else -1
theorem freeN_succ (h : Int) (a d : Nat) : freeN h a (d + 1) = (if bit h a = 0 then 1 else 0) + freeN h (a + 1) d := by
  unfold freeN
  rw [List.range'_succ, List.countP_cons]
  by_cases h1 : bit h a = 0
  · simp [h1]; omega
  · simp [h1]
theorem freeN_le (h : Int) (a d : Nat) : 0 ≤ freeN h a d ∧ freeN h a d ≤ d := by
  unfold freeN
  have := List.countP_le_length (p := fun i => bit h i == 0) (l := List.range' a d)
  rw [List.length_range'] at this
  omega
theorem free_pop (x n : Nat) (hn : n ≤ 24) (hx : x < 2 ^ n) : freeN x 0 n = n - pop x := by
  have e : (List.range' 0 n).countP (fun i => bit (x : Int) i == 0) = (List.range n).countP (fun i => !x.testBit i) := by
    rw [← List.range_eq_range']
    apply List.countP_congr
    intro i _
    rw [bit_nat]
    cases x.testBit i <;> simp
  have e2 : pop x = (List.range n).countP (fun i => x.testBit i) := by
    unfold pop
    have hr : List.range 24 = List.range n ++ (List.range (24 - n)).map (n + ·) := by
      rw [← List.range_add, show n + (24 - n) = 24 by omega]
    rw [hr, List.countP_append, List.countP_map]
    have : (List.range (24 - n)).countP ((fun i => x.testBit i) ∘ (n + ·)) = 0 := by
      rw [List.countP_eq_zero]
      intro i _
      simp only [Function.comp]
      rw [Nat.testBit_lt_two_pow (Nat.lt_of_lt_of_le hx (Nat.pow_le_pow_right (by omega) (by omega)))]
      simp
    omega
  have h3 := List.length_eq_countP_add_countP (fun i => x.testBit i) (l := List.range n)
  rw [List.length_range] at h3
  unfold freeN
  rw [e, e2]
  have h4 : (List.range n).countP (fun i => !x.testBit i) = (List.range n).countP (fun a => decide ¬x.testBit a = true) := by
    apply List.countP_congr
    intro i _
    simp
  omega
theorem boardV_ok2 {r c h : Int} (hv : boardV r c h = true) : 1 ≤ r ∧ 1 ≤ c ∧ r ≤ 24 ∧ c ≤ 24 ∧ 1 ≤ r * c ∧ r * c ≤ 24 ∧ 0 ≤ h ∧ h < 2 ^ (r * c).toNat ∧ h < 16777216 ∧ wrap64 (r * c) = r * c := by
  unfold boardV at hv
  rw [decide_eq_true_eq] at hv
  obtain ⟨h1, h2, h3, h4, h5, h6, h7⟩ := hv
  have hm := mul_bd (r := r) (c := c) (by omega) (by omega) (by omega) (by omega)
  have hs := shl1 (r * c) (by omega) (by omega)
  exact ⟨h1, h2, h3, h4, hm.1, h5, h6, h7, by omega, hm.2.2⟩
theorem spec_free_l (r c h : Int) (n : Nat) (hn : wrap64 (r * c) = n) (hn2 : n ≤ 24) (hh : 0 ≤ h) : ∀ (d i : Nat) (e : Int), n = i + d → 0 ≤ e → e + d ≤ 1000 →
    Ev (fun k => spec_BoardFree.l0 k e i r c h) (e + freeN h i d) := by
  intro d
  induction d with
  | zero =>
    intro i e hi _ _
    refine Ev.step (fun k => by rw [spec_BoardFree.l0]) ?_
    rw [hn]
    exact Ev.ifn (by omega) (Ev.eq (Ev.now _) (by simp [freeN]))
  | succ d ih =>
    intro i e hi h1 h2
    have hw : wrap64 ((i : Int) + 1) = ((i + 1 : Nat) : Int) := by rw [w64 (by omega) (by omega)]; omega
    refine Ev.step (fun k => by rw [spec_BoardFree.l0]) ?_
    rw [hn, hw, shr_bit hh i (by omega), w64 (x := e + 1) (by omega) (by omega), freeN_succ]
    refine Ev.ifp (by omega) (Ev.ifp (by omega) ?_)
    rcases bit_01 h i with hb | hb <;> rw [hb]
    · exact Ev.ifp rfl (Ev.eq (ih (i + 1) (e + 1) (by omega) (by omega) (by omega)) (by simp; omega))
    · exact Ev.ifn (by omega) (Ev.eq (ih (i + 1) e (by omega) (by omega) (by omega)) (by simp))
theorem spec_free (r c h : Int) : Ev (fun k => spec_BoardFree.f k r c h) (freeV r c h) := by
  unfold spec_BoardFree.f freeV
  refine Ev.bindc (spec_board r c h) ?_
  by_cases hv : boardV r c h = true
  · obtain ⟨h1, h2, h3, h4, h5, h6, h7, h8, h9, h10⟩ := boardV_ok2 hv
    refine Ev.ifp hv (Ev.eq (spec_free_l r c h (r * c).toNat (by rw [h10]; omega) (by omega) h7 (r * c).toNat 0 0 (by omega) (by omega) (by omega)) ?_)
    rw [if_pos hv]; simp
  · exact Ev.ifn hv (Ev.eq (Ev.now _) (by rw [if_neg hv]))
theorem impl_free (r c h : Int) : impl_BoardFree.f r c h = some (freeV r c h) := by
  unfold impl_BoardFree.f freeV
  rw [impl_board]
  simp only [Option.bind_some]
  by_cases hv : boardV r c h = true
  · obtain ⟨h1, h2, h3, h4, h5, h6, h7, h8, h9, h10⟩ := boardV_ok2 hv
    obtain ⟨x, rfl⟩ := Int.eq_ofNat_of_zero_le h7
    have hx : x < 2 ^ (r * c).toNat := by exact_mod_cast h8
    have hf := free_pop x (r * c).toNat (by omega) hx
    have hl := freeN_le x 0 (r * c).toNat
    rw [if_pos hv, if_pos hv, ones_pop x (by omega)]
    simp only [Option.bind_some]
    rw [h10, w64 (by omega) (by omega), hf]
    congr 1
    omega
  · rw [if_neg hv, if_neg hv]
/-! The reader of draws: only that each number drawn lies in its range. -/
structure Byts (b : List Int) : Prop where
  len : b.length ≤ 2000
  val : ∀ x ∈ b, 0 ≤ x ∧ x ≤ 255
theorem xor_nn {a b : Int} (ha : 0 ≤ a) (ha1 : a < 4611686018427387904) (hb : 0 ≤ b) (hb1 : b < 4611686018427387904) : 0 ≤ Go.bits .xor .i64 a b := by
  obtain ⟨m, rfl⟩ := Int.eq_ofNat_of_zero_le ha
  obtain ⟨n, rfl⟩ := Int.eq_ofNat_of_zero_le hb
  have h : (m ^^^ n) < 2 ^ 62 := Nat.xor_lt_two_pow (by omega) (by omega)
  have hm : m % 2 ^ IntKind.i64.bits = m := Nat.mod_eq_of_lt (show m < 2 ^ 64 by omega)
  have hn : n % 2 ^ IntKind.i64.bits = n := Nat.mod_eq_of_lt (show n < 2 ^ 64 by omega)
  simp only [Go.bits, BitVec.ofInt_natCast, BitVec.toNat_xor, BitVec.toNat_ofNat, hm, hn]
  rw [IntKind.wrap_i64]
  omega
theorem open_ok (l : List Int) (h : l.length ≤ maxLen) (hb : ∀ x ∈ l, (Lit.int .u8 x).wf = true) : ∃ b, spec_l20Open.f l = some (b, 0) ∧ Byts b := by
  unfold spec_l20Open.f
  by_cases c : (l.length : Int) > 2000
  · rw [if_pos c, if_pos (by omega)]
    exact ⟨_, rfl, by rw [List.length_take]; omega, fun x hx => wf_u8 (hb x (List.mem_of_mem_take hx))⟩
  · rw [if_neg c]
    exact ⟨_, rfl, by omega, fun x hx => wf_u8 (hb x hx)⟩
theorem pick_any {b : List Int} (hb : Byts b) {p : Int} (hp : 0 ≤ p) (hp1 : p ≤ 1000000) (n : Int) (hn1 : n ≤ 9223372036854775807) :
    ∃ r, Ev (fun k => spec_l20Rd_pick.f k b p n) (r, p + 1) ∧ 0 ≤ r ∧ (1 ≤ n → r < n) ∧ (n < 1 → r = 0) := by
  have hw : wrap64 (p + 1) = p + 1 := w64 (by omega) (by omega)
  have hw2 : wrap64 (p + 1 - 1) = p := by rw [w64 (by omega) (by omega)]; omega
  have hl := hb.len
  unfold spec_l20Rd_pick.f
  by_cases c : n < 1
  · refine ⟨0, Ev.ifp c (Ev.step (f := fun _ => some (0, p + 1)) (fun k => ?_) (Ev.now _)), by omega, by omega, fun _ => rfl⟩
    rw [spec_l20Rd_pick.j0]; rw [if_pos rfl, hw]
  · by_cases c0 : b.length = 0
    · refine ⟨0, Ev.ifn c (Ev.step (f := fun _ => some (0, p + 1)) (fun k => ?_) (Ev.now _)), by omega, by omega, fun _ => rfl⟩
      rw [spec_l20Rd_pick.j0]
      rw [c0, if_pos (by decide), hw]
    · have c0' : ((b.length : Int) == 0) = false := by simp; intro h; simp [h] at c0
      by_cases c1 : p < (b.length : Int)
      · have hm := hb.val _ (rd_mem b p hp c1)
        refine ⟨Int.tmod (rd b p) n, Ev.ifn c (Ev.step (f := fun _ => some (Int.tmod (rd b p) n, p + 1)) (fun k => ?_) (Ev.now _)), Int.tmod_nonneg _ hm.1, fun h => Int.tmod_lt_of_pos _ (by omega), fun h => absurd h c⟩
        rw [spec_l20Rd_pick.j0]
        rw [c0', if_neg (by decide), hw, hw2, if_pos c1, if_pos hp, if_neg (by omega), w64 (by omega) (by omega)]
      · have hL : (0 : Int) < (b.length : Int) := by omega
        have e1 := Int.tmod_nonneg (b.length : Int) hp
        have e2 := Int.tmod_lt_of_pos p hL
        have k7 : wrap64 (p * 7) = p * 7 := w64 (by omega) (by omega)
        have k73 : wrap64 (p * 7 + 3) = p * 7 + 3 := w64 (by omega) (by omega)
        have e3 := Int.tmod_nonneg (b.length : Int) (show 0 ≤ p * 7 + 3 by omega)
        have e4 := Int.tmod_lt_of_pos (p * 7 + 3) hL
        have m1 := hb.val _ (rd_mem b _ e1 e2)
        have m2 := hb.val _ (rd_mem b _ e3 e4)
        have d0 : Int.tdiv p (b.length : Int) = p / (b.length : Int) := Int.tdiv_eq_ediv_of_nonneg hp
        have d1 : 0 ≤ p / (b.length : Int) := Int.ediv_nonneg hp (by omega)
        have d2 : p / (b.length : Int) ≤ p := Int.ediv_le_self _ hp
        generalize hx1 : rd b (Int.tmod p (b.length : Int)) = x1 at m1
        generalize hx2 : rd b (Int.tmod (p * 7 + 3) (b.length : Int)) = x2 at m2
        generalize hq : p / (b.length : Int) = q at d0 d1 d2
        have hX : 0 ≤ Go.bits .xor .i64 (x1 * 131 + x2 * 1117 + p * 29 + q * 53) ((x1 * 131 + x2 * 1117 + p * 29 + q * 53) / 64) := xor_nn (by omega) (by omega) (by omega) (by omega)
        generalize hR : Go.bits .xor .i64 (x1 * 131 + x2 * 1117 + p * 29 + q * 53) ((x1 * 131 + x2 * 1117 + p * 29 + q * 53) / 64) = X at hX
        refine ⟨Int.tmod X n, Ev.ifn c (Ev.step (f := fun _ => some (Int.tmod X n, p + 1)) (fun k => ?_) (Ev.now _)), Int.tmod_nonneg _ hX, fun h => Int.tmod_lt_of_pos _ (by omega), fun h => absurd h c⟩
        rw [spec_l20Rd_pick.j0]
        rw [c0', if_neg (by decide), hw, hw2, if_neg c1, if_neg (by omega), k7, k73, if_pos e1, if_pos e2, if_pos e3, if_pos e4, if_neg (by omega), hx1, hx2, d0]
        rw [w64 (x := x1) (by omega) (by omega), w64 (x := x2) (by omega) (by omega), w64 (x := q) (by omega) (by omega), w64 (x := x1 * 131) (by omega) (by omega), w64 (x := x2 * 1117) (by omega) (by omega), w64 (x := p * 29) (by omega) (by omega), w64 (x := q * 53) (by omega) (by omega)]
        rw [w64 (x := x1 * 131 + x2 * 1117) (by omega) (by omega), w64 (x := x1 * 131 + x2 * 1117 + p * 29) (by omega) (by omega), w64 (x := x1 * 131 + x2 * 1117 + p * 29 + q * 53) (by omega) (by omega)]
        rw [Int.tdiv_eq_ediv_of_nonneg (by omega), w64 (by omega) (by omega), hR]
theorem odd_any {b : List Int} (hb : Byts b) {p : Int} (hp : 0 ≤ p) (hp1 : p ≤ 1000000) (n : Int) (hn1 : n ≤ 9223372036854775807) :
    ∃ r q, Ev (fun k => spec_l20Rd_odd.f k b p n) (r, q) ∧ p ≤ q ∧ q ≤ p + 1 := by
  unfold spec_l20Rd_odd.f
  by_cases c : n > 0
  · obtain ⟨r, e, _⟩ := pick_any hb hp hp1 n hn1
    exact ⟨_, _, Ev.ifp c (Ev.bind e (Ev.now _)), by omega, by omega⟩
  · exact ⟨_, _, Ev.ifn c (Ev.now _), by omega, by omega⟩
theorem drawBoard_l {b : List Int} (hb : Byts b) (n : Int) (hn : n ≤ 1000) (r c : Int) (hr : 1 ≤ r ∧ r ≤ 4) (hc : 1 ≤ c ∧ c ≤ 6) : ∀ (d : Nat) (h p : Int), 0 ≤ p → p ≤ 500 - d →
    ∃ q, Ev (fun k => spec_l20Board.l0 k n d b p r c h) q := by
  have hm := mul_bd (r := r) (c := c) (by omega) (by omega) (by omega) (by omega)
  have hm1 : r * c ≤ 4 * 6 := Int.mul_le_mul hr.2 hc.2 (by omega) (by omega)
  intro d
  induction d with
  | zero =>
    intro h p hp hp1
    obtain ⟨o, p1, eo, ho1, ho2⟩ := odd_any hb hp (by omega) n (by omega)
    suffices H : ∃ q, Ev (fun k => if o = true then ((spec_l20Rd_pick.f k b p1 3).bind fun bt134 => (if bt134.1 = 0 then ((some (([0, 25, 7] : List Int) : List Int)).bind fun y136 => ((spec_l20Rd_pick.f k b bt134.2 3).bind fun bt139 => (if 0 ≤ bt139.1 then (if bt139.1 < (y136.length : Int) then (some (rd y136 bt139.1, c, h, bt139.2)) else (none)) else (none)))) else (if bt134.1 = 1 then ((some (([0, 25] : List Int) : List Int)).bind fun y142 => ((spec_l20Rd_pick.f k b bt134.2 2).bind fun bt145 => (if 0 ≤ bt145.1 then (if bt145.1 < (y142.length : Int) then (some (r, rd y142 bt145.1, h, bt145.2)) else (none)) else (none)))) else (if 0 ≤ (wrap64 (r * c)) then ((some (([(-1), shl .i64 1 (wrap64 (r * c))] : List Int) : List Int)).bind fun y148 => ((spec_l20Rd_pick.f k b bt134.2 2).bind fun bt151 => (if 0 ≤ bt151.1 then (if bt151.1 < (y148.length : Int) then (some (r, c, rd y148 bt151.1, bt151.2)) else (none)) else (none)))) else (none))))) else (some (r, c, h, p1))) q by
      obtain ⟨q, e⟩ := H
      refine ⟨q, Ev.step (fun k => by rw [spec_l20Board.l0]) ?_⟩
      exact Ev.ifn (by omega) (Ev.bind eo e)
    cases o with
    | false => exact ⟨_, Ev.ifn (by decide) (Ev.now _)⟩
    | true =>
      obtain ⟨r1, e1, h1, h1', _⟩ := pick_any hb (p := p1) (by omega) (by omega) 3 (by omega)
      by_cases c1 : r1 = 0
      · obtain ⟨r2, e2, h2, h2', _⟩ := pick_any hb (p := p1 + 1) (by omega) (by omega) 3 (by omega)
        exact ⟨_, Ev.ifp rfl (Ev.bind e1 (Ev.ifp c1 (Ev.bindc rfl (Ev.bind e2 (Ev.ifp h2 (Ev.ifp (by simp; omega) (Ev.now _)))))))⟩
      · obtain ⟨r2, e2, h2, h2', _⟩ := pick_any hb (p := p1 + 1) (by omega) (by omega) 2 (by omega)
        by_cases c2 : r1 = 1
        · exact ⟨_, Ev.ifp rfl (Ev.bind e1 (Ev.ifn c1 (Ev.ifp c2 (Ev.bindc rfl (Ev.bind e2 (Ev.ifp h2 (Ev.ifp (by simp; omega) (Ev.now _))))))))⟩
        · exact ⟨_, Ev.ifp rfl (Ev.bind e1 (Ev.ifn c1 (Ev.ifn c2 (Ev.ifp (by omega) (Ev.bindc rfl (Ev.bind e2 (Ev.ifp h2 (Ev.ifp (by simp; omega) (Ev.now _)))))))))⟩
  | succ d ih =>
    intro h p hp hp1
    have hw : wrap64 (((d + 1 : Nat) : Int) - 1) = (d : Int) := by rw [w64 (by omega) (by omega)]; omega
    obtain ⟨r1, e1, h1, h1', _⟩ := pick_any hb (p := p) (by omega) (by omega) (wrap64 (r * c)) (by omega)
    obtain ⟨q, e⟩ := ih (Go.bits .or .i64 h (shl .i64 1 r1)) (p + 1) (by omega) (by omega)
    refine ⟨q, Ev.step (fun k => by rw [spec_l20Board.l0]) ?_⟩
    refine Ev.ifp (by omega) (Ev.bind e1 (Ev.ifp h1 ?_))
    rw [hw]; exact e
theorem drawBoard {b : List Int} (hb : Byts b) (n : Int) (hn : n ≤ 1000) : ∃ q, Ev (fun k => spec_l20Board.f k b 0 n) q := by
  obtain ⟨r1, e1, h1, h1', _⟩ := pick_any hb (p := 0) (by omega) (by omega) 4 (by omega)
  obtain ⟨r2, e2, h2, h2', _⟩ := pick_any hb (p := 0 + 1) (by omega) (by omega) 6 (by omega)
  obtain ⟨r3, e3, h3, h3', _⟩ := pick_any hb (p := 0 + 1 + 1) (by omega) (by omega) 5 (by omega)
  have a1 := h1' (by omega)
  have a2 := h2' (by omega)
  have a3 := h3' (by omega)
  obtain ⟨q, e⟩ := drawBoard_l hb n hn (1 + r1) (1 + r2) (by omega) (by omega) r3.toNat 0 (0 + 1 + 1 + 1) (by omega) (by omega)
  refine ⟨q, ?_⟩
  unfold spec_l20Board.f
  refine Ev.bind e1 (Ev.bind e2 (Ev.bind e3 ?_))
  rw [w64 (x := 1 + r1) (by omega) (by omega), w64 (x := 1 + r2) (by omega) (by omega)]
  rw [show ((r3.toNat : Nat) : Int) = r3 by omega] at e
  exact e
theorem alive_ev : Ev (fun k => laws_alive.f k) true := Ev.of (fun k => laws_alive.mono k) (k := 20) (by decide +kernel)
theorem cnt_sum (c h : Int) : ∀ (d a : Nat), cnt c h 0 a d + cnt c h 1 a d = freeN h a d := by
  intro d
  induction d with
  | zero => intro a; simp [cnt, freeN]
  | succ d ih =>
    intro a
    have := ih (a + 1)
    rw [cnt_succ, cnt_succ, freeN_succ]
    rcases par_01 c a with hp | hp <;> by_cases hb : bit h a = 0 <;> simp [hp, hb] <;> omega
theorem free_zero : ∀ (d a : Nat), freeN 0 a d = d := by
  intro d
  induction d with
  | zero => intro a; simp [freeN]
  | succ d ih =>
    intro a
    rw [freeN_succ, ih, if_pos (by simp [bit])]
    omega
theorem FnBoardFree : laws_FnBoardFree.Pure := by
  intro l h _ hb
  apply Ev.rounds
  unfold laws_FnBoardFree.f
  by_cases c0 : (l.length : Int) > 1048576
  · exact Ev.ifp c0 (Ev.now _)
  refine Ev.ifn c0 ?_
  obtain ⟨b, e, hB⟩ := open_ok l h hb
  obtain ⟨⟨r, c, m, p⟩, e1⟩ := drawBoard hB 9 (by omega)
  refine Ev.bind (a := (r, c, m)) (by unfold spec_DrawBoardFree.f; exact Ev.bindc e (Ev.bind e1 (Ev.now _))) ?_
  refine Ev.bindc (impl_free r c m) (Ev.bind (spec_free r c m) (Ev.ifp rfl ?_))
  by_cases hv : boardV r c m = true
  · obtain ⟨h1, h2, h3, h4, h5, h6, h7, h8, h9, h10⟩ := boardV_ok hv
    have hl := freeN_le m 0 (r * c).toNat
    have hs := cnt_sum c m (r * c).toNat 0
    have e9 : freeV r c m = freeN m 0 (r * c).toNat := by unfold freeV; rw [if_pos hv]
    have hv0 : boardV r c 0 = true := by
      unfold boardV
      rw [decide_eq_true_eq]
      have hs := shl1 (r * c) (by omega) (by omega)
      exact ⟨h1, h2, h3, h4, h6, by omega, by omega⟩
    have e0 : freeV r c 0 = r * c := by unfold freeV; rw [if_pos hv0, free_zero]; omega
    have ec : coloursV r c m = (cnt c m 0 0 (r * c).toNat, cnt c m 1 0 (r * c).toNat) := by unfold coloursV; rw [if_pos hv]
    rw [e9]
    refine Ev.ifn (by omega) (Ev.bind (impl_colours r c m) ?_)
    rw [ec]
    refine Ev.ifp (by show wrap64 (cnt c m 0 0 (r * c).toNat + cnt c m 1 0 (r * c).toNat) = _; rw [hs, w64 (by omega) (by omega)]) (Ev.bindc (a := r * c) (by show impl_BoardFree.f r c 0 = _; rw [impl_free, e0]) (Ev.eq (Ev.now _) ?_))
    show (r * c == wrap64 (r * c)) = true
    rw [h10]; simp
  · have e9 : freeV r c m = -1 := by unfold freeV; rw [if_neg hv]
    rw [e9]
    exact Ev.ifp (by omega) (Ev.ifp rfl (Ev.bind alive_ev (Ev.now _)))

end Go.Proofs.Ytbdkmkbkggnekaa.Pure
