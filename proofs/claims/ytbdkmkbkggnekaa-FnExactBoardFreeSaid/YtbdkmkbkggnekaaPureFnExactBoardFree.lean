/- For every board BoardFree of the program answers what BoardFree of the reference answers. No conditions beyond the fields being ints. -/
import Derived.Test.YtbdkmkbkggnekaaPFnExactBoardFreex1
namespace Go.Proofs.Ytbdkmkbkggnekaa.Pure
open Go.RowKit Go.Proofs.Ytbdkmkbkggnekaa.PFnExactBoardFree Go.Proofs.YtbdkmkbkggnekaaW.PrintWords Go.Proofs.YtbdkmkbkggnekaaW.PrintLast Go.Proofs.YtbdkmkbkggnekaaW.PrintMore
set_option linter.unusedVariables false
set_option linter.unusedSimpArgs false
/-! Ev: small steps. -/
theorem _root_.Go.Proofs.YtbdkmkbkggnekaaW.PrintWords.Ev.ifp {α : Type} {c : Prop} [Decidable c] {g f : Nat → Option α} {r : α} (hc : c) (h : Ev g r) : Ev (fun k => if c then g k else f k) r :=
  Ev.congr (fun _ => if_pos hc) h
theorem _root_.Go.Proofs.YtbdkmkbkggnekaaW.PrintWords.Ev.ifn {α : Type} {c : Prop} [Decidable c] {g f : Nat → Option α} {r : α} (hc : ¬ c) (h : Ev f r) : Ev (fun k => if c then g k else f k) r :=
  Ev.congr (fun _ => if_neg hc) h
theorem _root_.Go.Proofs.YtbdkmkbkggnekaaW.PrintWords.Ev.bindc {α β : Type} {o : Option α} {f : Nat → α → Option β} {a : α} {r : β} (h : o = some a) (k : Ev (fun n => f n a) r) : Ev (fun n => o.bind (f n)) r := by
  subst h; exact k
theorem _root_.Go.Proofs.YtbdkmkbkggnekaaW.PrintWords.Ev.eq {α : Type} {g : Nat → Option α} {r r' : α} (h : Ev g r) (e : r = r') : Ev g r' := e ▸ h
theorem _root_.Go.Proofs.YtbdkmkbkggnekaaW.PrintWords.Ev.cst {α : Type} {o : Option α} {r : α} (h : o = some r) : Ev (fun _ => o) r := ⟨0, fun _ _ => h⟩
theorem w64 {x : Int} (h0 : -9223372036854775808 ≤ x) (h1 : x ≤ 9223372036854775807) : wrap64 x = x := by unfold wrap64; omega
theorem wf_i64 {x : Int} (h : (Lit.int .i64 x).wf = true) : -9223372036854775808 ≤ x ∧ x ≤ 9223372036854775807 := by
  have h2 : (decide (IntKind.i64.min ≤ x) && decide (x ≤ IntKind.i64.max)) = true := h
  simp [IntKind.min, IntKind.max, IntKind.bits, IntKind.signed] at h2
  exact h2
theorem wf_u8 {x : Int} (h : (Lit.int .u8 x).wf = true) : 0 ≤ x ∧ x ≤ 255 := by
  have h2 : (decide (IntKind.u8.min ≤ x) && decide (x ≤ IntKind.u8.max)) = true := h
  simp [IntKind.min, IntKind.max, IntKind.bits, IntKind.signed] at h2
  omega
theorem rd_nat (xs : List Int) (i : Nat) (h : i < xs.length) : rd xs (i : Int) = xs[i] := by
  simp [rd, List.getD_eq_getElem?_getD, h]
theorem rd_mem (xs : List Int) (i : Int) (h0 : 0 ≤ i) (h : i < xs.length) : rd xs i ∈ xs := by
  obtain ⟨n, rfl⟩ := Int.eq_ofNat_of_zero_le h0
  rw [rd_nat xs n (by omega)]; exact List.getElem_mem _
theorem l1In_f (a b c : Int) : spec_l1In.f a b c = some (decide (b ≤ a ∧ a ≤ c)) := by
  unfold spec_l1In.f
  by_cases h : a ≥ b
  · rw [if_pos h]; simp; omega
  · rw [if_neg h]; simp; omega
/-! Binary digits. -/
def bit (m : Int) (d : Nat) : Int := m / 2 ^ d % 2
theorem bit_01 (m : Int) (d : Nat) : bit m d = 0 ∨ bit m d = 1 := by unfold bit; omega
theorem shr_bit {m : Int} (h0 : 0 ≤ m) (d : Nat) (hd : d ≤ 64) : Int.tmod (shr .i64 m (d : Int)) 2 = bit m d := by
  have e : shr .i64 m (d : Int) = m / 2 ^ d := by
    unfold shr
    rw [show min (d : Int).toNat IntKind.i64.bits = d from by simp [IntKind.bits]; omega]
  rw [e, Int.tmod_eq_emod_of_nonneg (Int.ediv_nonneg h0 (Int.pow_nonneg (by decide)))]
  rfl
theorem shr_nat (m : Int) (d : Nat) (hd : d ≤ 64) : shr .i64 m (d : Int) = m / 2 ^ d := by
  unfold shr
  rw [show min (d : Int).toNat IntKind.i64.bits = d from by simp [IntKind.bits]; omega]
theorem and1_bit {x : Int} (h0 : 0 ≤ x) (h1 : x < 4611686018427387904) : Go.bits .and .i64 x 1 = x % 2 := by
  have := bits_mask .i64 62 (by decide) (fun n h h' => by rw [IntKind.wrap_i64]; omega) 1 (by decide) x h0 h1
  simpa using this
theorem bit_nat (a d : Nat) : bit (a : Int) d = if a.testBit d then 1 else 0 := by
  unfold bit
  rw [Nat.testBit_eq_decide_div_mod_eq]
  have e : ((a : Int) / 2 ^ d % 2) = ((a / 2 ^ d % 2 : Nat) : Int) := by push_cast; rfl
  rw [e]
  by_cases h : a / 2 ^ d % 2 = 1
  · simp [h]
  · have : a / 2 ^ d % 2 = 0 := by omega
    simp [this]
/-- What BoardValid answers. -/
def boardV (r c h : Int) : Bool := decide (1 ≤ r ∧ 1 ≤ c ∧ r ≤ 24 ∧ c ≤ 24 ∧ r * c ≤ 24 ∧ 0 ≤ h ∧ h < 2 ^ (r * c).toNat)
theorem mul_bd {r c : Int} (h1 : 1 ≤ r) (h2 : r ≤ 24) (h3 : 1 ≤ c) (h4 : c ≤ 24) : 1 ≤ r * c ∧ r * c ≤ 576 ∧ wrap64 (r * c) = r * c := by
  have a : 0 < r * c := Int.mul_pos (by omega) (by omega)
  have b : r * c ≤ 24 * 24 := Int.mul_le_mul h2 h4 (by omega) (by omega)
  exact ⟨by omega, by omega, w64 (by omega) (by omega)⟩
theorem shl1_all : ∀ n ∈ List.range 25, shl .i64 1 (n : Int) = 2 ^ n ∧ 1 ≤ (2 : Int) ^ n ∧ (2 : Int) ^ n ≤ 16777216 := by decide +kernel
theorem shl1 (n : Int) (h0 : 0 ≤ n) (h1 : n ≤ 24) : shl .i64 1 n = 2 ^ n.toNat ∧ 1 ≤ (2 : Int) ^ n.toNat ∧ (2 : Int) ^ n.toNat ≤ 16777216 := by
  have := shl1_all n.toNat (List.mem_range.2 (by omega))
  rw [show ((n.toNat : Nat) : Int) = n by omega] at this
  exact this
theorem impl_board (r c h : Int) : impl_BoardValid.f r c h = some (boardV r c h) := by
  unfold impl_BoardValid.f boardV
  by_cases c1 : r < 1
  · rw [if_pos c1]; simp; omega
  rw [if_neg c1]
  by_cases c2 : c < 1
  · rw [if_pos c2]; simp; omega
  rw [if_neg c2]
  by_cases c3 : r > 24
  · rw [if_pos c3]; simp; omega
  rw [if_neg c3]
  by_cases c4 : c > 24
  · rw [if_pos c4]; simp; omega
  rw [if_neg c4]
  have hm := mul_bd (r := r) (c := c) (by omega) (by omega) (by omega) (by omega)
  rw [hm.2.2]
  generalize r * c = n at hm
  by_cases c5 : n > 24
  · rw [if_pos c5]; simp; omega
  rw [if_neg c5]
  have hs := shl1 n (by omega) (by omega)
  by_cases c6 : h ≥ 0
  · rw [if_pos c6, if_pos (by omega), hs.1]; simp only [Option.some.injEq, decide_eq_decide]; omega
  · rw [if_neg c6]; simp; omega
theorem spec_board (r c h : Int) : spec_BoardValid.f r c h = some (boardV r c h) := by
  unfold spec_BoardValid.f boardV
  rw [l1In_f, l1In_f]
  simp only [Option.bind_some]
  by_cases c1 : 1 ≤ r ∧ r ≤ 24
  · rw [if_pos (by simpa using c1)]
    by_cases c2 : 1 ≤ c ∧ c ≤ 24
    · rw [if_pos (by simpa using c2)]
      have hm := mul_bd (r := r) (c := c) (by omega) (by omega) (by omega) (by omega)
      rw [hm.2.2]
      generalize r * c = n at hm
      by_cases c5 : n ≤ 24
      · have hs := shl1 n (by omega) (by omega)
        rw [if_pos c5, if_pos (by omega), hs.1, l1In_f, w64 (by omega) (by omega)]
        simp only [Option.bind_some, Option.some.injEq, decide_eq_decide]; omega
      · rw [if_neg c5]; simp; omega
    · rw [if_neg (by simpa using c2)]; simp; omega
  · rw [if_neg (by simpa using c1)]; simp; omega
/-! OnesCount of numbers below 2^24. -/
theorem and256 (a y m M : Nat) (ha : a < 256) (hm : m < 256) : (a + 256 * y) &&& (m + 256 * M) = (a &&& m) + 256 * (y &&& M) := by
  have e1 : a + 256 * y = 2 ^ 8 * y + a := by omega
  have e2 : m + 256 * M = 2 ^ 8 * M + m := by omega
  have e3 : (a &&& m) + 256 * (y &&& M) = 2 ^ 8 * (y &&& M) + (a &&& m) := by omega
  rw [e1, e2, e3]
  apply Nat.eq_of_testBit_eq
  intro i
  rw [Nat.testBit_and, Nat.testBit_two_pow_mul_add y ha, Nat.testBit_two_pow_mul_add M hm, Nat.testBit_two_pow_mul_add (y &&& M) (Nat.lt_of_le_of_lt Nat.and_le_left ha)]
  by_cases h : i < 8 <;> simp [h, Nat.testBit_and]
def A1 (a : Nat) : Nat := (a / 2 &&& 85) + (a &&& 85)
def A2 (a : Nat) : Nat := (A1 a / 4 &&& 51) + (A1 a &&& 51)
def A3 (a : Nat) : Nat := A2 a / 16 + A2 a % 16
def P8 (a : Nat) : Nat := (List.range 8).countP (fun i => a.testBit i)
theorem byte_all : ∀ a ∈ List.range 256, A1 a ≤ 170 ∧ A2 a ≤ 68 ∧ A2 a % 16 ≤ 4 ∧ A2 a / 16 ≤ 4 ∧ A3 a = P8 a ∧ P8 a ≤ 8 := by decide +kernel
theorem sh1_all : ∀ a ∈ List.range 256, ∀ q ∈ List.range 2, (a / 2 + 128 * q) &&& 85 = a / 2 &&& 85 := by decide +kernel
theorem sh2_all : ∀ a ∈ List.range 256, ∀ q ∈ List.range 4, (a / 4 + 64 * q) &&& 51 = a / 4 &&& 51 := by decide +kernel
theorem sh3_all : ∀ a ∈ List.range 256, a &&& 15 = a % 16 := by decide +kernel
theorem byte_ok {a : Nat} (h : a < 256) : A1 a ≤ 170 ∧ A2 a ≤ 68 ∧ A2 a % 16 ≤ 4 ∧ A2 a / 16 ≤ 4 ∧ A3 a = P8 a ∧ P8 a ≤ 8 := byte_all a (List.mem_range.2 h)
theorem L1_n (a b c : Nat) (ha : a < 256) (hb : b < 256) (hc : c < 256) :
    ((a + 256 * (b + 256 * c)) / 2 &&& 6148914691236517205) + ((a + 256 * (b + 256 * c)) &&& 6148914691236517205) = A1 a + 256 * (A1 b + 256 * A1 c) := by
  have e : (a + 256 * (b + 256 * c)) / 2 = (a / 2 + 128 * (b % 2)) + 256 * ((b / 2 + 128 * (c % 2)) + 256 * (c / 2 + 256 * 0)) := by omega
  have e0 : a + 256 * (b + 256 * c) = a + 256 * (b + 256 * (c + 256 * 0)) := by omega
  have em : 6148914691236517205 = 85 + 256 * (85 + 256 * (85 + 256 * 366503875925)) := by decide
  rw [e, e0, em, and256 _ _ _ _ (by omega) (by omega), and256 _ _ _ _ (by omega) (by omega), and256 _ _ _ _ (by omega) (by omega), and256 _ _ _ _ (by omega) (by omega), and256 _ _ _ _ (by omega) (by omega), and256 _ _ _ _ (by omega) (by omega)]
  rw [sh1_all a (List.mem_range.2 ha) (b % 2) (List.mem_range.2 (by omega)), sh1_all b (List.mem_range.2 hb) (c % 2) (List.mem_range.2 (by omega)), Nat.zero_and]
  unfold A1
  omega
theorem L2_n (a b c : Nat) (ha : a < 256) (hb : b < 256) (hc : c < 256) :
    ((A1 a + 256 * (A1 b + 256 * A1 c)) / 4 &&& 3689348814741910323) + ((A1 a + 256 * (A1 b + 256 * A1 c)) &&& 3689348814741910323) = A2 a + 256 * (A2 b + 256 * A2 c) := by
  have ga := byte_ok ha
  have gb := byte_ok hb
  have gc := byte_ok hc
  unfold A2
  generalize A1 a = p at ga ⊢
  generalize A1 b = q at gb ⊢
  generalize A1 c = r at gc ⊢
  have e : (p + 256 * (q + 256 * r)) / 4 = (p / 4 + 64 * (q % 4)) + 256 * ((q / 4 + 64 * (r % 4)) + 256 * (r / 4 + 256 * 0)) := by omega
  have e0 : p + 256 * (q + 256 * r) = p + 256 * (q + 256 * (r + 256 * 0)) := by omega
  have em : 3689348814741910323 = 51 + 256 * (51 + 256 * (51 + 256 * 219902325555)) := by decide
  rw [e, e0, em, and256 _ _ _ _ (by omega) (by omega), and256 _ _ _ _ (by omega) (by omega), and256 _ _ _ _ (by omega) (by omega), and256 _ _ _ _ (by omega) (by omega), and256 _ _ _ _ (by omega) (by omega), and256 _ _ _ _ (by omega) (by omega)]
  rw [sh2_all p (List.mem_range.2 (by omega)) (q % 4) (List.mem_range.2 (by omega)), sh2_all q (List.mem_range.2 (by omega)) (r % 4) (List.mem_range.2 (by omega)), Nat.zero_and]
  omega
theorem nib (p w : Nat) (h : p / 16 + p % 16 ≤ 15) : (p / 16 + p + 16 * w) % 16 = p / 16 + p % 16 := by omega
theorem L3_n (a b c : Nat) (ha : a < 256) (hb : b < 256) (hc : c < 256) :
    ((A2 a + 256 * (A2 b + 256 * A2 c)) / 16 + (A2 a + 256 * (A2 b + 256 * A2 c))) &&& 1085102592571150095 = A3 a + 256 * (A3 b + 256 * A3 c) := by
  have ga := byte_ok ha
  have gb := byte_ok hb
  have gc := byte_ok hc
  unfold A3
  generalize A2 a = p at ga ⊢
  generalize A2 b = q at gb ⊢
  generalize A2 c = r at gc ⊢
  have e : (p + 256 * (q + 256 * r)) / 16 + (p + 256 * (q + 256 * r)) = (p / 16 + p + 16 * (q % 16)) + 256 * ((q / 16 + q + 16 * (r % 16)) + 256 * ((r / 16 + r) + 256 * 0)) := by omega
  have em : 1085102592571150095 = 15 + 256 * (15 + 256 * (15 + 256 * 64677154575)) := by decide
  rw [e, em, and256 _ _ _ _ (by omega) (by omega), and256 _ _ _ _ (by omega) (by omega), and256 _ _ _ _ (by omega) (by omega), Nat.zero_and]
  rw [sh3_all _ (List.mem_range.2 (by omega)), sh3_all _ (List.mem_range.2 (by omega)), sh3_all _ (List.mem_range.2 (by omega))]
  rw [nib p _ (by omega), nib q _ (by omega), show (r / 16 + r) % 16 = r / 16 + r % 16 from by have := nib r 0 (by omega); simpa using this, Nat.mul_zero, Nat.add_zero]
theorem and_u (a b : Nat) (ha : a < 9223372036854775808) (hb : b < 9223372036854775808) : Go.bits .and .u64 (a : Int) (b : Int) = ((a &&& b : Nat) : Int) :=
  (bits_nat .u64 63 (by decide) (fun n h h' => by simp [IntKind.wrap, IntKind.bits, IntKind.signed]; omega) a b (by omega) (by omega)).1
theorem u64w (n : Int) (h0 : 0 ≤ n) (h1 : n < 9223372036854775808) : IntKind.u64.wrap n = n := by
  simp [IntKind.wrap, IntKind.bits, IntKind.signed]; omega
theorem fin_n (p q r : Nat) (hp : p ≤ 8) (hq : q ≤ 8) (hr : r ≤ 8) : (((p + 256 * (q + 256 * r)) / 256 + (p + 256 * (q + 256 * r))) / 65536 + ((p + 256 * (q + 256 * r)) / 256 + (p + 256 * (q + 256 * r)))) % 128 = p + (q + r) := by
  have h1 : (p + 256 * (q + 256 * r)) / 256 = q + 256 * r := by omega
  rw [h1]
  have h2 : (q + 256 * r + (p + 256 * (q + 256 * r))) / 65536 = r := by omega
  rw [h2]
  omega
theorem tail_n (V p : Nat) (hV : V < 4294967296) (hM : V % 128 = p) : some (Go.bits .and .i64 (wrap64 (IntKind.u64.wrap ((V : Int) + (V : Int) / 4294967296))) 127) = some ((p : Nat) : Int) := by
  have t1 : IntKind.u64.wrap ((V : Int) + (V : Int) / 4294967296) = (V : Int) := by rw [u64w _ (by omega) (by omega)]; omega
  have t2 : wrap64 (V : Int) = V := w64 (by omega) (by omega)
  have v0 : (0 : Int) ≤ (V : Int) := by omega
  have v1 : (V : Int) < 4611686018427387904 := by omega
  have t3 : Go.bits .and .i64 (V : Int) 127 = (V : Int) % 128 := by
    have := bits_mask .i64 62 (by decide) (fun n h h' => by rw [IntKind.wrap_i64]; omega) 7 (by decide) (V : Int) v0 v1
    simpa using this
  rw [t1, t2, t3]
  congr 1
  omega
/-- The binary digits that are 1, below 2^24. -/
def pop (x : Nat) : Nat := (List.range 24).countP (fun i => x.testBit i)
theorem pop_bytes (a b c : Nat) (ha : a < 256) (hb : b < 256) (hc : c < 256) : pop (a + 256 * (b + 256 * c)) = P8 a + (P8 b + P8 c) := by
  have e1 : a + 256 * (b + 256 * c) = 2 ^ 8 * (b + 256 * c) + a := by omega
  have e2 : b + 256 * c = 2 ^ 8 * c + b := by omega
  have hr : List.range 24 = List.range 8 ++ ((List.range 8).map (· + 8) ++ (List.range 8).map (· + 16)) := by decide
  unfold pop P8
  rw [hr, List.countP_append, List.countP_append, List.countP_map, List.countP_map, e1]
  congr 1
  · apply List.countP_congr
    intro i hi
    rw [List.mem_range] at hi
    rw [Nat.testBit_two_pow_mul_add _ ha, if_pos hi]
  · congr 1
    · apply List.countP_congr
      intro i hi
      rw [List.mem_range] at hi
      simp only [Function.comp]
      rw [Nat.testBit_two_pow_mul_add _ ha, if_neg (by omega), e2, Nat.testBit_two_pow_mul_add _ hb, if_pos (by omega), show i + 8 - 8 = i by omega]
    · apply List.countP_congr
      intro i hi
      rw [List.mem_range] at hi
      simp only [Function.comp]
      rw [Nat.testBit_two_pow_mul_add _ ha, if_neg (by omega), e2, Nat.testBit_two_pow_mul_add _ hb, if_neg (by omega), show i + 16 - 8 - 8 = i by omega]
theorem ones_pop (x : Nat) (hx : x < 16777216) : bits_OnesCount.f (IntKind.u64.wrap (x : Int)) = some ((pop x : Nat) : Int) := by
  obtain ⟨a, b, c, ha, hb, hc, rfl⟩ : ∃ a b c, a < 256 ∧ b < 256 ∧ c < 256 ∧ x = a + 256 * (b + 256 * c) := ⟨x % 256, x / 256 % 256, x / 65536, by omega, by omega, by omega, by omega⟩
  have ga := byte_ok ha
  have gb := byte_ok hb
  have gc := byte_ok hc
  have l1 := L1_n a b c ha hb hc
  have l2 := L2_n a b c ha hb hc
  have l3 := L3_n a b c ha hb hc
  rw [pop_bytes a b c ha hb hc]
  generalize hX : a + 256 * (b + 256 * c) = X at l1 ⊢
  have hX2 : X < 16777216 := by omega
  generalize hY : A1 a + 256 * (A1 b + 256 * A1 c) = Y at l1 l2
  have hY2 : Y < 16777216 := by omega
  generalize hZ : A2 a + 256 * (A2 b + 256 * A2 c) = Z at l2 l3
  have hZ2 : Z < 16777216 := by omega
  generalize hU : A3 a + 256 * (A3 b + 256 * A3 c) = U at l3
  have hU2 : U < 16777216 := by omega
  have s0 : IntKind.u64.wrap (X : Int) = X := u64w _ (by omega) (by omega)
  have s1 : Go.bits .and .u64 ((X : Int) / 2) 6148914691236517205 = ((X / 2 &&& 6148914691236517205 : Nat) : Int) := by rw [← and_u _ _ (by omega) (by omega)]; congr 1
  have s2 : Go.bits .and .u64 (X : Int) 6148914691236517205 = ((X &&& 6148914691236517205 : Nat) : Int) := by rw [← and_u _ _ (by omega) (by omega)]; congr 1
  have s3 : IntKind.u64.wrap (((X / 2 &&& 6148914691236517205 : Nat) : Int) + ((X &&& 6148914691236517205 : Nat) : Int)) = (Y : Int) := by rw [u64w _ (by omega) (by omega)]; omega
  have s4 : Go.bits .and .u64 ((Y : Int) / 4) 3689348814741910323 = ((Y / 4 &&& 3689348814741910323 : Nat) : Int) := by rw [← and_u _ _ (by omega) (by omega)]; congr 1
  have s5 : Go.bits .and .u64 (Y : Int) 3689348814741910323 = ((Y &&& 3689348814741910323 : Nat) : Int) := by rw [← and_u _ _ (by omega) (by omega)]; congr 1
  have s6 : IntKind.u64.wrap (((Y / 4 &&& 3689348814741910323 : Nat) : Int) + ((Y &&& 3689348814741910323 : Nat) : Int)) = (Z : Int) := by rw [u64w _ (by omega) (by omega)]; omega
  have s7 : Go.bits .and .u64 (IntKind.u64.wrap ((Z : Int) / 16 + (Z : Int))) 1085102592571150095 = (U : Int) := by
    have := and_u (Z / 16 + Z) 1085102592571150095 (by omega) (by omega)
    rw [l3] at this
    rw [u64w _ (by omega) (by omega), ← this]; congr 1
  have s8 : IntKind.u64.wrap ((U : Int) + (U : Int) / 256) = ((U / 256 + U : Nat) : Int) := by rw [u64w _ (by omega) (by omega)]; omega
  have s9 : IntKind.u64.wrap (((U / 256 + U : Nat) : Int) + ((U / 256 + U : Nat) : Int) / 65536) = (((U / 256 + U) / 65536 + (U / 256 + U) : Nat) : Int) := by rw [u64w _ (by omega) (by omega)]; omega
  unfold bits_OnesCount.f bits_OnesCount64.f
  rw [s0]
  simp only [s1, s2, s3, s4, s5, s6, s7, s8, s9, Option.bind_some]
  have hV : (U / 256 + U) / 65536 + (U / 256 + U) < 4294967296 := by omega
  have hM : ((U / 256 + U) / 65536 + (U / 256 + U)) % 128 = P8 a + (P8 b + P8 c) := by
    rw [← hU, ga.2.2.2.2.1, gb.2.2.2.2.1, gc.2.2.2.2.1]
    exact fin_n _ _ _ ga.2.2.2.2.2 gb.2.2.2.2.2 gc.2.2.2.2.2
  generalize (U / 256 + U) / 65536 + (U / 256 + U) = V at hV hM ⊢
  exact tail_n V _ hV hM
/-- The free cells from cell a on. -/
def freeN (h : Int) (a d : Nat) : Int := ((List.range' a d).countP (fun i => bit h i == 0) : Nat)
def freeV (r c h : Int) : Int := if boardV r c h = true then freeN h 0 (r * c).toNat else -1
theorem freeN_succ (h : Int) (a d : Nat) : freeN h a (d + 1) = (if bit h a = 0 then 1 else 0) + freeN h (a + 1) d := by
  unfold freeN
  rw [List.range'_succ, List.countP_cons]
  by_cases h1 : bit h a = 0
  · simp [h1]; omega
  · simp [h1]
theorem freeN_le (h : Int) (a d : Nat) : 0 ≤ freeN h a d ∧ freeN h a d ≤ d := by
  unfold freeN
  have := List.countP_le_length (p := fun i => bit h i == 0) (l := List.range' a d)
  rw [List.length_range'] at this
  omega
theorem free_pop (x n : Nat) (hn : n ≤ 24) (hx : x < 2 ^ n) : freeN x 0 n = n - pop x := by
  have e : (List.range' 0 n).countP (fun i => bit (x : Int) i == 0) = (List.range n).countP (fun i => !x.testBit i) := by
    rw [← List.range_eq_range']
    apply List.countP_congr
    intro i _
    rw [bit_nat]
    cases x.testBit i <;> simp
  have e2 : pop x = (List.range n).countP (fun i => x.testBit i) := by
    unfold pop
    have hr : List.range 24 = List.range n ++ (List.range (24 - n)).map (n + ·) := by
      rw [← List.range_add, show n + (24 - n) = 24 by omega]
    rw [hr, List.countP_append, List.countP_map]
    have : (List.range (24 - n)).countP ((fun i => x.testBit i) ∘ (n + ·)) = 0 := by
      rw [List.countP_eq_zero]
      intro i _
      simp only [Function.comp]
      rw [Nat.testBit_lt_two_pow (Nat.lt_of_lt_of_le hx (Nat.pow_le_pow_right (by omega) (by omega)))]
      simp
    omega
  have h3 := List.length_eq_countP_add_countP (fun i => x.testBit i) (l := List.range n)
  rw [List.length_range] at h3
  unfold freeN
  rw [e, e2]
  have h4 : (List.range n).countP (fun i => !x.testBit i) = (List.range n).countP (fun a => decide ¬x.testBit a = true) := by
    apply List.countP_congr
    intro i _
    simp
  omega
theorem boardV_ok2 {r c h : Int} (hv : boardV r c h = true) : 1 ≤ r ∧ 1 ≤ c ∧ r ≤ 24 ∧ c ≤ 24 ∧ 1 ≤ r * c ∧ r * c ≤ 24 ∧ 0 ≤ h ∧ h < 2 ^ (r * c).toNat ∧ h < 16777216 ∧ wrap64 (r * c) = r * c := by
  unfold boardV at hv
  rw [decide_eq_true_eq] at hv
  obtain ⟨h1, h2, h3, h4, h5, h6, h7⟩ := hv
  have hm := mul_bd (r := r) (c := c) (by omega) (by omega) (by omega) (by omega)
  have hs := shl1 (r * c) (by omega) (by omega)
  exact ⟨h1, h2, h3, h4, hm.1, h5, h6, h7, by omega, hm.2.2⟩
theorem spec_free_l (r c h : Int) (n : Nat) (hn : wrap64 (r * c) = n) (hn2 : n ≤ 24) (hh : 0 ≤ h) : ∀ (d i : Nat) (e : Int), n = i + d → 0 ≤ e → e + d ≤ 1000 →
    Ev (fun k => spec_BoardFree.l0 k e i r c h) (e + freeN h i d) := by
  intro d
  induction d with
  | zero =>
    intro i e hi _ _
    refine Ev.step (fun k => by rw [spec_BoardFree.l0]) ?_
    rw [hn]
    exact Ev.ifn (by omega) (Ev.eq (Ev.now _) (by simp [freeN]))
  | succ d ih =>
    intro i e hi h1 h2
    have hw : wrap64 ((i : Int) + 1) = ((i + 1 : Nat) : Int) := by rw [w64 (by omega) (by omega)]; omega
    refine Ev.step (fun k => by rw [spec_BoardFree.l0]) ?_
    rw [hn, hw, shr_bit hh i (by omega), w64 (x := e + 1) (by omega) (by omega), freeN_succ]
    refine Ev.ifp (by omega) (Ev.ifp (by omega) ?_)
    rcases bit_01 h i with hb | hb <;> rw [hb]
    · exact Ev.ifp rfl (Ev.eq (ih (i + 1) (e + 1) (by omega) (by omega) (by omega)) (by simp; omega))
    · exact Ev.ifn (by omega) (Ev.eq (ih (i + 1) e (by omega) (by omega) (by omega)) (by simp))
theorem spec_free (r c h : Int) : Ev (fun k => spec_BoardFree.f k r c h) (freeV r c h) := by
  unfold spec_BoardFree.f freeV
  refine Ev.bindc (spec_board r c h) ?_
  by_cases hv : boardV r c h = true
  · obtain ⟨h1, h2, h3, h4, h5, h6, h7, h8, h9, h10⟩ := boardV_ok2 hv
    refine Ev.ifp hv (Ev.eq (spec_free_l r c h (r * c).toNat (by rw [h10]; omega) (by omega) h7 (r * c).toNat 0 0 (by omega) (by omega) (by omega)) ?_)
    rw [if_pos hv]; simp
  · exact Ev.ifn hv (Ev.eq (Ev.now _) (by rw [if_neg hv]))
theorem impl_free (r c h : Int) : impl_BoardFree.f r c h = some (freeV r c h) := by
  unfold impl_BoardFree.f freeV
  rw [impl_board]
  simp only [Option.bind_some]
  by_cases hv : boardV r c h = true
  · obtain ⟨h1, h2, h3, h4, h5, h6, h7, h8, h9, h10⟩ := boardV_ok2 hv
    obtain ⟨x, rfl⟩ := Int.eq_ofNat_of_zero_le h7
    have hx : x < 2 ^ (r * c).toNat := by exact_mod_cast h8
    have hf := free_pop x (r * c).toNat (by omega) hx
    have hl := freeN_le x 0 (r * c).toNat
    rw [if_pos hv, if_pos hv, ones_pop x (by omega)]
    simp only [Option.bind_some]
    rw [h10, w64 (by omega) (by omega), hf]
    congr 1
    omega
  · rw [if_neg hv, if_neg hv]
theorem FnExactBoardFree (a0 a1 a2 : Int) (w0 : (Lit.int .i64 a0).wf = true) (w1 : (Lit.int .i64 a1).wf = true) (w2 : (Lit.int .i64 a2).wf = true) : ∃ k, laws_FnExactBoardFree.f k a0 a1 a2 = some true := by
  apply Ev.rounds
  unfold laws_FnExactBoardFree.f
  exact Ev.bindc rfl (Ev.bind (spec_free a0 a1 a2) (Ev.bindc rfl (Ev.bindc (impl_free a0 a1 a2) (Ev.ifp rfl (Ev.now _)))))

end Go.Proofs.Ytbdkmkbkggnekaa.Pure
