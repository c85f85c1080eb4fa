/- For every code: at the number that the code draws SumBounds answers what the reference answers; both sums have exactly one set, and one less and one more have none. No conditions beyond the code being bytes. -/
import Derived.Test.YtbnpdiahogigiaaPFnSumBoundsx3
namespace Go.Proofs.Ytbnpdiahogigiaa.Pure
open Go.RowKit Go.Proofs.Ytbnpdiahogigiaa.PFnSumBounds Go.Proofs.YtbnpdiahogigiaaW.PrintWords Go.Proofs.YtbnpdiahogigiaaW.PrintLast Go.Proofs.YtbnpdiahogigiaaW.PrintMore
set_option linter.unusedVariables false
set_option linter.unusedSimpArgs false
/-! Ev: small steps. -/
theorem _root_.Go.Proofs.YtbnpdiahogigiaaW.PrintWords.Ev.ifp {α : Type} {c : Prop} [Decidable c] {g f : Nat → Option α} {r : α} (hc : c) (h : Ev g r) : Ev (fun k => if c then g k else f k) r :=
  Ev.congr (fun _ => if_pos hc) h
theorem _root_.Go.Proofs.YtbnpdiahogigiaaW.PrintWords.Ev.ifn {α : Type} {c : Prop} [Decidable c] {g f : Nat → Option α} {r : α} (hc : ¬ c) (h : Ev f r) : Ev (fun k => if c then g k else f k) r :=
  Ev.congr (fun _ => if_neg hc) h
theorem _root_.Go.Proofs.YtbnpdiahogigiaaW.PrintWords.Ev.bindc {α β : Type} {o : Option α} {f : Nat → α → Option β} {a : α} {r : β} (h : o = some a) (k : Ev (fun n => f n a) r) : Ev (fun n => o.bind (f n)) r := by
  subst h; exact k
theorem _root_.Go.Proofs.YtbnpdiahogigiaaW.PrintWords.Ev.eq {α : Type} {g : Nat → Option α} {r r' : α} (h : Ev g r) (e : r = r') : Ev g r' := e ▸ h
theorem _root_.Go.Proofs.YtbnpdiahogigiaaW.PrintWords.Ev.cst {α : Type} {o : Option α} {r : α} (h : o = some r) : Ev (fun _ => o) r := ⟨0, fun _ _ => h⟩
theorem w64 {x : Int} (h0 : -9223372036854775808 ≤ x) (h1 : x ≤ 9223372036854775807) : wrap64 x = x := by unfold wrap64; omega
theorem wf_i64 {x : Int} (h : (Lit.int .i64 x).wf = true) : -9223372036854775808 ≤ x ∧ x ≤ 9223372036854775807 := by
  have h2 : (decide (IntKind.i64.min ≤ x) && decide (x ≤ IntKind.i64.max)) = true := h
  simp [IntKind.min, IntKind.max, IntKind.bits, IntKind.signed] at h2
  exact h2
theorem wf_u8 {x : Int} (h : (Lit.int .u8 x).wf = true) : 0 ≤ x ∧ x ≤ 255 := by
  have h2 : (decide (IntKind.u8.min ≤ x) && decide (x ≤ IntKind.u8.max)) = true := h
  simp [IntKind.min, IntKind.max, IntKind.bits, IntKind.signed] at h2
  omega
theorem rd_nat (xs : List Int) (i : Nat) (h : i < xs.length) : rd xs (i : Int) = xs[i] := by
  simp [rd, List.getD_eq_getElem?_getD, h]
theorem rd_mem (xs : List Int) (i : Int) (h0 : 0 ≤ i) (h : i < xs.length) : rd xs i ∈ xs := by
  obtain ⟨n, rfl⟩ := Int.eq_ofNat_of_zero_le h0
  rw [rd_nat xs n (by omega)]; exact List.getElem_mem _
/-! The sets of digits: their sums and sizes, as plain lists. -/
def bit (m : Int) (d : Nat) : Int := m / 2 ^ d % 2
def Sc (m : Int) : Nat → Int
  | 0 => 0
  | c + 1 => bit m (9 - c) * ((9 - c : Nat) : Int) + Sc m c
def Cc (m : Int) : Nat → Int
  | 0 => 0
  | c + 1 => bit m (9 - c) + Cc m c
def ML : Nat → List Int
  | 0 => []
  | r + 1 => (1024 - 2 * ((r : Int) + 1)) :: ML r
def okS (s n m : Int) : Bool := Sc m 9 == s && Cc m 9 == n
def sets (s n : Int) : List Int := (ML 512).filter (okS s n)
theorem bit_01 (m : Int) (d : Nat) : bit m d = 0 ∨ bit m d = 1 := by unfold bit; omega
theorem ML_mem {m : Int} : ∀ {r : Nat}, r ≤ 512 → m ∈ ML r → 0 ≤ m ∧ m < 1024 ∧ m % 2 = 0 ∧ 1024 - 2 * (r : Int) ≤ m := by
  intro r
  induction r with
  | zero => intro _ h; simp [ML] at h
  | succ r ih =>
    intro h1 h2
    simp only [ML, List.mem_cons] at h2
    rcases h2 with h2 | h2
    · omega
    · have := ih (by omega) h2; omega
theorem ML_length : ∀ r, (ML r).length = r := by
  intro r
  induction r with
  | zero => rfl
  | succ r ih => simp [ML, ih]
theorem sets_length (s n : Int) : (sets s n).length ≤ 512 := by
  have := List.length_filter_le (okS s n) (ML 512)
  rw [ML_length] at this; exact this
theorem Sc_range (m : Int) : ∀ c ≤ 9, 0 ≤ Sc m c ∧ Sc m c ≤ 9 * c := by
  intro c
  induction c with
  | zero => intro _; simp [Sc]
  | succ c ih =>
    intro h
    have := ih (by omega)
    have hb := bit_01 m (9 - c)
    simp only [Sc]
    rcases hb with hb | hb <;> rw [hb] <;> omega
theorem Cc_range (m : Int) : ∀ c ≤ 9, 0 ≤ Cc m c ∧ Cc m c ≤ c := by
  intro c
  induction c with
  | zero => intro _; simp [Cc]
  | succ c ih =>
    intro h
    have := ih (by omega)
    have hb := bit_01 m (9 - c)
    simp only [Cc]
    omega
theorem shr_bit {m : Int} (h0 : 0 ≤ m) (d : Nat) (hd : d ≤ 64) : Int.tmod (shr .i64 m (d : Int)) 2 = bit m d := by
  have e : shr .i64 m (d : Int) = m / 2 ^ d := by
    unfold shr
    rw [show min (d : Int).toNat IntKind.i64.bits = d from by simp [IntKind.bits]; omega]
  rw [e, Int.tmod_eq_emod_of_nonneg (Int.ediv_nonneg h0 (Int.pow_nonneg (by decide)))]
  rfl
theorem shr_nat (m : Int) (d : Nat) (hd : d ≤ 64) : shr .i64 m (d : Int) = m / 2 ^ d := by
  unfold shr
  rw [show min (d : Int).toNat IntKind.i64.bits = d from by simp [IntKind.bits]; omega]
theorem and1_bit {x : Int} (h0 : 0 ≤ x) (h1 : x < 4611686018427387904) : Go.bits .and .i64 x 1 = x % 2 := by
  have := bits_mask .i64 62 (by decide) (fun n h h' => by rw [IntKind.wrap_i64]; omega) 1 (by decide) x h0 h1
  simpa using this
theorem l1In_f (a b c : Int) : spec_l1In.f a b c = some (decide (b ≤ a ∧ a ≤ c)) := by
  unfold spec_l1In.f
  by_cases h : a ≥ b
  · rw [if_pos h]; simp; omega
  · rw [if_neg h]; simp; omega
/-- What SumSets answers. -/
def setsV (s n : Int) : List Int := if 0 ≤ s ∧ s ≤ 45 ∧ 0 ≤ n ∧ n ≤ 9 then sets s n else []
theorem setsV_length (s n : Int) : (setsV s n).length ≤ 512 := by
  unfold setsV; split
  · exact sets_length s n
  · simp
theorem ones_ML : ∀ m ∈ ML 512, bits_OnesCount.f (IntKind.u64.wrap m) = some (Cc m 9) := by decide +kernel
theorem im_in (s n : Int) (acc : List Int) (m : Int) (hm0 : 0 ≤ m) (hm1 : m < 1024) (r : List Int) : ∀ (c : Nat), c ≤ 9 → ∀ a : Int, 0 ≤ a → a + 9 * c ≤ 1000 →
    Ev (fun k => if a + Sc m c = s then ((bits_OnesCount.f (IntKind.u64.wrap m)).bind fun t => (if t = n then (if acc.length < 17592186044416 then (impl_SumSets.l0 k s n (acc ++ [m]) (wrap64 (m + 2))) else (none)) else (impl_SumSets.l0 k s n acc (wrap64 (m + 2))))) else (impl_SumSets.l0 k s n acc (wrap64 (m + 2)))) r →
    Ev (fun k => impl_SumSets.l1 k s n acc m a (10 - (c : Int))) r := by
  intro c
  induction c with
  | zero =>
    intro _ a _ _ H
    refine Ev.step (fun k => ?_) H
    simp only [impl_SumSets.l1, Sc]
    rw [if_neg (by omega)]
    simp only [Int.add_zero]
  | succ c ih =>
    intro hc a ha hA H
    have e : (10 - ((c + 1 : Nat) : Int)) = ((9 - c : Nat) : Int) := by omega
    have e' : wrap64 (((9 - c : Nat) : Int) + 1) = 10 - (c : Int) := by rw [w64 (by omega) (by omega)]; omega
    have hq : 0 ≤ m / 2 ^ (9 - c) := Int.ediv_nonneg hm0 (Int.pow_nonneg (by decide))
    have hq1 : m / 2 ^ (9 - c) ≤ m := Int.ediv_le_self _ hm0
    have hbit : Go.bits .and .i64 (shr .i64 m ((9 - c : Nat) : Int)) 1 = bit m (9 - c) := by
      rw [shr_nat m _ (by omega), and1_bit hq (by omega)]; rfl
    rw [e]
    refine Ev.step (f := fun k => impl_SumSets.l1 k s n acc m (a + bit m (9 - c) * ((9 - c : Nat) : Int)) (10 - (c : Int))) (fun k => ?_) (ih (by omega) _ ?_ ?_ ?_)
    · rw [impl_SumSets.l1]
      rw [if_pos (by omega), if_pos (by omega), hbit, e', Int.mul_comm ((9 - c : Nat) : Int)]
      rcases bit_01 m (9 - c) with hb0 | hb0 <;> rw [hb0]
      · simp only [Int.zero_mul]; rw [w64 (x := 0) (by omega) (by omega), w64 (by omega) (by omega)]
      · simp only [Int.one_mul]; rw [w64 (x := ((9 - c : Nat) : Int)) (by omega) (by omega), w64 (by omega) (by omega)]
    · rcases bit_01 m (9 - c) with hb0 | hb0 <;> rw [hb0] <;> omega
    · rcases bit_01 m (9 - c) with hb0 | hb0 <;> rw [hb0] <;> omega
    · simp only [Sc, ← Int.add_assoc] at H
      exact H
theorem im_out (s n : Int) : ∀ (r : Nat) (acc : List Int), r ≤ 512 → acc.length + r ≤ 600 → (∀ m ∈ ML r, bits_OnesCount.f (IntKind.u64.wrap m) = some (Cc m 9)) →
    Ev (fun k => impl_SumSets.l0 k s n acc (1024 - 2 * (r : Int))) (acc ++ (ML r).filter (okS s n)) := by
  intro r
  induction r with
  | zero =>
    intro acc _ _ _
    refine Ev.step (f := fun _ => some acc) (fun k => ?_) ((Ev.now _).eq (by simp [ML]))
    rw [impl_SumSets.l0]; rw [if_neg (by omega)]
  | succ r ih =>
    intro acc h1 h2 hO
    generalize hm : (1024 - 2 * ((r + 1 : Nat) : Int)) = m
    have hw : wrap64 (m + 2) = 1024 - 2 * (r : Int) := by rw [w64 (by omega) (by omega)]; omega
    have hML : ML (r + 1) = m :: ML r := by simp only [ML]; rw [← hm]; congr 1
    have hOm := hO m (by rw [hML]; exact List.mem_cons_self)
    have hOr : ∀ m ∈ ML r, bits_OnesCount.f (IntKind.u64.wrap m) = some (Cc m 9) := fun x hx => hO x (by rw [hML]; exact List.mem_cons_of_mem _ hx)
    refine Ev.step (f := fun k => impl_SumSets.l1 k s n acc m 0 1) (fun k => ?_) ?_
    · rw [impl_SumSets.l0]; rw [if_pos (by omega)]
    · refine im_in s n acc m (by omega) (by omega) _ 9 (by omega) 0 (by omega) (by omega) ?_
      rw [hw]
      simp only [Int.zero_add]
      by_cases c1 : Sc m 9 = s
      · refine Ev.ifp c1 (Ev.bindc hOm ?_)
        by_cases c2 : Cc m 9 = n
        · refine Ev.ifp c2 (Ev.ifp (by omega) ((ih (acc ++ [m]) (by omega) (by simp; omega) hOr).eq ?_))
          rw [hML, List.filter_cons_of_pos (by simp [okS, c1, c2])]; simp
        · refine Ev.ifn c2 ((ih acc (by omega) (by omega) hOr).eq ?_)
          rw [hML, List.filter_cons_of_neg (by simp [okS, c2])]
      · refine Ev.ifn c1 ((ih acc (by omega) (by omega) hOr).eq ?_)
        rw [hML, List.filter_cons_of_neg (by simp [okS, c1])]
theorem impl_sets (s n : Int) : Ev (fun k => impl_SumSets.f k s n) (setsV s n) := by
  have no : ∀ b : Bool, b = true → ¬ (0 ≤ s ∧ s ≤ 45 ∧ 0 ≤ n ∧ n ≤ 9) → Ev (fun k => impl_SumSets.j0 k s n b) (setsV s n) := by
    intro b hb h
    refine Ev.step (f := fun _ => some []) (fun k => ?_) ((Ev.now _).eq ?_)
    · rw [impl_SumSets.j0]; rw [if_pos hb]
    · unfold setsV; rw [if_neg h]
  unfold impl_SumSets.f
  by_cases c1 : s < 0
  · exact Ev.ifp c1 (no _ rfl (by omega))
  refine Ev.ifn c1 ?_
  by_cases c2 : s > 45
  · exact Ev.ifp c2 (no _ rfl (by omega))
  refine Ev.ifn c2 ?_
  by_cases c3 : n < 0
  · exact Ev.ifp c3 (no _ rfl (by omega))
  refine Ev.ifn c3 ?_
  by_cases c4 : n > 9
  · exact no _ (by simpa using c4) (by omega)
  refine Ev.step (f := fun k => impl_SumSets.l0 k s n [] 0) (fun k => ?_) ((im_out s n 512 [] (by omega) (by simp) ones_ML).eq ?_)
  · rw [impl_SumSets.j0]; rw [if_neg (by simpa using c4)]
  · unfold setsV; rw [if_pos (by omega)]; simp [sets]
/-- What SumBounds answers. -/
def boundsV (n : Int) : Int × Int := if 0 ≤ n ∧ n ≤ 9 then (n * (n + 1) / 2, n * (19 - n) / 2) else (-1, -1)
theorem nine {n : Int} (h : 0 ≤ n ∧ n ≤ 9) : n = 0 ∨ n = 1 ∨ n = 2 ∨ n = 3 ∨ n = 4 ∨ n = 5 ∨ n = 6 ∨ n = 7 ∨ n = 8 ∨ n = 9 := by omega
theorem spec_bounds (n : Int) : spec_SumBounds.f n = some (boundsV n) := by
  unfold spec_SumBounds.f boundsV
  rw [l1In_f]
  simp only [Option.bind_some]
  by_cases h : 0 ≤ n ∧ n ≤ 9
  · rcases nine h with rfl | rfl | rfl | rfl | rfl | rfl | rfl | rfl | rfl | rfl <;> decide +kernel
  · rw [if_neg (by simpa using h), if_neg h]
theorem impl_bounds (n : Int) : Ev (fun k => impl_SumBounds.f k n) (boundsV n) := by
  by_cases h : 0 ≤ n ∧ n ≤ 9
  · rcases nine h with rfl | rfl | rfl | rfl | rfl | rfl | rfl | rfl | rfl | rfl <;> exact Ev.of (fun k => impl_SumBounds.mono _ k) (k := 20) (by decide +kernel)
  · have no : ∀ b : Bool, b = true → Ev (fun k => impl_SumBounds.j0 k n b) (boundsV n) := by
      intro b hb
      refine Ev.step (f := fun _ => some (-1, -1)) (fun k => ?_) ((Ev.now _).eq ?_)
      · rw [impl_SumBounds.j0]; rw [if_pos hb]
      · unfold boundsV; rw [if_neg h]
    unfold impl_SumBounds.f
    by_cases c : n < 0
    · exact Ev.ifp c (no _ rfl)
    · exact Ev.ifn c (no _ (by simp; omega))
/-! The reader of draws: only that each number drawn lies in its range. -/
structure Byts (b : List Int) : Prop where
  len : b.length ≤ 2000
  val : ∀ x ∈ b, 0 ≤ x ∧ x ≤ 255
theorem xor_nn {a b : Int} (ha : 0 ≤ a) (ha1 : a < 4611686018427387904) (hb : 0 ≤ b) (hb1 : b < 4611686018427387904) : 0 ≤ Go.bits .xor .i64 a b := by
  obtain ⟨m, rfl⟩ := Int.eq_ofNat_of_zero_le ha
  obtain ⟨n, rfl⟩ := Int.eq_ofNat_of_zero_le hb
  have h : (m ^^^ n) < 2 ^ 62 := Nat.xor_lt_two_pow (by omega) (by omega)
  have hm : m % 2 ^ IntKind.i64.bits = m := Nat.mod_eq_of_lt (show m < 2 ^ 64 by omega)
  have hn : n % 2 ^ IntKind.i64.bits = n := Nat.mod_eq_of_lt (show n < 2 ^ 64 by omega)
  simp only [Go.bits, BitVec.ofInt_natCast, BitVec.toNat_xor, BitVec.toNat_ofNat, hm, hn]
  rw [IntKind.wrap_i64]
  omega
theorem open_ok (l : List Int) (h : l.length ≤ maxLen) (hb : ∀ x ∈ l, (Lit.int .u8 x).wf = true) : ∃ b, spec_l20Open.f l = some (b, 0) ∧ Byts b := by
  unfold spec_l20Open.f
  by_cases c : (l.length : Int) > 2000
  · rw [if_pos c, if_pos (by omega)]
    exact ⟨_, rfl, by rw [List.length_take]; omega, fun x hx => wf_u8 (hb x (List.mem_of_mem_take hx))⟩
  · rw [if_neg c]
    exact ⟨_, rfl, by omega, fun x hx => wf_u8 (hb x hx)⟩
theorem pick_any {b : List Int} (hb : Byts b) {p : Int} (hp : 0 ≤ p) (hp1 : p ≤ 1000000) (n : Int) (hn1 : n ≤ 9223372036854775807) :
    ∃ r, Ev (fun k => spec_l20Rd_pick.f k b p n) (r, p + 1) ∧ 0 ≤ r ∧ (1 ≤ n → r < n) ∧ (n < 1 → r = 0) := by
  have hw : wrap64 (p + 1) = p + 1 := w64 (by omega) (by omega)
  have hw2 : wrap64 (p + 1 - 1) = p := by rw [w64 (by omega) (by omega)]; omega
  have hl := hb.len
  unfold spec_l20Rd_pick.f
  by_cases c : n < 1
  · refine ⟨0, Ev.ifp c (Ev.step (f := fun _ => some (0, p + 1)) (fun k => ?_) (Ev.now _)), by omega, by omega, fun _ => rfl⟩
    rw [spec_l20Rd_pick.j0]; rw [if_pos rfl, hw]
  · by_cases c0 : b.length = 0
    · refine ⟨0, Ev.ifn c (Ev.step (f := fun _ => some (0, p + 1)) (fun k => ?_) (Ev.now _)), by omega, by omega, fun _ => rfl⟩
      rw [spec_l20Rd_pick.j0]
      rw [c0, if_pos (by decide), hw]
    · have c0' : ((b.length : Int) == 0) = false := by simp; intro h; simp [h] at c0
      by_cases c1 : p < (b.length : Int)
      · have hm := hb.val _ (rd_mem b p hp c1)
        refine ⟨Int.tmod (rd b p) n, Ev.ifn c (Ev.step (f := fun _ => some (Int.tmod (rd b p) n, p + 1)) (fun k => ?_) (Ev.now _)), Int.tmod_nonneg _ hm.1, fun h => Int.tmod_lt_of_pos _ (by omega), fun h => absurd h c⟩
        rw [spec_l20Rd_pick.j0]
        rw [c0', if_neg (by decide), hw, hw2, if_pos c1, if_pos hp, if_neg (by omega), w64 (by omega) (by omega)]
      · have hL : (0 : Int) < (b.length : Int) := by omega
        have e1 := Int.tmod_nonneg (b.length : Int) hp
        have e2 := Int.tmod_lt_of_pos p hL
        have k7 : wrap64 (p * 7) = p * 7 := w64 (by omega) (by omega)
        have k73 : wrap64 (p * 7 + 3) = p * 7 + 3 := w64 (by omega) (by omega)
        have e3 := Int.tmod_nonneg (b.length : Int) (show 0 ≤ p * 7 + 3 by omega)
        have e4 := Int.tmod_lt_of_pos (p * 7 + 3) hL
        have m1 := hb.val _ (rd_mem b _ e1 e2)
        have m2 := hb.val _ (rd_mem b _ e3 e4)
        have d0 : Int.tdiv p (b.length : Int) = p / (b.length : Int) := Int.tdiv_eq_ediv_of_nonneg hp
        have d1 : 0 ≤ p / (b.length : Int) := Int.ediv_nonneg hp (by omega)
        have d2 : p / (b.length : Int) ≤ p := Int.ediv_le_self _ hp
        generalize hx1 : rd b (Int.tmod p (b.length : Int)) = x1 at m1
        generalize hx2 : rd b (Int.tmod (p * 7 + 3) (b.length : Int)) = x2 at m2
        generalize hq : p / (b.length : Int) = q at d0 d1 d2
        have hX : 0 ≤ Go.bits .xor .i64 (x1 * 131 + x2 * 1117 + p * 29 + q * 53) ((x1 * 131 + x2 * 1117 + p * 29 + q * 53) / 64) := xor_nn (by omega) (by omega) (by omega) (by omega)
        generalize hR : Go.bits .xor .i64 (x1 * 131 + x2 * 1117 + p * 29 + q * 53) ((x1 * 131 + x2 * 1117 + p * 29 + q * 53) / 64) = X at hX
        refine ⟨Int.tmod X n, Ev.ifn c (Ev.step (f := fun _ => some (Int.tmod X n, p + 1)) (fun k => ?_) (Ev.now _)), Int.tmod_nonneg _ hX, fun h => Int.tmod_lt_of_pos _ (by omega), fun h => absurd h c⟩
        rw [spec_l20Rd_pick.j0]
        rw [c0', if_neg (by decide), hw, hw2, if_neg c1, if_neg (by omega), k7, k73, if_pos e1, if_pos e2, if_pos e3, if_pos e4, if_neg (by omega), hx1, hx2, d0]
        rw [w64 (x := x1) (by omega) (by omega), w64 (x := x2) (by omega) (by omega), w64 (x := q) (by omega) (by omega), w64 (x := x1 * 131) (by omega) (by omega), w64 (x := x2 * 1117) (by omega) (by omega), w64 (x := p * 29) (by omega) (by omega), w64 (x := q * 53) (by omega) (by omega)]
        rw [w64 (x := x1 * 131 + x2 * 1117) (by omega) (by omega), w64 (x := x1 * 131 + x2 * 1117 + p * 29) (by omega) (by omega), w64 (x := x1 * 131 + x2 * 1117 + p * 29 + q * 53) (by omega) (by omega)]
        rw [Int.tdiv_eq_ediv_of_nonneg (by omega), w64 (by omega) (by omega), hR]
theorem alive_ev : Ev (fun k => laws_alive.f k) true := Ev.of (fun k => laws_alive.mono k) (k := 20) (by decide +kernel)
theorem bnd_facts : ∀ n ∈ ([0, 1, 2, 3, 4, 5, 6, 7, 8, 9] : List Int), 0 ≤ (boundsV n).1 ∧ (boundsV n).1 ≤ (boundsV n).2 ∧ (boundsV n).2 ≤ 45 ∧ (setsV (boundsV n).1 n).length = 1 ∧ (setsV (boundsV n).2 n).length = 1 ∧ (setsV ((boundsV n).1 - 1) n).length = 0 ∧ (setsV ((boundsV n).2 + 1) n).length = 0 := by decide +kernel
theorem FnSumBounds : laws_FnSumBounds.Pure := by
  intro l h _ hb
  apply Ev.rounds
  unfold laws_FnSumBounds.f
  by_cases c0 : (l.length : Int) > 1048576
  · exact Ev.ifp c0 (Ev.now _)
  refine Ev.ifn c0 ?_
  obtain ⟨b, e, hB⟩ := open_ok l h hb
  obtain ⟨r, e1, _, _, _⟩ := pick_any hB (p := 0) (by omega) (by omega) 12 (by omega)
  generalize hn : wrap64 (r - 1) = n
  have eD : Ev (fun k => spec_DrawSumBounds.f k l) n := by
    unfold spec_DrawSumBounds.f
    exact Ev.bindc e (Ev.bind e1 ((Ev.now _).eq hn))
  refine Ev.bind eD (Ev.bind (impl_bounds n) (Ev.bindc (spec_bounds n) (Ev.ifp rfl ?_)))
  have eb : ((boundsV n).2 != (boundsV n).2) = false := by simp
  rw [eb]
  by_cases c : 0 ≤ n ∧ n ≤ 9
  · have hf := bnd_facts n (by rcases nine c with rfl | rfl | rfl | rfl | rfl | rfl | rfl | rfl | rfl | rfl <;> decide)
    obtain ⟨f0, f1, f2, f3, f4, f5, f6⟩ := hf
    refine Ev.step (fun k => by rw [laws_FnSumBounds.j0]) ?_
    rw [w64 (by omega) (by omega), w64 (by omega) (by omega)]
    exact Ev.ifn (by decide) (Ev.ifn (by omega) (Ev.bind (impl_sets _ _) (Ev.ifp (by omega) (Ev.bind (impl_sets _ _) (Ev.ifp (by omega) (Ev.bind (impl_sets _ _) (Ev.ifp (by omega) (Ev.bind (impl_sets _ _) (Ev.ifp (by omega) (Ev.eq (Ev.now _) (by simpa using f1)))))))))))
  · have e9 : boundsV n = (-1, -1) := by unfold boundsV; rw [if_neg c]
    rw [e9]
    refine Ev.step (f := fun k => (laws_alive.f k).bind fun t134 => (some t134)) (fun k => ?_) (Ev.bind alive_ev (Ev.now _))
    rw [laws_FnSumBounds.j0]; rw [if_neg (by decide), if_pos (by decide), if_pos rfl, if_pos rfl]

end Go.Proofs.Ytbnpdiahogigiaa.Pure
