/- For every sum and every number of digits SumCan of the program returns the same number as SumCan of the reference. No conditions beyond the arguments being ints. -/
import Derived.Test.YtbnpdiahogigiaaPFnExactSumCanx2
namespace Go.Proofs.Ytbnpdiahogigiaa.Pure
open Go.RowKit Go.Proofs.Ytbnpdiahogigiaa.PFnExactSumCan Go.Proofs.YtbnpdiahogigiaaW.PrintWords Go.Proofs.YtbnpdiahogigiaaW.PrintLast Go.Proofs.YtbnpdiahogigiaaW.PrintMore
set_option linter.unusedVariables false
set_option linter.unusedSimpArgs false
/-! Ev: small steps. -/
theorem _root_.Go.Proofs.YtbnpdiahogigiaaW.PrintWords.Ev.ifp {α : Type} {c : Prop} [Decidable c] {g f : Nat → Option α} {r : α} (hc : c) (h : Ev g r) : Ev (fun k => if c then g k else f k) r :=
  Ev.congr (fun _ => if_pos hc) h
theorem _root_.Go.Proofs.YtbnpdiahogigiaaW.PrintWords.Ev.ifn {α : Type} {c : Prop} [Decidable c] {g f : Nat → Option α} {r : α} (hc : ¬ c) (h : Ev f r) : Ev (fun k => if c then g k else f k) r :=
  Ev.congr (fun _ => if_neg hc) h
theorem _root_.Go.Proofs.YtbnpdiahogigiaaW.PrintWords.Ev.bindc {α β : Type} {o : Option α} {f : Nat → α → Option β} {a : α} {r : β} (h : o = some a) (k : Ev (fun n => f n a) r) : Ev (fun n => o.bind (f n)) r := by
  subst h; exact k
theorem _root_.Go.Proofs.YtbnpdiahogigiaaW.PrintWords.Ev.eq {α : Type} {g : Nat → Option α} {r r' : α} (h : Ev g r) (e : r = r') : Ev g r' := e ▸ h
theorem _root_.Go.Proofs.YtbnpdiahogigiaaW.PrintWords.Ev.cst {α : Type} {o : Option α} {r : α} (h : o = some r) : Ev (fun _ => o) r := ⟨0, fun _ _ => h⟩
theorem w64 {x : Int} (h0 : -9223372036854775808 ≤ x) (h1 : x ≤ 9223372036854775807) : wrap64 x = x := by unfold wrap64; omega
theorem wf_i64 {x : Int} (h : (Lit.int .i64 x).wf = true) : -9223372036854775808 ≤ x ∧ x ≤ 9223372036854775807 := by
  have h2 : (decide (IntKind.i64.min ≤ x) && decide (x ≤ IntKind.i64.max)) = true := h
  simp [IntKind.min, IntKind.max, IntKind.bits, IntKind.signed] at h2
  exact h2
theorem wf_u8 {x : Int} (h : (Lit.int .u8 x).wf = true) : 0 ≤ x ∧ x ≤ 255 := by
  have h2 : (decide (IntKind.u8.min ≤ x) && decide (x ≤ IntKind.u8.max)) = true := h
  simp [IntKind.min, IntKind.max, IntKind.bits, IntKind.signed] at h2
  omega
theorem rd_nat (xs : List Int) (i : Nat) (h : i < xs.length) : rd xs (i : Int) = xs[i] := by
  simp [rd, List.getD_eq_getElem?_getD, h]
theorem rd_mem (xs : List Int) (i : Int) (h0 : 0 ≤ i) (h : i < xs.length) : rd xs i ∈ xs := by
  obtain ⟨n, rfl⟩ := Int.eq_ofNat_of_zero_le h0
  rw [rd_nat xs n (by omega)]; exact List.getElem_mem _
/-! The sets of digits: their sums and sizes, as plain lists. -/
def bit (m : Int) (d : Nat) : Int := m / 2 ^ d % 2
def Sc (m : Int) : Nat → Int
  | 0 => 0
  | c + 1 => bit m (9 - c) * ((9 - c : Nat) : Int) + Sc m c
def Cc (m : Int) : Nat → Int
  | 0 => 0
  | c + 1 => bit m (9 - c) + Cc m c
def ML : Nat → List Int
  | 0 => []
  | r + 1 => (1024 - 2 * ((r : Int) + 1)) :: ML r
def okS (s n m : Int) : Bool := Sc m 9 == s && Cc m 9 == n
def sets (s n : Int) : List Int := (ML 512).filter (okS s n)
theorem bit_01 (m : Int) (d : Nat) : bit m d = 0 ∨ bit m d = 1 := by unfold bit; omega
theorem ML_mem {m : Int} : ∀ {r : Nat}, r ≤ 512 → m ∈ ML r → 0 ≤ m ∧ m < 1024 ∧ m % 2 = 0 ∧ 1024 - 2 * (r : Int) ≤ m := by
  intro r
  induction r with
  | zero => intro _ h; simp [ML] at h
  | succ r ih =>
    intro h1 h2
    simp only [ML, List.mem_cons] at h2
    rcases h2 with h2 | h2
    · omega
    · have := ih (by omega) h2; omega
theorem ML_length : ∀ r, (ML r).length = r := by
  intro r
  induction r with
  | zero => rfl
  | succ r ih => simp [ML, ih]
theorem sets_length (s n : Int) : (sets s n).length ≤ 512 := by
  have := List.length_filter_le (okS s n) (ML 512)
  rw [ML_length] at this; exact this
theorem Sc_range (m : Int) : ∀ c ≤ 9, 0 ≤ Sc m c ∧ Sc m c ≤ 9 * c := by
  intro c
  induction c with
  | zero => intro _; simp [Sc]
  | succ c ih =>
    intro h
    have := ih (by omega)
    have hb := bit_01 m (9 - c)
    simp only [Sc]
    rcases hb with hb | hb <;> rw [hb] <;> omega
theorem Cc_range (m : Int) : ∀ c ≤ 9, 0 ≤ Cc m c ∧ Cc m c ≤ c := by
  intro c
  induction c with
  | zero => intro _; simp [Cc]
  | succ c ih =>
    intro h
    have := ih (by omega)
    have hb := bit_01 m (9 - c)
    simp only [Cc]
    omega
theorem shr_bit {m : Int} (h0 : 0 ≤ m) (d : Nat) (hd : d ≤ 64) : Int.tmod (shr .i64 m (d : Int)) 2 = bit m d := by
  have e : shr .i64 m (d : Int) = m / 2 ^ d := by
    unfold shr
    rw [show min (d : Int).toNat IntKind.i64.bits = d from by simp [IntKind.bits]; omega]
  rw [e, Int.tmod_eq_emod_of_nonneg (Int.ediv_nonneg h0 (Int.pow_nonneg (by decide)))]
  rfl
theorem shr_nat (m : Int) (d : Nat) (hd : d ≤ 64) : shr .i64 m (d : Int) = m / 2 ^ d := by
  unfold shr
  rw [show min (d : Int).toNat IntKind.i64.bits = d from by simp [IntKind.bits]; omega]
theorem and1_bit {x : Int} (h0 : 0 ≤ x) (h1 : x < 4611686018427387904) : Go.bits .and .i64 x 1 = x % 2 := by
  have := bits_mask .i64 62 (by decide) (fun n h h' => by rw [IntKind.wrap_i64]; omega) 1 (by decide) x h0 h1
  simpa using this
theorem l1In_f (a b c : Int) : spec_l1In.f a b c = some (decide (b ≤ a ∧ a ≤ c)) := by
  unfold spec_l1In.f
  by_cases h : a ≥ b
  · rw [if_pos h]; simp; omega
  · rw [if_neg h]; simp; omega
theorem sp_in (s n : Int) (acc : List Int) (m : Int) (hm0 : 0 ≤ m) (hm1 : m < 1024) (r : List Int) : ∀ (c : Nat), c ≤ 9 → ∀ a b : Int, 0 ≤ a → a ≤ 1000 → 0 ≤ b → b ≤ 1000 → a + 9 * c ≤ 1000 → b + c ≤ 1000 →
    Ev (fun k => if a + Sc m c = s then (if b + Cc m c = n then (if acc.length < 17592186044416 then (spec_l16Masks.l0 k s n (acc ++ [m]) (wrap64 (m + 2))) else (none)) else (spec_l16Masks.l0 k s n acc (wrap64 (m + 2)))) else (spec_l16Masks.l0 k s n acc (wrap64 (m + 2)))) r →
    Ev (fun k => spec_l16Masks.l1 k s n acc m a b (10 - (c : Int))) r := by
  intro c
  induction c with
  | zero =>
    intro _ a b _ _ _ _ _ _ H
    refine Ev.step (fun k => ?_) H
    simp only [spec_l16Masks.l1, Sc, Cc]
    rw [if_neg (by omega)]
    simp only [Int.add_zero]
  | succ c ih =>
    intro hc a b ha ha1 hb hb1 hA hB H
    have e : (10 - ((c + 1 : Nat) : Int)) = ((9 - c : Nat) : Int) := by omega
    have e' : wrap64 (((9 - c : Nat) : Int) + 1) = 10 - (c : Int) := by rw [w64 (by omega) (by omega)]; omega
    rw [e]
    rcases bit_01 m (9 - c) with hb0 | hb0
    · refine Ev.step (f := fun k => spec_l16Masks.l1 k s n acc m a b (10 - (c : Int))) (fun k => ?_) (ih (by omega) a b ha ha1 hb hb1 (by omega) (by omega) ?_)
      · rw [spec_l16Masks.l1]
        rw [if_pos (by omega), if_pos (by omega), shr_bit hm0 _ (by omega), hb0, if_neg (by decide), e']
      · simp only [Sc, Cc, hb0, Int.zero_mul, Int.zero_add] at H
        exact H
    · refine Ev.step (f := fun k => spec_l16Masks.l1 k s n acc m (a + ((9 - c : Nat) : Int)) (b + 1) (10 - (c : Int))) (fun k => ?_) (ih (by omega) _ _ (by omega) (by omega) (by omega) (by omega) (by omega) (by omega) ?_)
      · rw [spec_l16Masks.l1]
        rw [if_pos (by omega), if_pos (by omega), shr_bit hm0 _ (by omega), hb0, if_pos rfl, e', w64 (by omega) (by omega), w64 (by omega) (by omega)]
      · simp only [Sc, Cc, hb0, Int.one_mul, ← Int.add_assoc] at H
        exact H
theorem sp_out (s n : Int) : ∀ (r : Nat) (acc : List Int), r ≤ 512 → acc.length + r ≤ 600 →
    Ev (fun k => spec_l16Masks.l0 k s n acc (1024 - 2 * (r : Int))) (acc ++ (ML r).filter (okS s n)) := by
  intro r
  induction r with
  | zero =>
    intro acc _ _
    refine Ev.step (f := fun _ => some acc) (fun k => ?_) ((Ev.now _).eq (by simp [ML]))
    rw [spec_l16Masks.l0]; rw [if_neg (by omega)]
  | succ r ih =>
    intro acc h1 h2
    generalize hm : (1024 - 2 * ((r + 1 : Nat) : Int)) = m
    have hw : wrap64 (m + 2) = 1024 - 2 * (r : Int) := by rw [w64 (by omega) (by omega)]; omega
    refine Ev.step (f := fun k => spec_l16Masks.l1 k s n acc m 0 0 1) (fun k => ?_) ?_
    · rw [spec_l16Masks.l0]; rw [if_pos (by omega)]
    · refine sp_in s n acc m (by omega) (by omega) _ 9 (by omega) 0 0 (by omega) (by omega) (by omega) (by omega) (by omega) (by omega) ?_
      rw [hw]
      simp only [Int.zero_add]
      have hML : ML (r + 1) = m :: ML r := by simp only [ML]; rw [← hm]; congr 1
      by_cases c1 : Sc m 9 = s
      · by_cases c2 : Cc m 9 = n
        · refine Ev.ifp c1 (Ev.ifp c2 (Ev.ifp (by omega) ((ih (acc ++ [m]) (by omega) (by simp; omega)).eq ?_)))
          rw [hML, List.filter_cons_of_pos (by simp [okS, c1, c2])]; simp
        · refine Ev.ifp c1 (Ev.ifn c2 ((ih acc (by omega) (by omega)).eq ?_))
          rw [hML, List.filter_cons_of_neg (by simp [okS, c2])]
      · refine Ev.ifn c1 ((ih acc (by omega) (by omega)).eq ?_)
        rw [hML, List.filter_cons_of_neg (by simp [okS, c1])]
/-- What SumSets answers. -/
def setsV (s n : Int) : List Int := if 0 ≤ s ∧ s ≤ 45 ∧ 0 ≤ n ∧ n ≤ 9 then sets s n else []
theorem setsV_length (s n : Int) : (setsV s n).length ≤ 512 := by
  unfold setsV; split
  · exact sets_length s n
  · simp
theorem spec_sets (s n : Int) : Ev (fun k => spec_SumSets.f k s n) (setsV s n) := by
  unfold spec_SumSets.f
  refine Ev.bindc (l1In_f s 0 45) ?_
  by_cases c1 : 0 ≤ s ∧ s ≤ 45
  · refine Ev.ifp (by simpa using c1) (Ev.bindc (l1In_f n 0 9) ?_)
    by_cases c2 : 0 ≤ n ∧ n ≤ 9
    · refine Ev.ifp (by simpa using c2) (Ev.bind (a := sets s n) ?_ ((Ev.now _).eq ?_))
      · unfold spec_l16Masks.f
        exact (sp_out s n 512 [] (by omega) (by simp)).eq (by simp [sets])
      · unfold setsV; rw [if_pos ⟨c1.1, c1.2, c2⟩]
    · refine Ev.ifn (by simpa using c2) ((Ev.now _).eq ?_)
      unfold setsV; rw [if_neg (by omega)]
  · refine Ev.ifn (by simpa using c1) ((Ev.now _).eq ?_)
    unfold setsV; rw [if_neg (by omega)]
theorem ones_ML : ∀ m ∈ ML 512, bits_OnesCount.f (IntKind.u64.wrap m) = some (Cc m 9) := by decide +kernel
theorem im_in (s n : Int) (acc : List Int) (m : Int) (hm0 : 0 ≤ m) (hm1 : m < 1024) (r : List Int) : ∀ (c : Nat), c ≤ 9 → ∀ a : Int, 0 ≤ a → a + 9 * c ≤ 1000 →
    Ev (fun k => if a + Sc m c = s then ((bits_OnesCount.f (IntKind.u64.wrap m)).bind fun t => (if t = n then (if acc.length < 17592186044416 then (impl_SumSets.l0 k s n (acc ++ [m]) (wrap64 (m + 2))) else (none)) else (impl_SumSets.l0 k s n acc (wrap64 (m + 2))))) else (impl_SumSets.l0 k s n acc (wrap64 (m + 2)))) r →
    Ev (fun k => impl_SumSets.l1 k s n acc m a (10 - (c : Int))) r := by
  intro c
  induction c with
  | zero =>
    intro _ a _ _ H
    refine Ev.step (fun k => ?_) H
    simp only [impl_SumSets.l1, Sc]
    rw [if_neg (by omega)]
    simp only [Int.add_zero]
  | succ c ih =>
    intro hc a ha hA H
    have e : (10 - ((c + 1 : Nat) : Int)) = ((9 - c : Nat) : Int) := by omega
    have e' : wrap64 (((9 - c : Nat) : Int) + 1) = 10 - (c : Int) := by rw [w64 (by omega) (by omega)]; omega
    have hq : 0 ≤ m / 2 ^ (9 - c) := Int.ediv_nonneg hm0 (Int.pow_nonneg (by decide))
    have hq1 : m / 2 ^ (9 - c) ≤ m := Int.ediv_le_self _ hm0
    have hbit : Go.bits .and .i64 (shr .i64 m ((9 - c : Nat) : Int)) 1 = bit m (9 - c) := by
      rw [shr_nat m _ (by omega), and1_bit hq (by omega)]; rfl
    rw [e]
    refine Ev.step (f := fun k => impl_SumSets.l1 k s n acc m (a + bit m (9 - c) * ((9 - c : Nat) : Int)) (10 - (c : Int))) (fun k => ?_) (ih (by omega) _ ?_ ?_ ?_)
    · rw [impl_SumSets.l1]
      rw [if_pos (by omega), if_pos (by omega), hbit, e', Int.mul_comm ((9 - c : Nat) : Int)]
      rcases bit_01 m (9 - c) with hb0 | hb0 <;> rw [hb0]
      · simp only [Int.zero_mul]; rw [w64 (x := 0) (by omega) (by omega), w64 (by omega) (by omega)]
      · simp only [Int.one_mul]; rw [w64 (x := ((9 - c : Nat) : Int)) (by omega) (by omega), w64 (by omega) (by omega)]
    · rcases bit_01 m (9 - c) with hb0 | hb0 <;> rw [hb0] <;> omega
    · rcases bit_01 m (9 - c) with hb0 | hb0 <;> rw [hb0] <;> omega
    · simp only [Sc, ← Int.add_assoc] at H
      exact H
theorem im_out (s n : Int) : ∀ (r : Nat) (acc : List Int), r ≤ 512 → acc.length + r ≤ 600 → (∀ m ∈ ML r, bits_OnesCount.f (IntKind.u64.wrap m) = some (Cc m 9)) →
    Ev (fun k => impl_SumSets.l0 k s n acc (1024 - 2 * (r : Int))) (acc ++ (ML r).filter (okS s n)) := by
  intro r
  induction r with
  | zero =>
    intro acc _ _ _
    refine Ev.step (f := fun _ => some acc) (fun k => ?_) ((Ev.now _).eq (by simp [ML]))
    rw [impl_SumSets.l0]; rw [if_neg (by omega)]
  | succ r ih =>
    intro acc h1 h2 hO
    generalize hm : (1024 - 2 * ((r + 1 : Nat) : Int)) = m
    have hw : wrap64 (m + 2) = 1024 - 2 * (r : Int) := by rw [w64 (by omega) (by omega)]; omega
    have hML : ML (r + 1) = m :: ML r := by simp only [ML]; rw [← hm]; congr 1
    have hOm := hO m (by rw [hML]; exact List.mem_cons_self)
    have hOr : ∀ m ∈ ML r, bits_OnesCount.f (IntKind.u64.wrap m) = some (Cc m 9) := fun x hx => hO x (by rw [hML]; exact List.mem_cons_of_mem _ hx)
    refine Ev.step (f := fun k => impl_SumSets.l1 k s n acc m 0 1) (fun k => ?_) ?_
    · rw [impl_SumSets.l0]; rw [if_pos (by omega)]
    · refine im_in s n acc m (by omega) (by omega) _ 9 (by omega) 0 (by omega) (by omega) ?_
      rw [hw]
      simp only [Int.zero_add]
      by_cases c1 : Sc m 9 = s
      · refine Ev.ifp c1 (Ev.bindc hOm ?_)
        by_cases c2 : Cc m 9 = n
        · refine Ev.ifp c2 (Ev.ifp (by omega) ((ih (acc ++ [m]) (by omega) (by simp; omega) hOr).eq ?_))
          rw [hML, List.filter_cons_of_pos (by simp [okS, c1, c2])]; simp
        · refine Ev.ifn c2 ((ih acc (by omega) (by omega) hOr).eq ?_)
          rw [hML, List.filter_cons_of_neg (by simp [okS, c2])]
      · refine Ev.ifn c1 ((ih acc (by omega) (by omega) hOr).eq ?_)
        rw [hML, List.filter_cons_of_neg (by simp [okS, c1])]
theorem impl_sets (s n : Int) : Ev (fun k => impl_SumSets.f k s n) (setsV s n) := by
  have no : ∀ b : Bool, b = true → ¬ (0 ≤ s ∧ s ≤ 45 ∧ 0 ≤ n ∧ n ≤ 9) → Ev (fun k => impl_SumSets.j0 k s n b) (setsV s n) := by
    intro b hb h
    refine Ev.step (f := fun _ => some []) (fun k => ?_) ((Ev.now _).eq ?_)
    · rw [impl_SumSets.j0]; rw [if_pos hb]
    · unfold setsV; rw [if_neg h]
  unfold impl_SumSets.f
  by_cases c1 : s < 0
  · exact Ev.ifp c1 (no _ rfl (by omega))
  refine Ev.ifn c1 ?_
  by_cases c2 : s > 45
  · exact Ev.ifp c2 (no _ rfl (by omega))
  refine Ev.ifn c2 ?_
  by_cases c3 : n < 0
  · exact Ev.ifp c3 (no _ rfl (by omega))
  refine Ev.ifn c3 ?_
  by_cases c4 : n > 9
  · exact no _ (by simpa using c4) (by omega)
  refine Ev.step (f := fun k => impl_SumSets.l0 k s n [] 0) (fun k => ?_) ((im_out s n 512 [] (by omega) (by simp) ones_ML).eq ?_)
  · rw [impl_SumSets.j0]; rw [if_neg (by simpa using c4)]
  · unfold setsV; rw [if_pos (by omega)]; simp [sets]
def canV (s n : Int) : Int := if (setsV s n).length = 0 then -1 else (setsV s n).foldl (Go.bits .or .i64) 0
theorem spec_can_l (xs : List Int) (h : xs.length ≤ 1000) : ∀ (d i : Nat) (acc : Int), xs.length = i + d → Ev (fun k => spec_SumCan.l0 k xs acc i) ((xs.drop i).foldl (Go.bits .or .i64) acc) := by
  intro d
  induction d with
  | zero =>
    intro i acc hi
    refine Ev.step (f := fun _ => some acc) (fun k => ?_) ((Ev.now _).eq (by rw [List.drop_eq_nil_of_le (by omega)]; rfl))
    rw [spec_SumCan.l0]; rw [if_neg (by omega)]
  | succ d ih =>
    intro i acc hi
    have hw : wrap64 ((i : Int) + 1) = ((i + 1 : Nat) : Int) := by rw [w64 (by omega) (by omega)]; omega
    refine Ev.step (f := fun k => spec_SumCan.l0 k xs (Go.bits .or .i64 acc xs[i]) ((i + 1 : Nat) : Int)) (fun k => ?_) ((ih (i + 1) _ (by omega)).eq ?_)
    · rw [spec_SumCan.l0]; rw [if_pos (by omega), if_pos (by omega), rd_nat xs i (by omega), hw]
    · rw [List.drop_eq_getElem_cons (show i < xs.length by omega)]; rfl
theorem impl_can_l (xs : List Int) (h : xs.length ≤ 1000) : ∀ (d i : Nat) (acc : Int), xs.length = i + d → Ev (fun k => impl_SumCan.l0 k acc xs xs.length i) ((xs.drop i).foldl (Go.bits .or .i64) acc) := by
  intro d
  induction d with
  | zero =>
    intro i acc hi
    refine Ev.step (f := fun _ => some acc) (fun k => ?_) ((Ev.now _).eq (by rw [List.drop_eq_nil_of_le (by omega)]; rfl))
    rw [impl_SumCan.l0]; rw [if_neg (by omega)]
  | succ d ih =>
    intro i acc hi
    have hw : wrap64 ((i : Int) + 1) = ((i + 1 : Nat) : Int) := by rw [w64 (by omega) (by omega)]; omega
    refine Ev.step (f := fun k => impl_SumCan.l0 k (Go.bits .or .i64 acc xs[i]) xs xs.length ((i + 1 : Nat) : Int)) (fun k => ?_) ((ih (i + 1) _ (by omega)).eq ?_)
    · rw [impl_SumCan.l0]; rw [if_pos (by omega), if_pos (by omega), if_pos (by omega), rd_nat xs i (by omega), hw]
    · rw [List.drop_eq_getElem_cons (show i < xs.length by omega)]; rfl
theorem spec_can (s n : Int) : Ev (fun k => spec_SumCan.f k s n) (canV s n) := by
  have hl := setsV_length s n
  unfold spec_SumCan.f canV
  refine Ev.bind (spec_sets s n) ?_
  by_cases c : (setsV s n).length = 0
  · exact Ev.ifp (by omega) ((Ev.now _).eq (by rw [if_pos c]))
  · exact Ev.ifn (by omega) ((spec_can_l _ (by omega) (setsV s n).length 0 0 (by omega)).eq (by rw [if_neg c]; rfl))
theorem impl_can (s n : Int) : Ev (fun k => impl_SumCan.f k s n) (canV s n) := by
  have hl := setsV_length s n
  unfold impl_SumCan.f canV
  refine Ev.bind (impl_sets s n) ?_
  by_cases c : (setsV s n).length = 0
  · exact Ev.ifp (by omega) ((Ev.now _).eq (by rw [if_pos c]))
  · exact Ev.ifn (by omega) ((impl_can_l _ (by omega) (setsV s n).length 0 0 (by omega)).eq (by rw [if_neg c]; rfl))
theorem FnExactSumCan : laws_FnExactSumCan.Pure := by
  intro s n _ _
  apply Ev.rounds
  unfold laws_FnExactSumCan.f
  exact Ev.bind (spec_can s n) (Ev.bind (impl_can s n) (Ev.ifp rfl (Ev.now _)))

end Go.Proofs.Ytbnpdiahogigiaa.Pure
