/- For every code: at the sum and the number that the code draws there are sets exactly if the sum lies between the two bounds, and SumSets answers what the reference answers. No conditions beyond the code being bytes. -/
import Derived.Test.YtbnpdiahogigiaaPFnSumPartsx3
namespace Go.Proofs.Ytbnpdiahogigiaa.Pure
open Go.RowKit Go.Proofs.Ytbnpdiahogigiaa.PFnSumParts Go.Proofs.YtbnpdiahogigiaaW.PrintWords Go.Proofs.YtbnpdiahogigiaaW.PrintLast Go.Proofs.YtbnpdiahogigiaaW.PrintMore
set_option linter.unusedVariables false
set_option linter.unusedSimpArgs false
/-! Ev: small steps. -/
theorem _root_.Go.Proofs.YtbnpdiahogigiaaW.PrintWords.Ev.ifp {α : Type} {c : Prop} [Decidable c] {g f : Nat → Option α} {r : α} (hc : c) (h : Ev g r) : Ev (fun k => if c then g k else f k) r :=
  Ev.congr (fun _ => if_pos hc) h
theorem _root_.Go.Proofs.YtbnpdiahogigiaaW.PrintWords.Ev.ifn {α : Type} {c : Prop} [Decidable c] {g f : Nat → Option α} {r : α} (hc : ¬ c) (h : Ev f r) : Ev (fun k => if c then g k else f k) r :=
  Ev.congr (fun _ => if_neg hc) h
theorem _root_.Go.Proofs.YtbnpdiahogigiaaW.PrintWords.Ev.bindc {α β : Type} {o : Option α} {f : Nat → α → Option β} {a : α} {r : β} (h : o = some a) (k : Ev (fun n => f n a) r) : Ev (fun n => o.bind (f n)) r := by
  subst h; exact k
theorem _root_.Go.Proofs.YtbnpdiahogigiaaW.PrintWords.Ev.eq {α : Type} {g : Nat → Option α} {r r' : α} (h : Ev g r) (e : r = r') : Ev g r' := e ▸ h
theorem _root_.Go.Proofs.YtbnpdiahogigiaaW.PrintWords.Ev.cst {α : Type} {o : Option α} {r : α} (h : o = some r) : Ev (fun _ => o) r := ⟨0, fun _ _ => h⟩
theorem w64 {x : Int} (h0 : -9223372036854775808 ≤ x) (h1 : x ≤ 9223372036854775807) : wrap64 x = x := by unfold wrap64; omega
theorem wf_i64 {x : Int} (h : (Lit.int .i64 x).wf = true) : -9223372036854775808 ≤ x ∧ x ≤ 9223372036854775807 := by
  have h2 : (decide (IntKind.i64.min ≤ x) && decide (x ≤ IntKind.i64.max)) = true := h
  simp [IntKind.min, IntKind.max, IntKind.bits, IntKind.signed] at h2
  exact h2
theorem wf_u8 {x : Int} (h : (Lit.int .u8 x).wf = true) : 0 ≤ x ∧ x ≤ 255 := by
  have h2 : (decide (IntKind.u8.min ≤ x) && decide (x ≤ IntKind.u8.max)) = true := h
  simp [IntKind.min, IntKind.max, IntKind.bits, IntKind.signed] at h2
  omega
theorem rd_nat (xs : List Int) (i : Nat) (h : i < xs.length) : rd xs (i : Int) = xs[i] := by
  simp [rd, List.getD_eq_getElem?_getD, h]
theorem rd_mem (xs : List Int) (i : Int) (h0 : 0 ≤ i) (h : i < xs.length) : rd xs i ∈ xs := by
  obtain ⟨n, rfl⟩ := Int.eq_ofNat_of_zero_le h0
  rw [rd_nat xs n (by omega)]; exact List.getElem_mem _
/-! The sets of digits: their sums and sizes, as plain lists. -/
def bit (m : Int) (d : Nat) : Int := m / 2 ^ d % 2
def Sc (m : Int) : Nat → Int
  | 0 => 0
  | c + 1 => bit m (9 - c) * ((9 - c : Nat) : Int) + Sc m c
def Cc (m : Int) : Nat → Int
  | 0 => 0
  | c + 1 => bit m (9 - c) + Cc m c
def ML : Nat → List Int
  | 0 => []
  | r + 1 => (1024 - 2 * ((r : Int) + 1)) :: ML r
def okS (s n m : Int) : Bool := Sc m 9 == s && Cc m 9 == n
def sets (s n : Int) : List Int := (ML 512).filter (okS s n)
theorem bit_01 (m : Int) (d : Nat) : bit m d = 0 ∨ bit m d = 1 := by unfold bit; omega
theorem ML_mem {m : Int} : ∀ {r : Nat}, r ≤ 512 → m ∈ ML r → 0 ≤ m ∧ m < 1024 ∧ m % 2 = 0 ∧ 1024 - 2 * (r : Int) ≤ m := by
  intro r
  induction r with
  | zero => intro _ h; simp [ML] at h
  | succ r ih =>
    intro h1 h2
    simp only [ML, List.mem_cons] at h2
    rcases h2 with h2 | h2
    · omega
    · have := ih (by omega) h2; omega
theorem ML_length : ∀ r, (ML r).length = r := by
  intro r
  induction r with
  | zero => rfl
  | succ r ih => simp [ML, ih]
theorem sets_length (s n : Int) : (sets s n).length ≤ 512 := by
  have := List.length_filter_le (okS s n) (ML 512)
  rw [ML_length] at this; exact this
theorem Sc_range (m : Int) : ∀ c ≤ 9, 0 ≤ Sc m c ∧ Sc m c ≤ 9 * c := by
  intro c
  induction c with
  | zero => intro _; simp [Sc]
  | succ c ih =>
    intro h
    have := ih (by omega)
    have hb := bit_01 m (9 - c)
    simp only [Sc]
    rcases hb with hb | hb <;> rw [hb] <;> omega
theorem Cc_range (m : Int) : ∀ c ≤ 9, 0 ≤ Cc m c ∧ Cc m c ≤ c := by
  intro c
  induction c with
  | zero => intro _; simp [Cc]
  | succ c ih =>
    intro h
    have := ih (by omega)
    have hb := bit_01 m (9 - c)
    simp only [Cc]
    omega
theorem shr_bit {m : Int} (h0 : 0 ≤ m) (d : Nat) (hd : d ≤ 64) : Int.tmod (shr .i64 m (d : Int)) 2 = bit m d := by
  have e : shr .i64 m (d : Int) = m / 2 ^ d := by
    unfold shr
    rw [show min (d : Int).toNat IntKind.i64.bits = d from by simp [IntKind.bits]; omega]
  rw [e, Int.tmod_eq_emod_of_nonneg (Int.ediv_nonneg h0 (Int.pow_nonneg (by decide)))]
  rfl
theorem shr_nat (m : Int) (d : Nat) (hd : d ≤ 64) : shr .i64 m (d : Int) = m / 2 ^ d := by
  unfold shr
  rw [show min (d : Int).toNat IntKind.i64.bits = d from by simp [IntKind.bits]; omega]
theorem and1_bit {x : Int} (h0 : 0 ≤ x) (h1 : x < 4611686018427387904) : Go.bits .and .i64 x 1 = x % 2 := by
  have := bits_mask .i64 62 (by decide) (fun n h h' => by rw [IntKind.wrap_i64]; omega) 1 (by decide) x h0 h1
  simpa using this
theorem l1In_f (a b c : Int) : spec_l1In.f a b c = some (decide (b ≤ a ∧ a ≤ c)) := by
  unfold spec_l1In.f
  by_cases h : a ≥ b
  · rw [if_pos h]; simp; omega
  · rw [if_neg h]; simp; omega
theorem sp_in (s n : Int) (acc : List Int) (m : Int) (hm0 : 0 ≤ m) (hm1 : m < 1024) (r : List Int) : ∀ (c : Nat), c ≤ 9 → ∀ a b : Int, 0 ≤ a → a ≤ 1000 → 0 ≤ b → b ≤ 1000 → a + 9 * c ≤ 1000 → b + c ≤ 1000 →
    Ev (fun k => if a + Sc m c = s then (if b + Cc m c = n then (if acc.length < 17592186044416 then (spec_l16Masks.l0 k s n (acc ++ [m]) (wrap64 (m + 2))) else (none)) else (spec_l16Masks.l0 k s n acc (wrap64 (m + 2)))) else (spec_l16Masks.l0 k s n acc (wrap64 (m + 2)))) r →
    Ev (fun k => spec_l16Masks.l1 k s n acc m a b (10 - (c : Int))) r := by
  intro c
  induction c with
  | zero =>
    intro _ a b _ _ _ _ _ _ H
    refine Ev.step (fun k => ?_) H
    simp only [spec_l16Masks.l1, Sc, Cc]
    rw [if_neg (by omega)]
    simp only [Int.add_zero]
  | succ c ih =>
    intro hc a b ha ha1 hb hb1 hA hB H
    have e : (10 - ((c + 1 : Nat) : Int)) = ((9 - c : Nat) : Int) := by omega
    have e' : wrap64 (((9 - c : Nat) : Int) + 1) = 10 - (c : Int) := by rw [w64 (by omega) (by omega)]; omega
    rw [e]
    rcases bit_01 m (9 - c) with hb0 | hb0
    · refine Ev.step (f := fun k => spec_l16Masks.l1 k s n acc m a b (10 - (c : Int))) (fun k => ?_) (ih (by omega) a b ha ha1 hb hb1 (by omega) (by omega) ?_)
      · rw [spec_l16Masks.l1]
        rw [if_pos (by omega), if_pos (by omega), shr_bit hm0 _ (by omega), hb0, if_neg (by decide), e']
      · simp only [Sc, Cc, hb0, Int.zero_mul, Int.zero_add] at H
        exact H
    · refine Ev.step (f := fun k => spec_l16Masks.l1 k s n acc m (a + ((9 - c : Nat) : Int)) (b + 1) (10 - (c : Int))) (fun k => ?_) (ih (by omega) _ _ (by omega) (by omega) (by omega) (by omega) (by omega) (by omega) ?_)
      · rw [spec_l16Masks.l1]
        rw [if_pos (by omega), if_pos (by omega), shr_bit hm0 _ (by omega), hb0, if_pos rfl, e', w64 (by omega) (by omega), w64 (by omega) (by omega)]
      · simp only [Sc, Cc, hb0, Int.one_mul, ← Int.add_assoc] at H
        exact H
theorem sp_out (s n : Int) : ∀ (r : Nat) (acc : List Int), r ≤ 512 → acc.length + r ≤ 600 →
    Ev (fun k => spec_l16Masks.l0 k s n acc (1024 - 2 * (r : Int))) (acc ++ (ML r).filter (okS s n)) := by
  intro r
  induction r with
  | zero =>
    intro acc _ _
    refine Ev.step (f := fun _ => some acc) (fun k => ?_) ((Ev.now _).eq (by simp [ML]))
    rw [spec_l16Masks.l0]; rw [if_neg (by omega)]
  | succ r ih =>
    intro acc h1 h2
    generalize hm : (1024 - 2 * ((r + 1 : Nat) : Int)) = m
    have hw : wrap64 (m + 2) = 1024 - 2 * (r : Int) := by rw [w64 (by omega) (by omega)]; omega
    refine Ev.step (f := fun k => spec_l16Masks.l1 k s n acc m 0 0 1) (fun k => ?_) ?_
    · rw [spec_l16Masks.l0]; rw [if_pos (by omega)]
    · refine sp_in s n acc m (by omega) (by omega) _ 9 (by omega) 0 0 (by omega) (by omega) (by omega) (by omega) (by omega) (by omega) ?_
      rw [hw]
      simp only [Int.zero_add]
      have hML : ML (r + 1) = m :: ML r := by simp only [ML]; rw [← hm]; congr 1
      by_cases c1 : Sc m 9 = s
      · by_cases c2 : Cc m 9 = n
        · refine Ev.ifp c1 (Ev.ifp c2 (Ev.ifp (by omega) ((ih (acc ++ [m]) (by omega) (by simp; omega)).eq ?_)))
          rw [hML, List.filter_cons_of_pos (by simp [okS, c1, c2])]; simp
        · refine Ev.ifp c1 (Ev.ifn c2 ((ih acc (by omega) (by omega)).eq ?_))
          rw [hML, List.filter_cons_of_neg (by simp [okS, c2])]
      · refine Ev.ifn c1 ((ih acc (by omega) (by omega)).eq ?_)
        rw [hML, List.filter_cons_of_neg (by simp [okS, c1])]
/-- What SumSets answers. -/
def setsV (s n : Int) : List Int := if 0 ≤ s ∧ s ≤ 45 ∧ 0 ≤ n ∧ n ≤ 9 then sets s n else []
theorem setsV_length (s n : Int) : (setsV s n).length ≤ 512 := by
  unfold setsV; split
  · exact sets_length s n
  · simp
theorem spec_sets (s n : Int) : Ev (fun k => spec_SumSets.f k s n) (setsV s n) := by
  unfold spec_SumSets.f
  refine Ev.bindc (l1In_f s 0 45) ?_
  by_cases c1 : 0 ≤ s ∧ s ≤ 45
  · refine Ev.ifp (by simpa using c1) (Ev.bindc (l1In_f n 0 9) ?_)
    by_cases c2 : 0 ≤ n ∧ n ≤ 9
    · refine Ev.ifp (by simpa using c2) (Ev.bind (a := sets s n) ?_ ((Ev.now _).eq ?_))
      · unfold spec_l16Masks.f
        exact (sp_out s n 512 [] (by omega) (by simp)).eq (by simp [sets])
      · unfold setsV; rw [if_pos ⟨c1.1, c1.2, c2⟩]
    · refine Ev.ifn (by simpa using c2) ((Ev.now _).eq ?_)
      unfold setsV; rw [if_neg (by omega)]
  · refine Ev.ifn (by simpa using c1) ((Ev.now _).eq ?_)
    unfold setsV; rw [if_neg (by omega)]
theorem ones_ML : ∀ m ∈ ML 512, bits_OnesCount.f (IntKind.u64.wrap m) = some (Cc m 9) := by decide +kernel
theorem im_in (s n : Int) (acc : List Int) (m : Int) (hm0 : 0 ≤ m) (hm1 : m < 1024) (r : List Int) : ∀ (c : Nat), c ≤ 9 → ∀ a : Int, 0 ≤ a → a + 9 * c ≤ 1000 →
    Ev (fun k => if a + Sc m c = s then ((bits_OnesCount.f (IntKind.u64.wrap m)).bind fun t => (if t = n then (if acc.length < 17592186044416 then (impl_SumSets.l0 k s n (acc ++ [m]) (wrap64 (m + 2))) else (none)) else (impl_SumSets.l0 k s n acc (wrap64 (m + 2))))) else (impl_SumSets.l0 k s n acc (wrap64 (m + 2)))) r →
    Ev (fun k => impl_SumSets.l1 k s n acc m a (10 - (c : Int))) r := by
  intro c
  induction c with
  | zero =>
    intro _ a _ _ H
    refine Ev.step (fun k => ?_) H
    simp only [impl_SumSets.l1, Sc]
    rw [if_neg (by omega)]
    simp only [Int.add_zero]
  | succ c ih =>
    intro hc a ha hA H
    have e : (10 - ((c + 1 : Nat) : Int)) = ((9 - c : Nat) : Int) := by omega
    have e' : wrap64 (((9 - c : Nat) : Int) + 1) = 10 - (c : Int) := by rw [w64 (by omega) (by omega)]; omega
    have hq : 0 ≤ m / 2 ^ (9 - c) := Int.ediv_nonneg hm0 (Int.pow_nonneg (by decide))
    have hq1 : m / 2 ^ (9 - c) ≤ m := Int.ediv_le_self _ hm0
    have hbit : Go.bits .and .i64 (shr .i64 m ((9 - c : Nat) : Int)) 1 = bit m (9 - c) := by
      rw [shr_nat m _ (by omega), and1_bit hq (by omega)]; rfl
    rw [e]
    refine Ev.step (f := fun k => impl_SumSets.l1 k s n acc m (a + bit m (9 - c) * ((9 - c : Nat) : Int)) (10 - (c : Int))) (fun k => ?_) (ih (by omega) _ ?_ ?_ ?_)
    · rw [impl_SumSets.l1]
      rw [if_pos (by omega), if_pos (by omega), hbit, e', Int.mul_comm ((9 - c : Nat) : Int)]
      rcases bit_01 m (9 - c) with hb0 | hb0 <;> rw [hb0]
      · simp only [Int.zero_mul]; rw [w64 (x := 0) (by omega) (by omega), w64 (by omega) (by omega)]
      · simp only [Int.one_mul]; rw [w64 (x := ((9 - c : Nat) : Int)) (by omega) (by omega), w64 (by omega) (by omega)]
    · rcases bit_01 m (9 - c) with hb0 | hb0 <;> rw [hb0] <;> omega
    · rcases bit_01 m (9 - c) with hb0 | hb0 <;> rw [hb0] <;> omega
    · simp only [Sc, ← Int.add_assoc] at H
      exact H
theorem im_out (s n : Int) : ∀ (r : Nat) (acc : List Int), r ≤ 512 → acc.length + r ≤ 600 → (∀ m ∈ ML r, bits_OnesCount.f (IntKind.u64.wrap m) = some (Cc m 9)) →
    Ev (fun k => impl_SumSets.l0 k s n acc (1024 - 2 * (r : Int))) (acc ++ (ML r).filter (okS s n)) := by
  intro r
  induction r with
  | zero =>
    intro acc _ _ _
    refine Ev.step (f := fun _ => some acc) (fun k => ?_) ((Ev.now _).eq (by simp [ML]))
    rw [impl_SumSets.l0]; rw [if_neg (by omega)]
  | succ r ih =>
    intro acc h1 h2 hO
    generalize hm : (1024 - 2 * ((r + 1 : Nat) : Int)) = m
    have hw : wrap64 (m + 2) = 1024 - 2 * (r : Int) := by rw [w64 (by omega) (by omega)]; omega
    have hML : ML (r + 1) = m :: ML r := by simp only [ML]; rw [← hm]; congr 1
    have hOm := hO m (by rw [hML]; exact List.mem_cons_self)
    have hOr : ∀ m ∈ ML r, bits_OnesCount.f (IntKind.u64.wrap m) = some (Cc m 9) := fun x hx => hO x (by rw [hML]; exact List.mem_cons_of_mem _ hx)
    refine Ev.step (f := fun k => impl_SumSets.l1 k s n acc m 0 1) (fun k => ?_) ?_
    · rw [impl_SumSets.l0]; rw [if_pos (by omega)]
    · refine im_in s n acc m (by omega) (by omega) _ 9 (by omega) 0 (by omega) (by omega) ?_
      rw [hw]
      simp only [Int.zero_add]
      by_cases c1 : Sc m 9 = s
      · refine Ev.ifp c1 (Ev.bindc hOm ?_)
        by_cases c2 : Cc m 9 = n
        · refine Ev.ifp c2 (Ev.ifp (by omega) ((ih (acc ++ [m]) (by omega) (by simp; omega) hOr).eq ?_))
          rw [hML, List.filter_cons_of_pos (by simp [okS, c1, c2])]; simp
        · refine Ev.ifn c2 ((ih acc (by omega) (by omega) hOr).eq ?_)
          rw [hML, List.filter_cons_of_neg (by simp [okS, c2])]
      · refine Ev.ifn c1 ((ih acc (by omega) (by omega) hOr).eq ?_)
        rw [hML, List.filter_cons_of_neg (by simp [okS, c1])]
theorem impl_sets (s n : Int) : Ev (fun k => impl_SumSets.f k s n) (setsV s n) := by
  have no : ∀ b : Bool, b = true → ¬ (0 ≤ s ∧ s ≤ 45 ∧ 0 ≤ n ∧ n ≤ 9) → Ev (fun k => impl_SumSets.j0 k s n b) (setsV s n) := by
    intro b hb h
    refine Ev.step (f := fun _ => some []) (fun k => ?_) ((Ev.now _).eq ?_)
    · rw [impl_SumSets.j0]; rw [if_pos hb]
    · unfold setsV; rw [if_neg h]
  unfold impl_SumSets.f
  by_cases c1 : s < 0
  · exact Ev.ifp c1 (no _ rfl (by omega))
  refine Ev.ifn c1 ?_
  by_cases c2 : s > 45
  · exact Ev.ifp c2 (no _ rfl (by omega))
  refine Ev.ifn c2 ?_
  by_cases c3 : n < 0
  · exact Ev.ifp c3 (no _ rfl (by omega))
  refine Ev.ifn c3 ?_
  by_cases c4 : n > 9
  · exact no _ (by simpa using c4) (by omega)
  refine Ev.step (f := fun k => impl_SumSets.l0 k s n [] 0) (fun k => ?_) ((im_out s n 512 [] (by omega) (by simp) ones_ML).eq ?_)
  · rw [impl_SumSets.j0]; rw [if_neg (by simpa using c4)]
  · unfold setsV; rw [if_pos (by omega)]; simp [sets]
theorem setsV_mem {s n m : Int} (h : m ∈ setsV s n) : 0 ≤ m ∧ m < 1024 ∧ m % 2 = 0 ∧ Sc m 9 = s ∧ Cc m 9 = n ∧ m ∈ ML 512 := by
  unfold setsV at h
  split at h
  · unfold sets at h
    rw [List.mem_filter] at h
    have := ML_mem (by omega) h.1
    have h2 := h.2
    simp [okS] at h2
    exact ⟨this.1, this.2.1, this.2.2.1, h2.1, h2.2, h.1⟩
  · simp at h
theorem sameInts_l (a b : List Int) (h : a.length = b.length) (hl : a.length ≤ 140737488351232) : ∀ (d i : Nat), a.length = i + d → Ev (fun k => laws_sameInts.l0 k a b i) (decide (a.drop i = b.drop i)) := by
  intro d
  induction d with
  | zero =>
    intro i hi
    refine Ev.step (f := fun _ => some (decide (a.drop i = b.drop i))) (fun k => ?_) (Ev.now _)
    rw [laws_sameInts.l0]; rw [if_neg (by omega), List.drop_eq_nil_of_le (by omega), List.drop_eq_nil_of_le (by omega)]; simp
  | succ d ih =>
    intro i hi
    have ha : i < a.length := by omega
    have hb : i < b.length := by omega
    have hw : wrap64 ((i : Int) + 1) = ((i + 1 : Nat) : Int) := by rw [w64 (by omega) (by omega)]; omega
    by_cases c : a[i] = b[i]
    · refine Ev.step (f := fun k => laws_sameInts.l0 k a b ((i + 1 : Nat) : Int)) (fun k => ?_) ((ih (i + 1) (by omega)).eq ?_)
      · rw [laws_sameInts.l0]; rw [if_pos (by omega), if_pos (by omega), if_pos (by omega), rd_nat a i ha, rd_nat b i hb, if_pos c, hw]
      · rw [List.drop_eq_getElem_cons ha, List.drop_eq_getElem_cons hb, c]; simp only [List.cons.injEq, true_and]
    · refine Ev.step (f := fun k => some false) (fun k => ?_) ((Ev.now _).eq ?_)
      · rw [laws_sameInts.l0]; rw [if_pos (by omega), if_pos (by omega), if_pos (by omega), rd_nat a i ha, rd_nat b i hb, if_neg c]
      · rw [List.drop_eq_getElem_cons ha, List.drop_eq_getElem_cons hb]; simp only [List.cons.injEq, c, false_and, decide_false]
theorem sameInts_ev (a b : List Int) (hl : a.length ≤ 140737488351232) : Ev (fun k => laws_sameInts.f k a b) (decide (a = b)) := by
  unfold laws_sameInts.f
  by_cases h : a.length = b.length
  · exact Ev.ifp (by omega) ((sameInts_l a b h hl a.length 0 (by omega)).eq (by simp))
  · refine Ev.ifn (by omega) ((Ev.now false).eq ?_)
    symm; simp; intro e; exact h (by rw [e])
theorem sameInts_self (a : List Int) (hl : a.length ≤ 140737488351232) : Ev (fun k => laws_sameInts.f k a a) true := (sameInts_ev a a hl).eq (by simp)
/-- What SumBounds answers. -/
def boundsV (n : Int) : Int × Int := if 0 ≤ n ∧ n ≤ 9 then (n * (n + 1) / 2, n * (19 - n) / 2) else (-1, -1)
theorem nine {n : Int} (h : 0 ≤ n ∧ n ≤ 9) : n = 0 ∨ n = 1 ∨ n = 2 ∨ n = 3 ∨ n = 4 ∨ n = 5 ∨ n = 6 ∨ n = 7 ∨ n = 8 ∨ n = 9 := by omega
theorem spec_bounds (n : Int) : spec_SumBounds.f n = some (boundsV n) := by
  unfold spec_SumBounds.f boundsV
  rw [l1In_f]
  simp only [Option.bind_some]
  by_cases h : 0 ≤ n ∧ n ≤ 9
  · rcases nine h with rfl | rfl | rfl | rfl | rfl | rfl | rfl | rfl | rfl | rfl <;> decide +kernel
  · rw [if_neg (by simpa using h), if_neg h]
theorem impl_bounds (n : Int) : Ev (fun k => impl_SumBounds.f k n) (boundsV n) := by
  by_cases h : 0 ≤ n ∧ n ≤ 9
  · rcases nine h with rfl | rfl | rfl | rfl | rfl | rfl | rfl | rfl | rfl | rfl <;> exact Ev.of (fun k => impl_SumBounds.mono _ k) (k := 20) (by decide +kernel)
  · have no : ∀ b : Bool, b = true → Ev (fun k => impl_SumBounds.j0 k n b) (boundsV n) := by
      intro b hb
      refine Ev.step (f := fun _ => some (-1, -1)) (fun k => ?_) ((Ev.now _).eq ?_)
      · rw [impl_SumBounds.j0]; rw [if_pos hb]
      · unfold boundsV; rw [if_neg h]
    unfold impl_SumBounds.f
    by_cases c : n < 0
    · exact Ev.ifp c (no _ rfl)
    · exact Ev.ifn c (no _ (by simp; omega))
def WL : List Int := [0, 2, 4, 6, 8, 10, 12, 14, 16, 20, 22, 24, 26, 28, 30, 32, 40, 44, 46, 48, 52, 54, 56, 58, 60, 62, 64, 80, 88, 92, 94, 96, 104, 108, 110, 112, 116, 118, 120, 122, 124, 126, 128, 160, 176, 184, 188, 190, 192, 208, 216, 220, 222, 224, 232, 236, 238, 240, 244, 246, 248, 250, 252, 254, 256, 320, 352, 368, 376, 380, 382, 384, 416, 432, 440, 444, 446, 448, 464, 472, 476, 478, 480, 488, 492, 494, 496, 500, 502, 504, 506, 508, 510, 512, 640, 704, 736, 752, 760, 764, 766, 768, 832, 864, 880, 888, 892, 894, 896, 928, 944, 952, 956, 958, 960, 976, 984, 988, 990, 992, 1000, 1004, 1006, 1008, 1012, 1014, 1016, 1018, 1020, 1022]
theorem WL_mem : WL.all (fun m => (ML 512).contains m) = true := by decide +kernel
theorem WL_all : ((List.range 10).all fun n => (List.range 46).all fun s => !(decide ((boundsV n).1 ≤ s) && decide ((s : Int) ≤ (boundsV n).2)) || WL.any (okS s n)) = true := by decide +kernel
theorem ML_bounds : (ML 512).all (fun m => decide ((boundsV (Cc m 9)).1 ≤ Sc m 9) && decide (Sc m 9 ≤ (boundsV (Cc m 9)).2)) = true := by decide +kernel
theorem bounds_45 : ((List.range 10).all fun n => decide (0 ≤ (boundsV n).1) && decide ((boundsV n).2 ≤ 45)) = true := by decide +kernel
theorem parts (s n : Int) (h : 0 ≤ n ∧ n ≤ 9) : decide (((setsV s n).length : Int) > 0) = decide ((boundsV n).1 ≤ s ∧ s ≤ (boundsV n).2) := by
  have h45 : 0 ≤ (boundsV n).1 ∧ (boundsV n).2 ≤ 45 := by
    have := List.all_eq_true.1 bounds_45 n.toNat (List.mem_range.2 (by omega))
    rw [show ((n.toNat : Nat) : Int) = n by omega] at this
    simpa using this
  rw [decide_eq_decide]
  constructor
  · intro hl
    obtain ⟨m, hm⟩ := List.exists_mem_of_length_pos (show 0 < (setsV s n).length by omega)
    have h1 := setsV_mem hm
    have h2 := List.all_eq_true.1 ML_bounds m h1.2.2.2.2.2
    rw [h1.2.2.2.1, h1.2.2.2.2.1] at h2
    simpa using h2
  · intro hb
    have h1 := List.all_eq_true.1 WL_all n.toNat (List.mem_range.2 (by omega))
    have h2 := List.all_eq_true.1 h1 s.toNat (List.mem_range.2 (by omega))
    rw [show ((n.toNat : Nat) : Int) = n by omega, show ((s.toNat : Nat) : Int) = s by omega] at h2
    simp only [hb.1, hb.2, decide_true, Bool.and_self, Bool.not_true, Bool.false_or, List.any_eq_true] at h2
    obtain ⟨m, hm, ho⟩ := h2
    have hM : m ∈ ML 512 := by simpa using List.all_eq_true.1 WL_mem m hm
    have : m ∈ setsV s n := by
      unfold setsV sets
      rw [if_pos (by omega)]
      exact List.mem_filter.2 ⟨hM, ho⟩
    have := List.length_pos_of_mem this
    omega
/-! The reader of draws: only that each number drawn lies in its range. -/
structure Byts (b : List Int) : Prop where
  len : b.length ≤ 2000
  val : ∀ x ∈ b, 0 ≤ x ∧ x ≤ 255
theorem xor_nn {a b : Int} (ha : 0 ≤ a) (ha1 : a < 4611686018427387904) (hb : 0 ≤ b) (hb1 : b < 4611686018427387904) : 0 ≤ Go.bits .xor .i64 a b := by
  obtain ⟨m, rfl⟩ := Int.eq_ofNat_of_zero_le ha
  obtain ⟨n, rfl⟩ := Int.eq_ofNat_of_zero_le hb
  have h : (m ^^^ n) < 2 ^ 62 := Nat.xor_lt_two_pow (by omega) (by omega)
  have hm : m % 2 ^ IntKind.i64.bits = m := Nat.mod_eq_of_lt (show m < 2 ^ 64 by omega)
  have hn : n % 2 ^ IntKind.i64.bits = n := Nat.mod_eq_of_lt (show n < 2 ^ 64 by omega)
  simp only [Go.bits, BitVec.ofInt_natCast, BitVec.toNat_xor, BitVec.toNat_ofNat, hm, hn]
  rw [IntKind.wrap_i64]
  omega
theorem open_ok (l : List Int) (h : l.length ≤ maxLen) (hb : ∀ x ∈ l, (Lit.int .u8 x).wf = true) : ∃ b, spec_l20Open.f l = some (b, 0) ∧ Byts b := by
  unfold spec_l20Open.f
  by_cases c : (l.length : Int) > 2000
  · rw [if_pos c, if_pos (by omega)]
    exact ⟨_, rfl, by rw [List.length_take]; omega, fun x hx => wf_u8 (hb x (List.mem_of_mem_take hx))⟩
  · rw [if_neg c]
    exact ⟨_, rfl, by omega, fun x hx => wf_u8 (hb x hx)⟩
theorem pick_any {b : List Int} (hb : Byts b) {p : Int} (hp : 0 ≤ p) (hp1 : p ≤ 1000000) (n : Int) (hn1 : n ≤ 9223372036854775807) :
    ∃ r, Ev (fun k => spec_l20Rd_pick.f k b p n) (r, p + 1) ∧ 0 ≤ r ∧ (1 ≤ n → r < n) ∧ (n < 1 → r = 0) := by
  have hw : wrap64 (p + 1) = p + 1 := w64 (by omega) (by omega)
  have hw2 : wrap64 (p + 1 - 1) = p := by rw [w64 (by omega) (by omega)]; omega
  have hl := hb.len
  unfold spec_l20Rd_pick.f
  by_cases c : n < 1
  · refine ⟨0, Ev.ifp c (Ev.step (f := fun _ => some (0, p + 1)) (fun k => ?_) (Ev.now _)), by omega, by omega, fun _ => rfl⟩
    rw [spec_l20Rd_pick.j0]; rw [if_pos rfl, hw]
  · by_cases c0 : b.length = 0
    · refine ⟨0, Ev.ifn c (Ev.step (f := fun _ => some (0, p + 1)) (fun k => ?_) (Ev.now _)), by omega, by omega, fun _ => rfl⟩
      rw [spec_l20Rd_pick.j0]
      rw [c0, if_pos (by decide), hw]
    · have c0' : ((b.length : Int) == 0) = false := by simp; intro h; simp [h] at c0
      by_cases c1 : p < (b.length : Int)
      · have hm := hb.val _ (rd_mem b p hp c1)
        refine ⟨Int.tmod (rd b p) n, Ev.ifn c (Ev.step (f := fun _ => some (Int.tmod (rd b p) n, p + 1)) (fun k => ?_) (Ev.now _)), Int.tmod_nonneg _ hm.1, fun h => Int.tmod_lt_of_pos _ (by omega), fun h => absurd h c⟩
        rw [spec_l20Rd_pick.j0]
        rw [c0', if_neg (by decide), hw, hw2, if_pos c1, if_pos hp, if_neg (by omega), w64 (by omega) (by omega)]
      · have hL : (0 : Int) < (b.length : Int) := by omega
        have e1 := Int.tmod_nonneg (b.length : Int) hp
        have e2 := Int.tmod_lt_of_pos p hL
        have k7 : wrap64 (p * 7) = p * 7 := w64 (by omega) (by omega)
        have k73 : wrap64 (p * 7 + 3) = p * 7 + 3 := w64 (by omega) (by omega)
        have e3 := Int.tmod_nonneg (b.length : Int) (show 0 ≤ p * 7 + 3 by omega)
        have e4 := Int.tmod_lt_of_pos (p * 7 + 3) hL
        have m1 := hb.val _ (rd_mem b _ e1 e2)
        have m2 := hb.val _ (rd_mem b _ e3 e4)
        have d0 : Int.tdiv p (b.length : Int) = p / (b.length : Int) := Int.tdiv_eq_ediv_of_nonneg hp
        have d1 : 0 ≤ p / (b.length : Int) := Int.ediv_nonneg hp (by omega)
        have d2 : p / (b.length : Int) ≤ p := Int.ediv_le_self _ hp
        generalize hx1 : rd b (Int.tmod p (b.length : Int)) = x1 at m1
        generalize hx2 : rd b (Int.tmod (p * 7 + 3) (b.length : Int)) = x2 at m2
        generalize hq : p / (b.length : Int) = q at d0 d1 d2
        have hX : 0 ≤ Go.bits .xor .i64 (x1 * 131 + x2 * 1117 + p * 29 + q * 53) ((x1 * 131 + x2 * 1117 + p * 29 + q * 53) / 64) := xor_nn (by omega) (by omega) (by omega) (by omega)
        generalize hR : Go.bits .xor .i64 (x1 * 131 + x2 * 1117 + p * 29 + q * 53) ((x1 * 131 + x2 * 1117 + p * 29 + q * 53) / 64) = X at hX
        refine ⟨Int.tmod X n, Ev.ifn c (Ev.step (f := fun _ => some (Int.tmod X n, p + 1)) (fun k => ?_) (Ev.now _)), Int.tmod_nonneg _ hX, fun h => Int.tmod_lt_of_pos _ (by omega), fun h => absurd h c⟩
        rw [spec_l20Rd_pick.j0]
        rw [c0', if_neg (by decide), hw, hw2, if_neg c1, if_neg (by omega), k7, k73, if_pos e1, if_pos e2, if_pos e3, if_pos e4, if_neg (by omega), hx1, hx2, d0]
        rw [w64 (x := x1) (by omega) (by omega), w64 (x := x2) (by omega) (by omega), w64 (x := q) (by omega) (by omega), w64 (x := x1 * 131) (by omega) (by omega), w64 (x := x2 * 1117) (by omega) (by omega), w64 (x := p * 29) (by omega) (by omega), w64 (x := q * 53) (by omega) (by omega)]
        rw [w64 (x := x1 * 131 + x2 * 1117) (by omega) (by omega), w64 (x := x1 * 131 + x2 * 1117 + p * 29) (by omega) (by omega), w64 (x := x1 * 131 + x2 * 1117 + p * 29 + q * 53) (by omega) (by omega)]
        rw [Int.tdiv_eq_ediv_of_nonneg (by omega), w64 (by omega) (by omega), hR]
theorem l20Sum_any {b : List Int} (hb : Byts b) : ∃ s n p, Ev (fun k => spec_l20Sum.f k b 0) (s, n, p) := by
  obtain ⟨r1, e1, _, _, _⟩ := pick_any hb (p := 0) (by omega) (by omega) 11 (by omega)
  obtain ⟨r2, e2, _, _, _⟩ := pick_any hb (p := 0 + 1) (by omega) (by omega) 9 (by omega)
  obtain ⟨r3, e3, _, _, _⟩ := pick_any hb (p := 0 + 1 + 1) (by omega) (by omega) 47 (by omega)
  obtain ⟨r4, e4, _, _, _⟩ := pick_any hb (p := 0 + 1 + 1 + 1) (by omega) (by omega) 3 (by omega)
  generalize hn : wrap64 (r1 - (wrap64 (Int.tdiv r2 8))) = n
  obtain ⟨r5, e5, _, _, _⟩ := pick_any hb (p := 0 + 1 + 1 + 1 + 1) (by omega) (by omega) (mx 1 (wrap64 ((wrap64 ((boundsV n).2 - (boundsV n).1)) + 1))) (by unfold mx; split <;> (try unfold wrap64) <;> omega)
  unfold spec_l20Sum.f
  by_cases c1 : (boundsV n).1 ≥ 0
  · by_cases c2 : r4 > 0
    · refine ⟨_, _, _, Ev.bind e1 (Ev.bind e2 (Ev.bindc (o := spec_SumBounds.f _) (by rw [hn]; exact spec_bounds n) (Ev.bind e3 (Ev.ifp c1 (Ev.bind e4 (Ev.ifp c2 (Ev.bind e5 (Ev.now _))))))))⟩
    · refine ⟨_, _, _, Ev.bind e1 (Ev.bind e2 (Ev.bindc (o := spec_SumBounds.f _) (by rw [hn]; exact spec_bounds n) (Ev.bind e3 (Ev.ifp c1 (Ev.bind e4 (Ev.ifn c2 (Ev.now _)))))))⟩
  · refine ⟨_, _, _, Ev.bind e1 (Ev.bind e2 (Ev.bindc (o := spec_SumBounds.f _) (by rw [hn]; exact spec_bounds n) (Ev.bind e3 (Ev.ifn c1 (Ev.now _)))))⟩
theorem alive_ev : Ev (fun k => laws_alive.f k) true := Ev.of (fun k => laws_alive.mono k) (k := 20) (by decide +kernel)
theorem FnSumParts : laws_FnSumParts.Pure := by
  intro l h _ hb
  apply Ev.rounds
  unfold laws_FnSumParts.f
  by_cases c0 : (l.length : Int) > 1048576
  · exact Ev.ifp c0 (Ev.now _)
  refine Ev.ifn c0 ?_
  obtain ⟨b, e, hB⟩ := open_ok l h hb
  obtain ⟨s, n, p, e1⟩ := l20Sum_any hB
  have hl := setsV_length s n
  refine Ev.bind (a := (s, n)) (by unfold spec_DrawSumSets.f; exact Ev.bindc e (Ev.bind e1 (Ev.now _))) ?_
  refine Ev.bind (impl_sets s n) (Ev.bind (spec_sets s n) (Ev.bind (sameInts_self _ (by omega)) (Ev.ifp rfl (Ev.bind (impl_bounds n) ?_))))
  by_cases c : 0 ≤ n ∧ n ≤ 9
  · have hp := parts s n c
    have h45 : 0 ≤ (boundsV n).1 := by
      have := List.all_eq_true.1 bounds_45 n.toNat (List.mem_range.2 (by omega))
      rw [show ((n.toNat : Nat) : Int) = n by omega] at this
      simp at this; omega
    refine Ev.ifn (by omega) ?_
    by_cases c1 : s ≥ (boundsV n).1
    · refine Ev.ifp c1 ((Ev.now _).eq ?_)
      rw [hp]; simp [show (boundsV n).1 ≤ s from c1]
    · refine Ev.ifn c1 ((Ev.now _).eq ?_)
      rw [hp]; simp; omega
  · have e9 : boundsV n = (-1, -1) := by unfold boundsV; rw [if_neg c]
    exact Ev.ifp (by rw [e9]; decide) (Ev.bind alive_ev (Ev.now _))

end Go.Proofs.Ytbnpdiahogigiaa.Pure
