/- For every board BoardColours of the program answers what BoardColours of the reference answers. No conditions beyond the fields being ints. -/
import Derived.Test.YtbdkmkbkggnekaaPFnExactBoardColoursx1
namespace Go.Proofs.Ytbdkmkbkggnekaa.Pure
open Go.RowKit Go.Proofs.Ytbdkmkbkggnekaa.PFnExactBoardColours Go.Proofs.YtbdkmkbkggnekaaW.PrintWords Go.Proofs.YtbdkmkbkggnekaaW.PrintLast Go.Proofs.YtbdkmkbkggnekaaW.PrintMore
set_option linter.unusedVariables false
set_option linter.unusedSimpArgs false
/-! Ev: small steps. -/
theorem _root_.Go.Proofs.YtbdkmkbkggnekaaW.PrintWords.Ev.ifp {α : Type} {c : Prop} [Decidable c] {g f : Nat → Option α} {r : α} (hc : c) (h : Ev g r) : Ev (fun k => if c then g k else f k) r :=
  Ev.congr (fun _ => if_pos hc) h
theorem _root_.Go.Proofs.YtbdkmkbkggnekaaW.PrintWords.Ev.ifn {α : Type} {c : Prop} [Decidable c] {g f : Nat → Option α} {r : α} (hc : ¬ c) (h : Ev f r) : Ev (fun k => if c then g k else f k) r :=
  Ev.congr (fun _ => if_neg hc) h
theorem _root_.Go.Proofs.YtbdkmkbkggnekaaW.PrintWords.Ev.bindc {α β : Type} {o : Option α} {f : Nat → α → Option β} {a : α} {r : β} (h : o = some a) (k : Ev (fun n => f n a) r) : Ev (fun n => o.bind (f n)) r := by
  subst h; exact k
theorem _root_.Go.Proofs.YtbdkmkbkggnekaaW.PrintWords.Ev.eq {α : Type} {g : Nat → Option α} {r r' : α} (h : Ev g r) (e : r = r') : Ev g r' := e ▸ h
theorem _root_.Go.Proofs.YtbdkmkbkggnekaaW.PrintWords.Ev.cst {α : Type} {o : Option α} {r : α} (h : o = some r) : Ev (fun _ => o) r := ⟨0, fun _ _ => h⟩
theorem w64 {x : Int} (h0 : -9223372036854775808 ≤ x) (h1 : x ≤ 9223372036854775807) : wrap64 x = x := by unfold wrap64; omega
theorem wf_i64 {x : Int} (h : (Lit.int .i64 x).wf = true) : -9223372036854775808 ≤ x ∧ x ≤ 9223372036854775807 := by
  have h2 : (decide (IntKind.i64.min ≤ x) && decide (x ≤ IntKind.i64.max)) = true := h
  simp [IntKind.min, IntKind.max, IntKind.bits, IntKind.signed] at h2
  exact h2
theorem wf_u8 {x : Int} (h : (Lit.int .u8 x).wf = true) : 0 ≤ x ∧ x ≤ 255 := by
  have h2 : (decide (IntKind.u8.min ≤ x) && decide (x ≤ IntKind.u8.max)) = true := h
  simp [IntKind.min, IntKind.max, IntKind.bits, IntKind.signed] at h2
  omega
theorem rd_nat (xs : List Int) (i : Nat) (h : i < xs.length) : rd xs (i : Int) = xs[i] := by
  simp [rd, List.getD_eq_getElem?_getD, h]
theorem rd_mem (xs : List Int) (i : Int) (h0 : 0 ≤ i) (h : i < xs.length) : rd xs i ∈ xs := by
  obtain ⟨n, rfl⟩ := Int.eq_ofNat_of_zero_le h0
  rw [rd_nat xs n (by omega)]; exact List.getElem_mem _
theorem l1In_f (a b c : Int) : spec_l1In.f a b c = some (decide (b ≤ a ∧ a ≤ c)) := by
  unfold spec_l1In.f
  by_cases h : a ≥ b
  · rw [if_pos h]; simp; omega
  · rw [if_neg h]; simp; omega
/-! Binary digits. -/
def bit (m : Int) (d : Nat) : Int := m / 2 ^ d % 2
theorem bit_01 (m : Int) (d : Nat) : bit m d = 0 ∨ bit m d = 1 := by unfold bit; omega
theorem shr_bit {m : Int} (h0 : 0 ≤ m) (d : Nat) (hd : d ≤ 64) : Int.tmod (shr .i64 m (d : Int)) 2 = bit m d := by
  have e : shr .i64 m (d : Int) = m / 2 ^ d := by
    unfold shr
    rw [show min (d : Int).toNat IntKind.i64.bits = d from by simp [IntKind.bits]; omega]
  rw [e, Int.tmod_eq_emod_of_nonneg (Int.ediv_nonneg h0 (Int.pow_nonneg (by decide)))]
  rfl
theorem shr_nat (m : Int) (d : Nat) (hd : d ≤ 64) : shr .i64 m (d : Int) = m / 2 ^ d := by
  unfold shr
  rw [show min (d : Int).toNat IntKind.i64.bits = d from by simp [IntKind.bits]; omega]
theorem and1_bit {x : Int} (h0 : 0 ≤ x) (h1 : x < 4611686018427387904) : Go.bits .and .i64 x 1 = x % 2 := by
  have := bits_mask .i64 62 (by decide) (fun n h h' => by rw [IntKind.wrap_i64]; omega) 1 (by decide) x h0 h1
  simpa using this
theorem bit_nat (a d : Nat) : bit (a : Int) d = if a.testBit d then 1 else 0 := by
  unfold bit
  rw [Nat.testBit_eq_decide_div_mod_eq]
  have e : ((a : Int) / 2 ^ d % 2) = ((a / 2 ^ d % 2 : Nat) : Int) := by push_cast; rfl
  rw [e]
  by_cases h : a / 2 ^ d % 2 = 1
  · simp [h]
  · have : a / 2 ^ d % 2 = 0 := by omega
    simp [this]
/-- What BoardValid answers. -/
def boardV (r c h : Int) : Bool := decide (1 ≤ r ∧ 1 ≤ c ∧ r ≤ 24 ∧ c ≤ 24 ∧ r * c ≤ 24 ∧ 0 ≤ h ∧ h < 2 ^ (r * c).toNat)
theorem mul_bd {r c : Int} (h1 : 1 ≤ r) (h2 : r ≤ 24) (h3 : 1 ≤ c) (h4 : c ≤ 24) : 1 ≤ r * c ∧ r * c ≤ 576 ∧ wrap64 (r * c) = r * c := by
  have a : 0 < r * c := Int.mul_pos (by omega) (by omega)
  have b : r * c ≤ 24 * 24 := Int.mul_le_mul h2 h4 (by omega) (by omega)
  exact ⟨by omega, by omega, w64 (by omega) (by omega)⟩
theorem shl1_all : ∀ n ∈ List.range 25, shl .i64 1 (n : Int) = 2 ^ n ∧ 1 ≤ (2 : Int) ^ n ∧ (2 : Int) ^ n ≤ 16777216 := by decide +kernel
theorem shl1 (n : Int) (h0 : 0 ≤ n) (h1 : n ≤ 24) : shl .i64 1 n = 2 ^ n.toNat ∧ 1 ≤ (2 : Int) ^ n.toNat ∧ (2 : Int) ^ n.toNat ≤ 16777216 := by
  have := shl1_all n.toNat (List.mem_range.2 (by omega))
  rw [show ((n.toNat : Nat) : Int) = n by omega] at this
  exact this
theorem impl_board (r c h : Int) : impl_BoardValid.f r c h = some (boardV r c h) := by
  unfold impl_BoardValid.f boardV
  by_cases c1 : r < 1
  · rw [if_pos c1]; simp; omega
  rw [if_neg c1]
  by_cases c2 : c < 1
  · rw [if_pos c2]; simp; omega
  rw [if_neg c2]
  by_cases c3 : r > 24
  · rw [if_pos c3]; simp; omega
  rw [if_neg c3]
  by_cases c4 : c > 24
  · rw [if_pos c4]; simp; omega
  rw [if_neg c4]
  have hm := mul_bd (r := r) (c := c) (by omega) (by omega) (by omega) (by omega)
  rw [hm.2.2]
  generalize r * c = n at hm
  by_cases c5 : n > 24
  · rw [if_pos c5]; simp; omega
  rw [if_neg c5]
  have hs := shl1 n (by omega) (by omega)
  by_cases c6 : h ≥ 0
  · rw [if_pos c6, if_pos (by omega), hs.1]; simp only [Option.some.injEq, decide_eq_decide]; omega
  · rw [if_neg c6]; simp; omega
theorem spec_board (r c h : Int) : spec_BoardValid.f r c h = some (boardV r c h) := by
  unfold spec_BoardValid.f boardV
  rw [l1In_f, l1In_f]
  simp only [Option.bind_some]
  by_cases c1 : 1 ≤ r ∧ r ≤ 24
  · rw [if_pos (by simpa using c1)]
    by_cases c2 : 1 ≤ c ∧ c ≤ 24
    · rw [if_pos (by simpa using c2)]
      have hm := mul_bd (r := r) (c := c) (by omega) (by omega) (by omega) (by omega)
      rw [hm.2.2]
      generalize r * c = n at hm
      by_cases c5 : n ≤ 24
      · have hs := shl1 n (by omega) (by omega)
        rw [if_pos c5, if_pos (by omega), hs.1, l1In_f, w64 (by omega) (by omega)]
        simp only [Option.bind_some, Option.some.injEq, decide_eq_decide]; omega
      · rw [if_neg c5]; simp; omega
    · rw [if_neg (by simpa using c2)]; simp; omega
  · rw [if_neg (by simpa using c1)]; simp; omega
/-! The colours of the free cells. -/
def par (c : Int) (i : Nat) : Int := ((i : Int) / c + (i : Int) % c) % 2
def cnt (c h p : Int) (a d : Nat) : Int := ((List.range' a d).countP (fun i => bit h i == 0 && par c i == p) : Nat)
theorem par_01 (c : Int) (i : Nat) : par c i = 0 ∨ par c i = 1 := by unfold par; omega
theorem cnt_succ (c h p : Int) (a d : Nat) : cnt c h p a (d + 1) = (if bit h a = 0 ∧ par c a = p then 1 else 0) + cnt c h p (a + 1) d := by
  unfold cnt
  rw [List.range'_succ, List.countP_cons]
  by_cases h1 : bit h a = 0
  · by_cases h2 : par c a = p
    · simp [h1, h2]; omega
    · simp [h1, h2]
  · simp [h1]
theorem cnt_le (c h p : Int) (a d : Nat) : 0 ≤ cnt c h p a d ∧ cnt c h p a d ≤ d := by
  unfold cnt
  have := List.countP_le_length (p := fun i => bit h i == 0 && par c i == p) (l := List.range' a d)
  rw [List.length_range'] at this
  omega
/-- What BoardColours answers. -/
def coloursV (r c h : Int) : Int × Int := if boardV r c h = true then (cnt c h 0 0 (r * c).toNat, cnt c h 1 0 (r * c).toNat) else (-1, -1)
theorem par_eq (c : Int) (i : Nat) (hc : 1 ≤ c) (hc2 : c ≤ 24) (hi : i ≤ 1000) : Int.tmod (wrap64 ((wrap64 (Int.tdiv (i : Int) c)) + (Int.tmod (i : Int) c))) 2 = par c i := by
  have h1 : 0 ≤ (i : Int) / c := Int.ediv_nonneg (by omega) (by omega)
  have h2 : (i : Int) / c ≤ i := Int.ediv_le_self _ (by omega)
  have h3 : 0 ≤ (i : Int) % c := Int.emod_nonneg _ (by omega)
  have h4 : (i : Int) % c < c := Int.emod_lt_of_pos _ (by omega)
  rw [Int.tdiv_eq_ediv_of_nonneg (by omega), Int.tmod_eq_emod_of_nonneg (show (0 : Int) ≤ i by omega), w64 (x := (i : Int) / c) (by omega) (by omega), w64 (by omega) (by omega), Int.tmod_eq_emod_of_nonneg (by omega)]
  rfl
theorem spec_colours_l (r c h : Int) (n : Nat) (hn : wrap64 (r * c) = n) (hn2 : n ≤ 24) (hc : 1 ≤ c) (hc2 : c ≤ 24) (hh : 0 ≤ h) : ∀ (d i : Nat) (e o : Int), n = i + d → 0 ≤ e → e + d ≤ 1000 → 0 ≤ o → o + d ≤ 1000 →
    Ev (fun k => spec_BoardColours.l0 k e o i r c h) (e + cnt c h 0 i d, o + cnt c h 1 i d) := by
  intro d
  induction d with
  | zero =>
    intro i e o hi _ _ _ _
    refine Ev.step (fun k => by rw [spec_BoardColours.l0]) ?_
    rw [hn]
    exact Ev.ifn (by omega) (Ev.eq (Ev.now _) (by simp [cnt]))
  | succ d ih =>
    intro i e o hi h1 h2 h3 h4
    have hw : wrap64 ((i : Int) + 1) = ((i + 1 : Nat) : Int) := by rw [w64 (by omega) (by omega)]; omega
    refine Ev.step (fun k => by rw [spec_BoardColours.l0]) ?_
    rw [hn, hw, shr_bit hh i (by omega), par_eq c i hc hc2 (by omega), w64 (x := e + 1) (by omega) (by omega), w64 (x := o + 1) (by omega) (by omega), cnt_succ, cnt_succ]
    refine Ev.ifp (by omega) (Ev.ifp (by omega) ?_)
    rcases bit_01 h i with hb | hb <;> rw [hb]
    · refine Ev.ifn (by omega) (Ev.ifn (by omega) ?_)
      rcases par_01 c i with hp | hp <;> rw [hp]
      · exact Ev.ifp rfl (Ev.eq (ih (i + 1) (e + 1) o (by omega) (by omega) (by omega) (by omega) (by omega)) (by simp; omega))
      · exact Ev.ifn (by omega) (Ev.eq (ih (i + 1) e (o + 1) (by omega) (by omega) (by omega) (by omega) (by omega)) (by simp; omega))
    · exact Ev.ifp rfl (Ev.eq (ih (i + 1) e o (by omega) (by omega) (by omega) (by omega) (by omega)) (by simp))
theorem impl_colours_l (c h : Int) (n : Nat) (hn2 : n ≤ 24) (hc : 1 ≤ c) (hc2 : c ≤ 24) (hh : 0 ≤ h) (hh2 : h < 4611686018427387904) : ∀ (d i : Nat) (e o : Int), n = i + d → 0 ≤ e → e + d ≤ 1000 → 0 ≤ o → o + d ≤ 1000 →
    Ev (fun k => impl_BoardColours.l0 k e o i n c h) (e + cnt c h 0 i d, o + cnt c h 1 i d) := by
  intro d
  induction d with
  | zero =>
    intro i e o hi _ _ _ _
    exact Ev.step (fun k => by rw [impl_BoardColours.l0]) (Ev.ifn (by omega) (Ev.eq (Ev.now _) (by simp [cnt])))
  | succ d ih =>
    intro i e o hi h1 h2 h3 h4
    have hw : wrap64 ((i : Int) + 1) = ((i + 1 : Nat) : Int) := by rw [w64 (by omega) (by omega)]; omega
    have hb0 : Go.bits .and .i64 (shr .i64 h (i : Int)) 1 = bit h i := by
      have hq : h / 2 ^ i ≤ h := Int.ediv_le_self _ hh
      rw [shr_nat _ _ (by omega), and1_bit (Int.ediv_nonneg hh (Int.pow_nonneg (by decide))) (by omega)]
      rfl
    refine Ev.step (fun k => by rw [impl_BoardColours.l0]) ?_
    rw [hw, hb0, par_eq c i hc hc2 (by omega), w64 (x := e + 1) (by omega) (by omega), w64 (x := o + 1) (by omega) (by omega), cnt_succ, cnt_succ]
    refine Ev.ifp (by omega) (Ev.ifp (by omega) ?_)
    rcases bit_01 h i with hb | hb <;> rw [hb]
    · refine Ev.ifp rfl (Ev.ifn (by omega) ?_)
      rcases par_01 c i with hp | hp <;> rw [hp]
      · exact Ev.ifp rfl (Ev.eq (ih (i + 1) (e + 1) o (by omega) (by omega) (by omega) (by omega) (by omega)) (by simp; omega))
      · exact Ev.ifn (by omega) (Ev.ifp rfl (Ev.eq (ih (i + 1) e (o + 1) (by omega) (by omega) (by omega) (by omega) (by omega)) (by simp; omega)))
    · exact Ev.ifn (by omega) (Ev.eq (ih (i + 1) e o (by omega) (by omega) (by omega) (by omega) (by omega)) (by simp))
theorem boardV_ok {r c h : Int} (hv : boardV r c h = true) : 1 ≤ r ∧ 1 ≤ c ∧ r ≤ 24 ∧ c ≤ 24 ∧ 1 ≤ r * c ∧ r * c ≤ 24 ∧ 0 ≤ h ∧ h < 2 ^ (r * c).toNat ∧ h < 16777216 ∧ wrap64 (r * c) = r * c := by
  unfold boardV at hv
  rw [decide_eq_true_eq] at hv
  obtain ⟨h1, h2, h3, h4, h5, h6, h7⟩ := hv
  have hm := mul_bd (r := r) (c := c) (by omega) (by omega) (by omega) (by omega)
  have hs := shl1 (r * c) (by omega) (by omega)
  exact ⟨h1, h2, h3, h4, hm.1, h5, h6, h7, by omega, hm.2.2⟩
theorem spec_colours (r c h : Int) : Ev (fun k => spec_BoardColours.f k r c h) (coloursV r c h) := by
  unfold spec_BoardColours.f coloursV
  refine Ev.bindc (spec_board r c h) ?_
  by_cases hv : boardV r c h = true
  · obtain ⟨h1, h2, h3, h4, h5, h6, h7, h8, h9, h10⟩ := boardV_ok hv
    refine Ev.ifp hv (Ev.eq (spec_colours_l r c h (r * c).toNat (by rw [h10]; omega) (by omega) h2 h4 h7 (r * c).toNat 0 0 0 (by omega) (by omega) (by omega) (by omega) (by omega)) ?_)
    rw [if_pos hv]; simp
  · exact Ev.ifn hv (Ev.eq (Ev.now _) (by rw [if_neg hv]))
theorem impl_colours (r c h : Int) : Ev (fun k => impl_BoardColours.f k r c h) (coloursV r c h) := by
  unfold impl_BoardColours.f coloursV
  refine Ev.bindc (impl_board r c h) ?_
  by_cases hv : boardV r c h = true
  · obtain ⟨h1, h2, h3, h4, h5, h6, h7, h8, h9, h10⟩ := boardV_ok hv
    refine Ev.ifp hv ?_
    have := impl_colours_l c h (r * c).toNat (by omega) h2 h4 h7 (by omega) (r * c).toNat 0 0 0 (by omega) (by omega) (by omega) (by omega) (by omega)
    rw [h10, if_pos hv]
    rw [show (((r * c).toNat : Nat) : Int) = r * c by omega] at this
    simpa using this
  · exact Ev.ifn hv (Ev.eq (Ev.now _) (by rw [if_neg hv]))
theorem FnExactBoardColours (a0 a1 a2 : Int) (w0 : (Lit.int .i64 a0).wf = true) (w1 : (Lit.int .i64 a1).wf = true) (w2 : (Lit.int .i64 a2).wf = true) : ∃ k, laws_FnExactBoardColours.f k a0 a1 a2 = some true := by
  apply Ev.rounds
  unfold laws_FnExactBoardColours.f
  exact Ev.bindc rfl (Ev.bind (spec_colours a0 a1 a2) (Ev.bindc rfl (Ev.bind (impl_colours a0 a1 a2) (Ev.ifp rfl (Ev.ifp rfl (Ev.now _))))))

end Go.Proofs.Ytbdkmkbkggnekaa.Pure
