/- For every line ClueOf of the program answers what ClueOf of the reference answers, in memory of its own, and leaves its argument as it was. No conditions beyond the argument's type. -/
import Derived.Test.YtnmlcbdbbnaabaaPFnExactClueOfx2
namespace Go.Proofs.Ytnmlcbdbbnaabaa.Pure
open Go.RowKit Go.Proofs.Ytnmlcbdbbnaabaa.PFnExactClueOf Go.Proofs.YtnmlcbdbbnaabaaW.PrintWords Go.Proofs.YtnmlcbdbbnaabaaW.PrintLast Go.Proofs.YtnmlcbdbbnaabaaW.PrintMore
set_option linter.unusedVariables false
set_option linter.unusedSimpArgs false
/-! Ev: small steps. -/
theorem _root_.Go.Proofs.YtnmlcbdbbnaabaaW.PrintWords.Ev.ifp {α : Type} {c : Prop} [Decidable c] {g f : Nat → Option α} {r : α} (hc : c) (h : Ev g r) : Ev (fun k => if c then g k else f k) r :=
  Ev.congr (fun _ => if_pos hc) h
theorem _root_.Go.Proofs.YtnmlcbdbbnaabaaW.PrintWords.Ev.ifn {α : Type} {c : Prop} [Decidable c] {g f : Nat → Option α} {r : α} (hc : ¬ c) (h : Ev f r) : Ev (fun k => if c then g k else f k) r :=
  Ev.congr (fun _ => if_neg hc) h
theorem _root_.Go.Proofs.YtnmlcbdbbnaabaaW.PrintWords.Ev.bindc {α β : Type} {o : Option α} {f : Nat → α → Option β} {a : α} {r : β} (h : o = some a) (k : Ev (fun n => f n a) r) : Ev (fun n => o.bind (f n)) r := by
  subst h; exact k
theorem _root_.Go.Proofs.YtnmlcbdbbnaabaaW.PrintWords.Ev.eq {α : Type} {g : Nat → Option α} {r r' : α} (h : Ev g r) (e : r = r') : Ev g r' := e ▸ h
theorem _root_.Go.Proofs.YtnmlcbdbbnaabaaW.PrintWords.Ev.cst {α : Type} {o : Option α} {r : α} (h : o = some r) : Ev (fun _ => o) r := ⟨0, fun _ _ => h⟩
theorem w64 {x : Int} (h0 : -9223372036854775808 ≤ x) (h1 : x ≤ 9223372036854775807) : wrap64 x = x := by unfold wrap64; omega
theorem wf_i64 {x : Int} (h : (Lit.int .i64 x).wf = true) : -9223372036854775808 ≤ x ∧ x ≤ 9223372036854775807 := by
  have h2 : (decide (IntKind.i64.min ≤ x) && decide (x ≤ IntKind.i64.max)) = true := h
  simp [IntKind.min, IntKind.max, IntKind.bits, IntKind.signed] at h2
  exact h2
theorem wf_u8 {x : Int} (h : (Lit.int .u8 x).wf = true) : 0 ≤ x ∧ x ≤ 255 := by
  have h2 : (decide (IntKind.u8.min ≤ x) && decide (x ≤ IntKind.u8.max)) = true := h
  simp [IntKind.min, IntKind.max, IntKind.bits, IntKind.signed] at h2
  omega
theorem rd_nat (xs : List Int) (i : Nat) (h : i < xs.length) : rd xs (i : Int) = xs[i] := by
  simp [rd, List.getD_eq_getElem?_getD, h]
theorem rd_mem (xs : List Int) (i : Int) (h0 : 0 ≤ i) (h : i < xs.length) : rd xs i ∈ xs := by
  obtain ⟨n, rfl⟩ := Int.eq_ofNat_of_zero_le h0
  rw [rd_nat xs n (by omega)]; exact List.getElem_mem _
/-- The clue of a line, r cells being filled ahead of it. -/
def clueR : Int → List Bool → List Int
  | r, [] => if 0 < r then [r] else []
  | r, true :: l => clueR (r + 1) l
  | r, false :: l => if 0 < r then r :: clueR 0 l else clueR 0 l
/-- What ClueOf answers. -/
def clueL (l : List Bool) : List Int := if l.length ≤ 8 then clueR 0 l else []
theorem rdOf_nat (xs : List Bool) (i : Nat) (h : i < xs.length) : rdOf false xs (i : Int) = xs[i] := by
  simp [rdOf, List.getD_eq_getElem?_getD, h]
theorem clueR_f : ∀ (l : List Bool) (r : Int), clueR r (l ++ [false]) = clueR r l := by
  intro l
  induction l with
  | nil => intro r; simp [clueR]
  | cons b l ih =>
    intro r
    cases b
    · simp only [List.cons_append, clueR, ih]
    · simp only [List.cons_append, clueR, ih]
theorem clueR_ft : ∀ (l : List Bool) (r : Int), clueR r (l ++ [false] ++ [true]) = clueR r l ++ [1] := by
  intro l
  induction l with
  | nil =>
    intro r
    by_cases h : 0 < r <;> simp [clueR, h]
  | cons b l ih =>
    intro r
    cases b
    · simp only [List.cons_append, clueR]
      rw [ih]
      by_cases h : 0 < r <;> simp [h]
    · simp only [List.cons_append, clueR]
      exact ih _
theorem clueR_tt : ∀ (l : List Bool) (r : Int), 0 ≤ r → ∃ ys z, clueR r (l ++ [true]) = ys ++ [z] ∧ clueR r (l ++ [true] ++ [true]) = ys ++ [z + 1] := by
  intro l
  induction l with
  | nil =>
    intro r hr
    refine ⟨[], r + 1, ?_, ?_⟩
    · simp [clueR]; omega
    · simp [clueR]; omega
  | cons b l ih =>
    intro r hr
    cases b
    · obtain ⟨ys, z, h1, h2⟩ := ih 0 (by omega)
      by_cases h : 0 < r
      · refine ⟨r :: ys, z, ?_, ?_⟩
        · simp only [List.cons_append, clueR, h, if_true, h1]
        · simp only [List.cons_append, clueR, h, if_true]
          rw [h2]
      · refine ⟨ys, z, ?_, ?_⟩
        · simp only [List.cons_append, clueR, h, if_false, h1]
        · simp only [List.cons_append, clueR, h, if_false]
          rw [h2]
    · obtain ⟨ys, z, h1, h2⟩ := ih (r + 1) (by omega)
      exact ⟨ys, z, by simpa only [List.cons_append, clueR] using h1, by simpa only [List.cons_append, clueR] using h2⟩
theorem clueR_le : ∀ (l : List Bool) (r : Int), 0 ≤ r → ∀ x ∈ clueR r l, 1 ≤ x ∧ x ≤ r + l.length := by
  intro l
  induction l with
  | nil =>
    intro r hr x hx
    simp only [clueR] at hx
    split at hx
    · simp at hx; simp; omega
    · simp at hx
  | cons b l ih =>
    intro r hr x hx
    cases b
    · simp only [clueR] at hx
      split at hx
      · rcases List.mem_cons.1 hx with hx | hx
        · simp; omega
        · have := ih 0 (by omega) x hx; simp; omega
      · have := ih 0 (by omega) x hx; simp; omega
    · simp only [clueR] at hx
      have := ih (r + 1) (by omega) x hx; simp; omega
theorem clueR_len : ∀ (l : List Bool) (r : Int), (clueR r l).length ≤ l.length + 1 := by
  intro l
  induction l with
  | nil => intro r; simp only [clueR]; split <;> simp
  | cons b l ih =>
    intro r
    cases b
    · simp only [clueR]
      have := ih 0
      split <;> (simp; omega)
    · simp only [clueR]
      have := ih (r + 1)
      simp; omega
theorem clueL_len (l : List Bool) : (clueL l).length ≤ 9 := by
  unfold clueL
  split
  · have := clueR_len l 0; omega
  · simp
theorem spec_clueof_end (l : List Bool) (out : List Int) (run : Int) (h8 : l.length ≤ 8) : Ev (fun k => spec_ClueOf.l0 k l out run ((l.length + 1 : Nat) : Int)) out := by
  refine Ev.step (fun k => by rw [spec_ClueOf.l0]) (Ev.ifn (by omega) ?_)
  exact Ev.step (fun k => by rw [spec_ClueOf.j1]) (Ev.ifn (by decide) (Ev.now _))
theorem spec_clueof_l (l : List Bool) (h8 : l.length ≤ 8) : ∀ (d i : Nat) (run : Int) (out : List Int), l.length = i + d → 0 ≤ run → run ≤ i → out.length ≤ i →
    Ev (fun k => spec_ClueOf.l0 k l out run i) (out ++ clueR run (l.drop i)) := by
  intro d
  induction d with
  | zero =>
    intro i run out hi h0 h1 h2
    have hw : wrap64 ((i : Int) + 1) = ((l.length + 1 : Nat) : Int) := by rw [w64 (by omega) (by omega)]; omega
    refine Ev.step (fun k => by rw [spec_ClueOf.l0]) (Ev.ifp (by omega) ?_)
    refine Ev.step (fun k => by rw [spec_ClueOf.j1]) (Ev.ifp (by simp; omega) (Ev.ifn (by omega) ?_))
    refine Ev.step (fun k => by rw [spec_ClueOf.j2]) (Ev.ifn (by decide) ?_)
    rw [hw, List.drop_eq_nil_of_le (by omega)]
    by_cases c : run > 0
    · refine Ev.ifp c (Ev.ifp (by omega) (Ev.eq (spec_clueof_end l _ _ h8) ?_))
      simp [clueR, show 0 < run from c]
    · refine Ev.ifn c (Ev.eq (spec_clueof_end l _ _ h8) ?_)
      have : ¬ 0 < run := c
      simp [clueR, this]
  | succ d ih =>
    intro i run out hi h0 h1 h2
    have hlt : i < l.length := by omega
    have hw : wrap64 ((i : Int) + 1) = ((i + 1 : Nat) : Int) := by rw [w64 (by omega) (by omega)]; omega
    refine Ev.step (fun k => by rw [spec_ClueOf.l0]) (Ev.ifp (by omega) ?_)
    refine Ev.step (fun k => by rw [spec_ClueOf.j1]) (Ev.ifp (by simp; omega) (Ev.ifp (by omega) (Ev.ifp (by omega) ?_)))
    refine Ev.step (fun k => by rw [spec_ClueOf.j2]) ?_
    rw [hw, rdOf_nat l i hlt, List.drop_eq_getElem_cons hlt]
    cases hb : l[i]
    · refine Ev.ifn (by decide) ?_
      by_cases c : run > 0
      · refine Ev.ifp c (Ev.ifp (by omega) (Ev.eq (ih (i + 1) 0 (out ++ [run]) (by omega) (by omega) (by omega) (by simp; omega)) ?_))
        simp [clueR, show 0 < run from c]
      · have hr : run = 0 := by omega
        refine Ev.ifn c (Ev.eq (ih (i + 1) run out (by omega) (by omega) (by omega) (by omega)) ?_)
        simp [clueR, hr]
    · refine Ev.ifp rfl ?_
      rw [w64 (x := run + 1) (by omega) (by omega)]
      refine Ev.eq (ih (i + 1) (run + 1) out (by omega) (by omega) (by omega) (by omega)) ?_
      simp [clueR]
theorem spec_clueof (l : List Bool) (hl : l.length ≤ 140737488351232) : Ev (fun k => spec_ClueOf.f k l) (clueL l) := by
  unfold spec_ClueOf.f clueL
  by_cases h8 : l.length ≤ 8
  · exact Ev.eq (spec_clueof_l l h8 l.length 0 0 [] (by omega) (by omega) (by omega) (by simp)) (by rw [if_pos h8]; simp)
  · refine Ev.step (fun k => by rw [spec_ClueOf.l0]) (Ev.ifp (by omega) ?_)
    exact Ev.step (fun k => by rw [spec_ClueOf.j1]) (Ev.ifn (by simp; omega) (Ev.eq (Ev.now _) (by rw [if_neg h8])))
theorem impl_clueof_l (l : List Bool) (h8 : l.length ≤ 8) : ∀ (d i : Nat), l.length = i + d →
    Ev (fun k => impl_ClueOf.l0 k l (clueR 0 (l.take i)) l l.length i) (clueR 0 l) := by
  intro d
  induction d with
  | zero =>
    intro i hi
    refine Ev.step (fun k => by rw [impl_ClueOf.l0]) (Ev.ifn (by omega) (Ev.eq (Ev.now _) ?_))
    rw [List.take_of_length_le (by omega)]
  | succ d ih =>
    intro i hi
    have hlt : i < l.length := by omega
    have hw : wrap64 ((i : Int) + 1) = ((i + 1 : Nat) : Int) := by rw [w64 (by omega) (by omega)]; omega
    have hlen := clueR_len (l.take i) 0
    rw [List.length_take] at hlen
    have h1 := ih (i + 1) (by omega)
    have ht : l.take (i + 1) = l.take i ++ [l[i]] := by rw [List.take_succ_eq_append_getElem hlt]
    refine Ev.step (fun k => by rw [impl_ClueOf.l0]) (Ev.ifp (by omega) (Ev.ifp (by omega) (Ev.ifp (by omega) ?_)))
    rw [hw, rdOf_nat l i hlt]
    cases hb : l[i]
    · refine Ev.ifn (by decide) ?_
      rw [ht, hb, clueR_f] at h1
      exact h1
    · refine Ev.ifp rfl ?_
      by_cases c : (i : Int) > 0
      · have hlt1 : i - 1 < l.length := by omega
        have hw1 : wrap64 ((i : Int) - 1) = ((i - 1 : Nat) : Int) := by rw [w64 (by omega) (by omega)]; omega
        have ht1 : l.take i = l.take (i - 1) ++ [l[i - 1]] := by
          have := List.take_succ_eq_append_getElem hlt1
          rw [show i - 1 + 1 = i by omega] at this
          exact this
        rw [hw1, rdOf_nat l (i - 1) hlt1]
        refine Ev.ifp c (Ev.ifp (by omega) (Ev.ifp (by omega) ?_))
        cases hb1 : l[i - 1]
        · refine Ev.ifn (by decide) (Ev.ifp (by omega) ?_)
          rw [ht, hb, ht1, hb1, clueR_ft] at h1
          rw [ht1, hb1, clueR_f]
          exact h1
        · obtain ⟨ys, z, g1, g2⟩ := clueR_tt (l.take (i - 1)) 0 (by omega)
          have e1 : clueR 0 (l.take i) = ys ++ [z] := by rw [ht1, hb1]; exact g1
          have e2 : clueR 0 (l.take (i + 1)) = ys ++ [z + 1] := by rw [ht, hb, ht1, hb1]; exact g2
          have hz := clueR_le (l.take i) 0 (by omega) z (by rw [e1]; simp)
          rw [List.length_take] at hz
          rw [e1] at hlen ⊢
          rw [e2] at h1
          have hyl : (ys ++ [z]).length = ys.length + 1 := by simp
          have hw2 : wrap64 (((ys ++ [z]).length : Int) - 1) = ((ys.length : Nat) : Int) := by rw [w64 (by omega) (by omega)]; omega
          have hr : rd (ys ++ [z]) ((ys.length : Nat) : Int) = z := by rw [rd_nat _ _ (by omega)]; simp
          rw [hw2, hr, w64 (x := z + 1) (by omega) (by omega)]
          refine Ev.ifp rfl (Ev.ifp (by omega) (Ev.ifp (by omega) ?_))
          have hs : (ys ++ [z]).set ((ys.length : Nat) : Int).toNat (z + 1) = ys ++ [z + 1] := by
            rw [Int.toNat_natCast, List.set_append_right _ _ (Nat.le_refl _)]; simp
          rw [hs]; exact h1
      · have hi0 : i = 0 := by omega
        subst hi0
        refine Ev.ifn c (Ev.ifp (by omega) ?_)
        rw [ht, hb] at h1
        simpa [clueR] using h1
theorem impl_clueof (l : List Bool) (hl : l.length ≤ 140737488351232) : Ev (fun k => impl_ClueOf.f k l) (clueL l) := by
  unfold impl_ClueOf.f clueL
  by_cases h8 : l.length ≤ 8
  · refine Ev.ifn (by omega) (Ev.eq (?_ : Ev _ (clueR 0 l)) (by rw [if_pos h8]))
    have := impl_clueof_l l h8 l.length 0 (by omega)
    simpa [clueR] using this
  · exact Ev.ifp (by omega) (Ev.eq (Ev.now _) (by rw [if_neg h8]))
theorem eqIntS_l (a b : List Int) (h : a.length = b.length) (hl : a.length ≤ 140737488351232) : ∀ (d i : Nat), a.length = i + d → Ev (fun k => laws_eqIntS.l0 k a b i) (decide (a.drop i = b.drop i)) := by
  intro d
  induction d with
  | zero =>
    intro i hi
    refine Ev.step (f := fun _ => some (decide (a.drop i = b.drop i))) (fun k => ?_) (Ev.now _)
    rw [laws_eqIntS.l0]; rw [if_neg (by omega), List.drop_eq_nil_of_le (by omega), List.drop_eq_nil_of_le (by omega)]; simp
  | succ d ih =>
    intro i hi
    have ha : i < a.length := by omega
    have hb : i < b.length := by omega
    have hw : wrap64 ((i : Int) + 1) = ((i + 1 : Nat) : Int) := by rw [w64 (by omega) (by omega)]; omega
    by_cases c : a[i] = b[i]
    · refine Ev.step (f := fun k => laws_eqIntS.l0 k a b ((i + 1 : Nat) : Int)) (fun k => ?_) ((ih (i + 1) (by omega)).eq ?_)
      · rw [laws_eqIntS.l0]; rw [if_pos (by omega), if_pos (by omega), if_pos (by omega), rd_nat a i ha, rd_nat b i hb, if_pos c, hw]
      · rw [List.drop_eq_getElem_cons ha, List.drop_eq_getElem_cons hb, c]; simp only [List.cons.injEq, true_and]
    · refine Ev.step (f := fun k => some false) (fun k => ?_) ((Ev.now _).eq ?_)
      · rw [laws_eqIntS.l0]; rw [if_pos (by omega), if_pos (by omega), if_pos (by omega), rd_nat a i ha, rd_nat b i hb, if_neg c]
      · rw [List.drop_eq_getElem_cons ha, List.drop_eq_getElem_cons hb]; simp only [List.cons.injEq, c, false_and, decide_false]
theorem eqIntS_ev (a b : List Int) (hl : a.length ≤ 140737488351232) : Ev (fun k => laws_eqIntS.f k a b) (decide (a = b)) := by
  unfold laws_eqIntS.f
  by_cases h : a.length = b.length
  · exact Ev.ifp (by omega) ((eqIntS_l a b h hl a.length 0 (by omega)).eq (by simp))
  · refine Ev.ifn (by omega) ((Ev.now false).eq ?_)
    symm; simp; intro e; exact h (by rw [e])
theorem eqIntS_self (a : List Int) (hl : a.length ≤ 140737488351232) : Ev (fun k => laws_eqIntS.f k a a) true := (eqIntS_ev a a hl).eq (by simp)
/-- k, k + 1, .. -/
def upFrom (k : Int) : Nat → List Int
  | 0 => []
  | n + 1 => k :: upFrom (k + 1) n
theorem upFrom_length (n : Nat) : ∀ k, (upFrom k n).length = n := by
  induction n with
  | zero => intro k; rfl
  | succ n ih => intro k; simp [upFrom, ih]
theorem upFrom_get (n : Nat) : ∀ (k : Int) (i : Nat) (h : i < (upFrom k n).length), (upFrom k n)[i] = k + i := by
  induction n with
  | zero => intro k i h; simp [upFrom] at h
  | succ n ih =>
    intro k i h
    cases i with
    | zero => simp [upFrom]
    | succ i => simp only [upFrom, List.getElem_cons_succ]; rw [ih]; omega
theorem markIntS_l (n : Nat) : ∀ (d : Nat) (xs : List Int) (q : Int) (i : Nat), xs.length = n → n = i + d → 0 ≤ q → q + d ≤ 9223372036854775806 → n ≤ 140737488351232 →
    Ev (fun k => laws_markIntS.l0 k xs q i) (q + d, xs.take i ++ upFrom q d) := by
  intro d
  induction d with
  | zero =>
    intro xs q i hx hi h0 h1 hn
    refine Ev.step (f := fun _ => some (q, xs)) (fun k => ?_) ((Ev.now _).eq ?_)
    · rw [laws_markIntS.l0]; rw [if_neg (by omega)]
    · simp [upFrom]; exact (List.take_of_length_le (by omega)).symm
  | succ d ih =>
    intro xs q i hx hi h0 h1 hn
    have hw : wrap64 ((i : Int) + 1) = ((i + 1 : Nat) : Int) := by rw [w64 (by omega) (by omega)]; omega
    have hq : wrap64 (q + 1) = q + 1 := w64 (by omega) (by omega)
    refine Ev.step (f := fun k => laws_markIntS.l0 k (xs.set i q) (q + 1) ((i + 1 : Nat) : Int)) (fun k => ?_) ((ih (xs.set i q) (q + 1) (i + 1) (by simp [hx]) (by omega) (by omega) (by omega) hn).eq ?_)
    · rw [laws_markIntS.l0]; rw [if_pos (by omega), if_pos (by omega), hw, hq]; simp
    · refine Prod.ext (by simp; omega) ?_
      simp only [upFrom]
      rw [List.take_add_one, List.take_set_of_le (Nat.le_refl i)]
      simp [show i < xs.length by omega]
theorem markIntS_ev (xs : List Int) (q : Int) (h0 : 0 ≤ q) (h1 : q ≤ 1000000000) (hn : xs.length ≤ 140737488351232) :
    Ev (fun k => laws_markIntS.f k xs q) (q + xs.length, upFrom q xs.length) := by
  unfold laws_markIntS.f
  exact (markIntS_l xs.length xs.length xs q 0 rfl (by omega) h0 (by omega) hn).eq (by simp)
theorem heldIntS_l (q0 : Int) (h0 : 0 ≤ q0) (h1 : q0 ≤ 1000000000) (n : Nat) (hn : n ≤ 140737488351232) : ∀ (d i : Nat), n = i + d →
    Ev (fun k => laws_heldIntS.l0 k (upFrom q0 n) (q0 + i) i) (q0 + n) := by
  intro d
  induction d with
  | zero =>
    intro i hi
    refine Ev.step (f := fun _ => some (q0 + i)) (fun k => ?_) ((Ev.now _).eq (by omega))
    rw [laws_heldIntS.l0]; rw [upFrom_length, if_neg (by omega)]
  | succ d ih =>
    intro i hi
    have hw : wrap64 ((i : Int) + 1) = ((i + 1 : Nat) : Int) := by rw [w64 (by omega) (by omega)]; omega
    have hq : wrap64 (q0 + i + 1) = q0 + ((i + 1 : Nat) : Int) := by rw [w64 (by omega) (by omega)]; omega
    refine Ev.step (f := fun k => laws_heldIntS.l0 k (upFrom q0 n) (q0 + ((i + 1 : Nat) : Int)) ((i + 1 : Nat) : Int)) (fun k => ?_) (ih (i + 1) (by omega))
    rw [laws_heldIntS.l0]
    rw [upFrom_length, if_pos (by omega), if_pos (by omega), rd_nat _ i (by rw [upFrom_length]; omega), upFrom_get, if_pos rfl, hw, hq]
theorem heldIntS_ev (q : Int) (h0 : 0 ≤ q) (h1 : q ≤ 1000000000) (n : Nat) (hn : n ≤ 140737488351232) :
    Ev (fun k => laws_heldIntS.f k (upFrom q n) q) (q + n) := by
  unfold laws_heldIntS.f
  have h := heldIntS_l q h0 h1 n hn n 0 (by omega)
  simpa using h
theorem toBoolS_l (xs : List Bool) (hn : xs.length ≤ 140737488351232) : ∀ (d : Nat) (ys : List Bool) (i : Nat), ys.length = xs.length → xs.length = i + d →
    Ev (fun k => laws_toBoolS.l0 k xs ys i) (ys.take i ++ xs.drop i) := by
  intro d
  induction d with
  | zero =>
    intro ys i hy hi
    refine Ev.step (fun k => by rw [laws_toBoolS.l0]) (Ev.ifn (by omega) (Ev.eq (Ev.now _) ?_))
    rw [List.drop_eq_nil_of_le (by omega), List.take_of_length_le (by omega)]; simp
  | succ d ih =>
    intro ys i hy hi
    have hw : wrap64 ((i : Int) + 1) = ((i + 1 : Nat) : Int) := by rw [w64 (by omega) (by omega)]; omega
    have hlt : i < xs.length := by omega
    refine Ev.step (fun k => by rw [laws_toBoolS.l0]) (Ev.ifp (by omega) (Ev.ifp (by omega) (Ev.ifp (by omega) ?_)))
    rw [rdOf_nat xs i hlt, hw, Int.toNat_natCast]
    refine Ev.eq (ih (ys.set i xs[i]) (i + 1) (by simp [hy]) (by omega)) ?_
    rw [List.take_add_one, List.take_set_of_le (Nat.le_refl i), List.drop_eq_getElem_cons hlt]
    simp [show i < ys.length by omega]
theorem toBoolS_ev (xs : List Bool) (hn : xs.length ≤ 140737488351232) : Ev (fun k => laws_toBoolS.f k xs) xs := by
  unfold laws_toBoolS.f
  refine Ev.ifp (by omega) (Ev.ifp (by omega) ?_)
  have h := toBoolS_l xs hn xs.length (List.replicate xs.length false) 0 (by simp) (by omega)
  simpa using h
theorem eqBoolS_l (a : List Bool) (hl : a.length ≤ 140737488351232) : ∀ (d i : Nat), a.length = i + d → Ev (fun k => laws_eqBoolS.l0 k a a i) true := by
  intro d
  induction d with
  | zero =>
    intro i hi
    exact Ev.step (fun k => by rw [laws_eqBoolS.l0]) (Ev.ifn (by omega) (Ev.now _))
  | succ d ih =>
    intro i hi
    have hw : wrap64 ((i : Int) + 1) = ((i + 1 : Nat) : Int) := by rw [w64 (by omega) (by omega)]; omega
    refine Ev.step (fun k => by rw [laws_eqBoolS.l0]) (Ev.ifp (by omega) (Ev.ifp (by omega) (Ev.ifp (by omega) (Ev.ifn (by simp) ?_))))
    rw [hw]; exact ih (i + 1) (by omega)
theorem eqBoolS_self (a : List Bool) (hl : a.length ≤ 140737488351232) : Ev (fun k => laws_eqBoolS.f k a a) true := by
  unfold laws_eqBoolS.f
  exact Ev.ifp rfl (eqBoolS_l a hl a.length 0 (by omega))
theorem markBoolS_l (n : Nat) (hn : n ≤ 140737488351232) : ∀ (d : Nat) (xs : List Bool) (q : Int) (i : Nat), xs.length = n → n = i + d → 0 ≤ q → q + d ≤ 9223372036854775806 →
    ∃ r, Ev (fun k => laws_markBoolS.l0 k xs q i) r ∧ 0 ≤ r.1 := by
  intro d
  induction d with
  | zero =>
    intro xs q i hx hi h0 h1
    exact ⟨_, Ev.step (fun k => by rw [laws_markBoolS.l0]) (Ev.ifn (by omega) (Ev.now _)), h0⟩
  | succ d ih =>
    intro xs q i hx hi h0 h1
    have hw : wrap64 ((i : Int) + 1) = ((i + 1 : Nat) : Int) := by rw [w64 (by omega) (by omega)]; omega
    have hq : wrap64 (q + 1) = q + 1 := w64 (by omega) (by omega)
    obtain ⟨r, e, hr⟩ := ih (xs.set i ((Int.tmod q 3) == 0)) (q + 1) (i + 1) (by simp [hx]) (by omega) (by omega) (by omega)
    refine ⟨r, Ev.step (fun k => by rw [laws_markBoolS.l0]) ?_, hr⟩
    refine Ev.ifp (by omega) (Ev.ifp (by omega) ?_)
    rw [hw, hq, Int.toNat_natCast]; exact e
theorem markBoolS_ev (xs : List Bool) (q : Int) (h0 : 0 ≤ q) (h1 : q ≤ 1000000000) (hn : xs.length ≤ 140737488351232) : ∃ r, Ev (fun k => laws_markBoolS.f k xs q) r ∧ 0 ≤ r.1 := by
  unfold laws_markBoolS.f
  exact markBoolS_l xs.length hn xs.length xs q 0 rfl (by omega) h0 (by omega)
theorem FnExactClueOf (l : List Bool) (h : l.length ≤ 140737488351232) : ∃ k, laws_FnExactClueOf.f k l = some true := by
  apply Ev.rounds
  unfold laws_FnExactClueOf.f
  by_cases c0 : (l.length : Int) > 1048576
  · exact Ev.ifp c0 (Ev.now _)
  have hT := toBoolS_ev l (by omega)
  have hc := clueL_len l
  refine Ev.ifn c0 (Ev.bind hT (Ev.bind (spec_clueof l h) (Ev.bind hT (Ev.bind (impl_clueof l h) (Ev.bind (eqIntS_self _ (by omega)) (Ev.ifp rfl (Ev.bind hT (Ev.bind (eqBoolS_self l (by omega)) (Ev.ifp rfl ?_)))))))))
  obtain ⟨q, hq, hq0⟩ := markBoolS_ev l 1 (by omega) (by omega) (by omega)
  refine Ev.bind hq (Ev.ifn (by omega) (Ev.bind (eqIntS_self _ (by omega)) ?_))
  refine Ev.step (fun k => by rw [laws_FnExactClueOf.j0]) (Ev.ifn (by decide) ?_)
  refine Ev.bind (markIntS_ev (clueL l) 1 (by omega) (by omega) (by omega)) (Ev.bind (heldIntS_ev 1 (by omega) (by omega) _ (by omega)) ?_)
  refine Ev.ifn (by omega) (Ev.ifp rfl ?_)
  refine Ev.bind hT (Ev.bind (impl_clueof l h) (Ev.bind (eqIntS_self _ (by omega)) (Ev.ifp rfl ?_)))
  refine Ev.bind (heldIntS_ev 1 (by omega) (by omega) _ (by omega)) ?_
  exact Ev.ifn (by omega) (Ev.ifp rfl (Ev.now _))

end Go.Proofs.Ytnmlcbdbbnaabaa.Pure
