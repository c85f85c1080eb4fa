/- For every code: at the areas, the side and the stars that the code draws StarsFit answers what the reference answers; the first half of fitting stars fits, and the first star once more behind them does not. No conditions beyond the code being bytes. -/
import Derived.Test.YtcghheaelgjnfaaPFnStarsFitx7
namespace Go.Proofs.Ytcghheaelgjnfaa.Pure
open Go.RowKit Go.Proofs.Ytcghheaelgjnfaa.PFnStarsFit Go.Proofs.YtcghheaelgjnfaaW.PrintWords Go.Proofs.YtcghheaelgjnfaaW.PrintLast Go.Proofs.YtcghheaelgjnfaaW.PrintMore
set_option linter.unusedVariables false
set_option linter.unusedSimpArgs false
/-! Ev: small steps. -/
theorem _root_.Go.Proofs.YtcghheaelgjnfaaW.PrintWords.Ev.ifp {α : Type} {c : Prop} [Decidable c] {g f : Nat → Option α} {r : α} (hc : c) (h : Ev g r) : Ev (fun k => if c then g k else f k) r :=
  Ev.congr (fun _ => if_pos hc) h
theorem _root_.Go.Proofs.YtcghheaelgjnfaaW.PrintWords.Ev.ifn {α : Type} {c : Prop} [Decidable c] {g f : Nat → Option α} {r : α} (hc : ¬ c) (h : Ev f r) : Ev (fun k => if c then g k else f k) r :=
  Ev.congr (fun _ => if_neg hc) h
theorem _root_.Go.Proofs.YtcghheaelgjnfaaW.PrintWords.Ev.bindc {α β : Type} {o : Option α} {f : Nat → α → Option β} {a : α} {r : β} (h : o = some a) (k : Ev (fun n => f n a) r) : Ev (fun n => o.bind (f n)) r := by
  subst h; exact k
theorem _root_.Go.Proofs.YtcghheaelgjnfaaW.PrintWords.Ev.eq {α : Type} {g : Nat → Option α} {r r' : α} (h : Ev g r) (e : r = r') : Ev g r' := e ▸ h
theorem _root_.Go.Proofs.YtcghheaelgjnfaaW.PrintWords.Ev.cst {α : Type} {o : Option α} {r : α} (h : o = some r) : Ev (fun _ => o) r := ⟨0, fun _ _ => h⟩
theorem w64 {x : Int} (h0 : -9223372036854775808 ≤ x) (h1 : x ≤ 9223372036854775807) : wrap64 x = x := by unfold wrap64; omega
theorem wf_i64 {x : Int} (h : (Lit.int .i64 x).wf = true) : -9223372036854775808 ≤ x ∧ x ≤ 9223372036854775807 := by
  have h2 : (decide (IntKind.i64.min ≤ x) && decide (x ≤ IntKind.i64.max)) = true := h
  simp [IntKind.min, IntKind.max, IntKind.bits, IntKind.signed] at h2
  exact h2
theorem wf_u8 {x : Int} (h : (Lit.int .u8 x).wf = true) : 0 ≤ x ∧ x ≤ 255 := by
  have h2 : (decide (IntKind.u8.min ≤ x) && decide (x ≤ IntKind.u8.max)) = true := h
  simp [IntKind.min, IntKind.max, IntKind.bits, IntKind.signed] at h2
  omega
theorem rd_nat (xs : List Int) (i : Nat) (h : i < xs.length) : rd xs (i : Int) = xs[i] := by
  simp [rd, List.getD_eq_getElem?_getD, h]
theorem rd_mem (xs : List Int) (i : Int) (h0 : 0 ≤ i) (h : i < xs.length) : rd xs i ∈ xs := by
  obtain ⟨n, rfl⟩ := Int.eq_ofNat_of_zero_le h0
  rw [rd_nat xs n (by omega)]; exact List.getElem_mem _
theorem l1In_f (a b c : Int) : spec_l1In.f a b c = some (decide (b ≤ a ∧ a ≤ c)) := by
  unfold spec_l1In.f
  by_cases h : a ≥ b
  · rw [if_pos h]; simp; omega
  · rw [if_neg h]; simp; omega
/-- What AreasValid answers. -/
def areasV (l : List Int) (s : Int) : Bool := decide (1 ≤ s ∧ s ≤ 6 ∧ (l.length : Int) = s * s) && l.all (fun x => decide (0 ≤ x ∧ x < s))
theorem six {s : Int} (h : 1 ≤ s ∧ s ≤ 6) : s = 1 ∨ s = 2 ∨ s = 3 ∨ s = 4 ∨ s = 5 ∨ s = 6 := by omega
theorem sq_six {s : Int} (h : 1 ≤ s ∧ s ≤ 6) : wrap64 (s * s) = s * s ∧ 1 ≤ s * s ∧ s * s ≤ 36 := by
  rcases six h with rfl | rfl | rfl | rfl | rfl | rfl <;> decide +kernel
theorem impl_areas_l (l : List Int) (s : Int) (hl : l.length ≤ 140737488351232) : ∀ (d i : Nat), l.length = i + d →
    Ev (fun k => impl_AreasValid.l0 k s l l.length i) ((l.drop i).all (fun x => decide (0 ≤ x ∧ x < s))) := by
  intro d
  induction d with
  | zero =>
    intro i hi
    refine Ev.step (f := fun _ => some true) (fun k => ?_) ((Ev.now _).eq (by rw [List.drop_eq_nil_of_le (by omega)]; rfl))
    rw [impl_AreasValid.l0]; rw [if_neg (by omega)]
  | succ d ih =>
    intro i hi
    have hlt : i < l.length := by omega
    have hw : wrap64 ((i : Int) + 1) = ((i + 1 : Nat) : Int) := by rw [w64 (by omega) (by omega)]; omega
    rw [List.drop_eq_getElem_cons hlt, List.all_cons]
    by_cases c : 0 ≤ l[i] ∧ l[i] < s
    · refine Ev.step (f := fun k => impl_AreasValid.l0 k s l l.length ((i + 1 : Nat) : Int)) (fun k => ?_) ((ih (i + 1) (by omega)).eq (by simp [c]))
      rw [impl_AreasValid.l0]
      rw [if_pos (by omega), if_pos (by omega), if_pos (by omega), rd_nat l i hlt, if_neg (by omega), if_neg (by omega), hw]
    · refine Ev.step (f := fun k => some false) (fun k => ?_) ((Ev.now _).eq (by simp [c]))
      rw [impl_AreasValid.l0]
      rw [if_pos (by omega), if_pos (by omega), if_pos (by omega), rd_nat l i hlt]
      by_cases c1 : l[i] < 0
      · rw [if_pos c1]
      · rw [if_neg c1, if_pos (by omega)]
theorem impl_areas (l : List Int) (s : Int) (hl : l.length ≤ 140737488351232) : Ev (fun k => impl_AreasValid.f k l s) (areasV l s) := by
  have no : ∀ b : Bool, b = true → areasV l s = false → Ev (fun k => impl_AreasValid.j0 k l s b) (areasV l s) := by
    intro b hb h
    refine Ev.step (f := fun _ => some false) (fun k => ?_) ((Ev.now _).eq h.symm)
    rw [impl_AreasValid.j0]; rw [if_pos hb]
  unfold impl_AreasValid.f
  by_cases c1 : s < 1
  · exact Ev.ifp c1 (no _ rfl (by unfold areasV; simp; omega))
  refine Ev.ifn c1 ?_
  by_cases c2 : s > 6
  · exact Ev.ifp c2 (no _ rfl (by unfold areasV; simp; omega))
  refine Ev.ifn c2 ?_
  have hs := sq_six (s := s) (by omega)
  rw [hs.1]
  by_cases c3 : (l.length : Int) = s * s
  · refine Ev.step (f := fun k => impl_AreasValid.l0 k s l l.length ((0 : Nat) : Int)) (fun k => ?_) ((impl_areas_l l s hl l.length 0 (by omega)).eq ?_)
    · rw [impl_AreasValid.j0]; rw [if_neg (by simp [c3])]; rfl
    · unfold areasV
      have : decide (1 ≤ s ∧ s ≤ 6 ∧ (l.length : Int) = s * s) = true := by simp; omega
      rw [this]; simp
  · exact no _ (by simp [c3]) (by unfold areasV; simp [c3])
theorem spec_areas_l (l : List Int) (s : Int) (hl : l.length ≤ 140737488351232) : ∀ (d i : Nat), l.length = i + d →
    Ev (fun k => spec_AreasValid.l0 k l s i) ((l.drop i).all (fun x => decide (0 ≤ x ∧ x ≤ wrap64 (s - 1))) && decide (1 ≤ s ∧ s ≤ 6 ∧ (l.length : Int) = s * s)) := by
  intro d
  induction d with
  | zero =>
    intro i hi
    refine Ev.step (f := fun _ => (spec_l1In.f s 1 6).bind fun t103 => (if t103 = true then (some ((l.length : Int) == (wrap64 (s * s)))) else (some false))) (fun k => ?_) ?_
    · rw [spec_AreasValid.l0]; rw [if_neg (by omega)]
    · refine Ev.bindc (l1In_f s 1 6) ?_
      rw [List.drop_eq_nil_of_le (by omega)]
      by_cases c : 1 ≤ s ∧ s ≤ 6
      · refine Ev.ifp (by simpa using c) ((Ev.now _).eq ?_)
        rw [(sq_six c).1]
        simp only [List.all_nil, Bool.true_and]
        by_cases e : (l.length : Int) = s * s
        · simp [e]; omega
        · simp [e]
      · refine Ev.ifn (by simpa using c) ((Ev.now _).eq ?_)
        simp only [List.all_nil, Bool.true_and]
        symm; simp; omega
  | succ d ih =>
    intro i hi
    have hlt : i < l.length := by omega
    have hw : wrap64 ((i : Int) + 1) = ((i + 1 : Nat) : Int) := by rw [w64 (by omega) (by omega)]; omega
    rw [List.drop_eq_getElem_cons hlt, List.all_cons]
    by_cases c : 0 ≤ l[i] ∧ l[i] ≤ wrap64 (s - 1)
    · refine Ev.step (f := fun k => spec_AreasValid.l0 k l s ((i + 1 : Nat) : Int)) (fun k => ?_) ((ih (i + 1) (by omega)).eq (by simp [c]))
      rw [spec_AreasValid.l0]
      rw [if_pos (by omega), if_pos (by omega), rd_nat l i hlt, l1In_f]
      simp only [Option.bind_some]
      rw [if_pos (by simpa using c), hw]
    · refine Ev.step (f := fun k => some false) (fun k => ?_) ((Ev.now _).eq (by simp [c]))
      rw [spec_AreasValid.l0]
      rw [if_pos (by omega), if_pos (by omega), rd_nat l i hlt, l1In_f]
      simp only [Option.bind_some]
      rw [if_neg (by simpa using c)]
theorem spec_areas (l : List Int) (s : Int) (hl : l.length ≤ 140737488351232) : Ev (fun k => spec_AreasValid.f k l s) (areasV l s) := by
  unfold spec_AreasValid.f
  refine (spec_areas_l l s hl l.length 0 (by omega)).eq ?_
  unfold areasV
  by_cases c : 1 ≤ s ∧ s ≤ 6
  · rw [w64 (by omega) (by omega), List.drop_zero, Bool.and_comm]
    congr 1
    congr 1
    funext x
    rw [decide_eq_decide]; omega
  · have e : decide (1 ≤ s ∧ s ≤ 6 ∧ (l.length : Int) = s * s) = false := by simp; omega
    rw [e]; simp
/-! The reader of draws: only that each number drawn lies in its range. -/
structure Byts (b : List Int) : Prop where
  len : b.length ≤ 2000
  val : ∀ x ∈ b, 0 ≤ x ∧ x ≤ 255
theorem xor_nn {a b : Int} (ha : 0 ≤ a) (ha1 : a < 4611686018427387904) (hb : 0 ≤ b) (hb1 : b < 4611686018427387904) : 0 ≤ Go.bits .xor .i64 a b := by
  obtain ⟨m, rfl⟩ := Int.eq_ofNat_of_zero_le ha
  obtain ⟨n, rfl⟩ := Int.eq_ofNat_of_zero_le hb
  have h : (m ^^^ n) < 2 ^ 62 := Nat.xor_lt_two_pow (by omega) (by omega)
  have hm : m % 2 ^ IntKind.i64.bits = m := Nat.mod_eq_of_lt (show m < 2 ^ 64 by omega)
  have hn : n % 2 ^ IntKind.i64.bits = n := Nat.mod_eq_of_lt (show n < 2 ^ 64 by omega)
  simp only [Go.bits, BitVec.ofInt_natCast, BitVec.toNat_xor, BitVec.toNat_ofNat, hm, hn]
  rw [IntKind.wrap_i64]
  omega
theorem open_ok (l : List Int) (h : l.length ≤ maxLen) (hb : ∀ x ∈ l, (Lit.int .u8 x).wf = true) : ∃ b, spec_l20Open.f l = some (b, 0) ∧ Byts b := by
  unfold spec_l20Open.f
  by_cases c : (l.length : Int) > 2000
  · rw [if_pos c, if_pos (by omega)]
    exact ⟨_, rfl, by rw [List.length_take]; omega, fun x hx => wf_u8 (hb x (List.mem_of_mem_take hx))⟩
  · rw [if_neg c]
    exact ⟨_, rfl, by omega, fun x hx => wf_u8 (hb x hx)⟩
theorem pick_any {b : List Int} (hb : Byts b) {p : Int} (hp : 0 ≤ p) (hp1 : p ≤ 1000000) (n : Int) (hn1 : n ≤ 9223372036854775807) :
    ∃ r, Ev (fun k => spec_l20Rd_pick.f k b p n) (r, p + 1) ∧ 0 ≤ r ∧ (1 ≤ n → r < n) ∧ (n < 1 → r = 0) := by
  have hw : wrap64 (p + 1) = p + 1 := w64 (by omega) (by omega)
  have hw2 : wrap64 (p + 1 - 1) = p := by rw [w64 (by omega) (by omega)]; omega
  have hl := hb.len
  unfold spec_l20Rd_pick.f
  by_cases c : n < 1
  · refine ⟨0, Ev.ifp c (Ev.step (f := fun _ => some (0, p + 1)) (fun k => ?_) (Ev.now _)), by omega, by omega, fun _ => rfl⟩
    rw [spec_l20Rd_pick.j0]; rw [if_pos rfl, hw]
  · by_cases c0 : b.length = 0
    · refine ⟨0, Ev.ifn c (Ev.step (f := fun _ => some (0, p + 1)) (fun k => ?_) (Ev.now _)), by omega, by omega, fun _ => rfl⟩
      rw [spec_l20Rd_pick.j0]
      rw [c0, if_pos (by decide), hw]
    · have c0' : ((b.length : Int) == 0) = false := by simp; intro h; simp [h] at c0
      by_cases c1 : p < (b.length : Int)
      · have hm := hb.val _ (rd_mem b p hp c1)
        refine ⟨Int.tmod (rd b p) n, Ev.ifn c (Ev.step (f := fun _ => some (Int.tmod (rd b p) n, p + 1)) (fun k => ?_) (Ev.now _)), Int.tmod_nonneg _ hm.1, fun h => Int.tmod_lt_of_pos _ (by omega), fun h => absurd h c⟩
        rw [spec_l20Rd_pick.j0]
        rw [c0', if_neg (by decide), hw, hw2, if_pos c1, if_pos hp, if_neg (by omega), w64 (by omega) (by omega)]
      · have hL : (0 : Int) < (b.length : Int) := by omega
        have e1 := Int.tmod_nonneg (b.length : Int) hp
        have e2 := Int.tmod_lt_of_pos p hL
        have k7 : wrap64 (p * 7) = p * 7 := w64 (by omega) (by omega)
        have k73 : wrap64 (p * 7 + 3) = p * 7 + 3 := w64 (by omega) (by omega)
        have e3 := Int.tmod_nonneg (b.length : Int) (show 0 ≤ p * 7 + 3 by omega)
        have e4 := Int.tmod_lt_of_pos (p * 7 + 3) hL
        have m1 := hb.val _ (rd_mem b _ e1 e2)
        have m2 := hb.val _ (rd_mem b _ e3 e4)
        have d0 : Int.tdiv p (b.length : Int) = p / (b.length : Int) := Int.tdiv_eq_ediv_of_nonneg hp
        have d1 : 0 ≤ p / (b.length : Int) := Int.ediv_nonneg hp (by omega)
        have d2 : p / (b.length : Int) ≤ p := Int.ediv_le_self _ hp
        generalize hx1 : rd b (Int.tmod p (b.length : Int)) = x1 at m1
        generalize hx2 : rd b (Int.tmod (p * 7 + 3) (b.length : Int)) = x2 at m2
        generalize hq : p / (b.length : Int) = q at d0 d1 d2
        have hX : 0 ≤ Go.bits .xor .i64 (x1 * 131 + x2 * 1117 + p * 29 + q * 53) ((x1 * 131 + x2 * 1117 + p * 29 + q * 53) / 64) := xor_nn (by omega) (by omega) (by omega) (by omega)
        generalize hR : Go.bits .xor .i64 (x1 * 131 + x2 * 1117 + p * 29 + q * 53) ((x1 * 131 + x2 * 1117 + p * 29 + q * 53) / 64) = X at hX
        refine ⟨Int.tmod X n, Ev.ifn c (Ev.step (f := fun _ => some (Int.tmod X n, p + 1)) (fun k => ?_) (Ev.now _)), Int.tmod_nonneg _ hX, fun h => Int.tmod_lt_of_pos _ (by omega), fun h => absurd h c⟩
        rw [spec_l20Rd_pick.j0]
        rw [c0', if_neg (by decide), hw, hw2, if_neg c1, if_neg (by omega), k7, k73, if_pos e1, if_pos e2, if_pos e3, if_pos e4, if_neg (by omega), hx1, hx2, d0]
        rw [w64 (x := x1) (by omega) (by omega), w64 (x := x2) (by omega) (by omega), w64 (x := q) (by omega) (by omega), w64 (x := x1 * 131) (by omega) (by omega), w64 (x := x2 * 1117) (by omega) (by omega), w64 (x := p * 29) (by omega) (by omega), w64 (x := q * 53) (by omega) (by omega)]
        rw [w64 (x := x1 * 131 + x2 * 1117) (by omega) (by omega), w64 (x := x1 * 131 + x2 * 1117 + p * 29) (by omega) (by omega), w64 (x := x1 * 131 + x2 * 1117 + p * 29 + q * 53) (by omega) (by omega)]
        rw [Int.tdiv_eq_ediv_of_nonneg (by omega), w64 (by omega) (by omega), hR]
theorem odd_any {b : List Int} (hb : Byts b) {p : Int} (hp : 0 ≤ p) (hp1 : p ≤ 1000000) (n : Int) (hn1 : n ≤ 9223372036854775807) :
    ∃ r q, Ev (fun k => spec_l20Rd_odd.f k b p n) (r, q) ∧ p ≤ q ∧ q ≤ p + 1 := by
  unfold spec_l20Rd_odd.f
  by_cases c : n > 0
  · obtain ⟨r, e, _⟩ := pick_any hb hp hp1 n hn1
    exact ⟨_, _, Ev.ifp c (Ev.bind e (Ev.now _)), by omega, by omega⟩
  · exact ⟨_, _, Ev.ifn c (Ev.now _), by omega, by omega⟩
/-- What is known of drawn areas. -/
structure AreasPost (q : List Int × Int × Int) (pm : Int) : Prop where
  len : q.1.length ≤ 36
  val : ∀ x ∈ q.1, -1 ≤ x ∧ x ≤ 7
  s0 : 0 ≤ q.2.1
  s1 : q.2.1 ≤ 7
  p0 : 0 ≤ q.2.2
  p1 : q.2.2 ≤ pm
theorem rd2 (a b : Int) {i : Int} (h0 : 0 ≤ i) (h1 : i < 2) : rd [a, b] i = a ∨ rd [a, b] i = b := by
  have : i = 0 ∨ i = 1 := by omega
  rcases this with rfl | rfl
  · exact .inl rfl
  · exact .inr rfl
theorem drawAreas_l {b : List Int} (hb : Byts b) (n : Int) (hn : n ≤ 1000) (s : Int) (hs : 1 ≤ s ∧ s ≤ 6) : ∀ (d : Nat) (out : List Int) (p : Int), (out.length : Int) + d = s * s → (∀ x ∈ out, 0 ≤ x ∧ x ≤ 6) → 0 ≤ p → p ≤ 500 - 4 * d →
    ∃ q, Ev (fun k => spec_l20Areas.l0 k n s out out.length b p) q ∧ AreasPost q 510 := by
  have hss : wrap64 (s * s) = s * s ∧ 1 ≤ s * s ∧ s * s ≤ 36 := by
    have : s = 1 ∨ s = 2 ∨ s = 3 ∨ s = 4 ∨ s = 5 ∨ s = 6 := by omega
    rcases this with rfl | rfl | rfl | rfl | rfl | rfl <;> decide +kernel
  intro d
  induction d with
  | zero =>
    intro out p hl hx hp hp1
    have hx' : ∀ x ∈ out, -1 ≤ x ∧ x ≤ 7 := fun x h => by have := hx x h; omega
    obtain ⟨o, p1, eo, ho1, ho2⟩ := odd_any hb hp (by omega) n (by omega)
    suffices H : ∃ q, Ev (fun k => if o = true then ((spec_l20Rd_pick.f k b p1 3).bind fun bt148 => (if bt148.1 = 0 then ((spec_l20Rd_pick.f k b bt148.2 (out.length : Int)).bind fun bt150 => ((some (([(-1), s] : List Int) : List Int)).bind fun y152 => ((spec_l20Rd_pick.f k b bt150.2 2).bind fun bt155 => (if 0 ≤ bt155.1 then (if bt155.1 < (y152.length : Int) then (if 0 ≤ bt150.1 then (if bt150.1 < (out.length : Int) then (some ((out.set (bt150.1 : Int).toNat (rd y152 bt155.1)), s, bt155.2)) else (none)) else (none)) else (none)) else (none))))) else (if bt148.1 = 1 then (if 1 ≤ (out.length : Int) then (some ((out.drop (1 : Int).toNat), s, bt148.2)) else (none)) else ((some (([0, 7] : List Int) : List Int)).bind fun y162 => ((spec_l20Rd_pick.f k b bt148.2 2).bind fun bt165 => (if 0 ≤ bt165.1 then (if bt165.1 < (y162.length : Int) then (some (out, rd y162 bt165.1, bt165.2)) else (none)) else (none))))))) else (some (out, s, p1))) q ∧ AreasPost q 510 by
      obtain ⟨q, e, h⟩ := H
      refine ⟨q, Ev.step (fun k => by rw [spec_l20Areas.l0]) ?_, h⟩
      exact Ev.ifn (by rw [hss.1]; omega) (Ev.bind eo e)
    cases o with
    | false => exact ⟨_, Ev.ifn (by decide) (Ev.now _), by simpa using (by omega : out.length ≤ 36), hx', by simp; omega, by simp; omega, by simp; omega, by simp; omega⟩
    | true =>
      obtain ⟨r1, e1, h1, h1', _⟩ := pick_any hb (p := p1) (by omega) (by omega) 3 (by omega)
      by_cases c1 : r1 = 0
      · obtain ⟨r2, e2, h2, h2', _⟩ := pick_any hb (p := p1 + 1) (by omega) (by omega) (out.length : Int) (by omega)
        obtain ⟨r3, e3, h3, h3', _⟩ := pick_any hb (p := p1 + 1 + 1) (by omega) (by omega) 2 (by omega)
        refine ⟨_, Ev.ifp rfl (Ev.bind e1 (Ev.ifp c1 (Ev.bind e2 (Ev.bindc rfl (Ev.bind e3 (Ev.ifp h3 (Ev.ifp (by simp; omega) (Ev.ifp h2 (Ev.ifp (by have := h2' (by omega); omega) (Ev.now _)))))))))), ?_⟩
        have hv := rd2 (-1) s h3 (h3' (by omega))
        refine ⟨by simp; omega, fun x hx0 => ?_, by simp; omega, by simp; omega, by simp; omega, by simp; omega⟩
        rcases List.mem_or_eq_of_mem_set hx0 with h | h
        · exact hx' x h
        · subst h; rcases hv with hv | hv <;> rw [hv] <;> omega
      · by_cases c2 : r1 = 1
        · refine ⟨_, Ev.ifp rfl (Ev.bind e1 (Ev.ifn c1 (Ev.ifp c2 (Ev.ifp (by omega) (Ev.now _))))), ?_⟩
          exact ⟨by simp; omega, fun x h => hx' x (List.mem_of_mem_drop h), by simp; omega, by simp; omega, by simp; omega, by simp; omega⟩
        · obtain ⟨r3, e3, h3, h3', _⟩ := pick_any hb (p := p1 + 1) (by omega) (by omega) 2 (by omega)
          refine ⟨_, Ev.ifp rfl (Ev.bind e1 (Ev.ifn c1 (Ev.ifn c2 (Ev.bindc rfl (Ev.bind e3 (Ev.ifp h3 (Ev.ifp (by simp; omega) (Ev.now _)))))))), ?_⟩
          have hv := rd2 0 7 h3 (h3' (by omega))
          refine ⟨by simp; omega, hx', ?_, ?_, by simp; omega, by simp; omega⟩ <;> (simp only; omega)
  | succ d ih =>
    intro out p hl hx hp hp1
    have hlt : (out.length : Int) < s * s := by omega
    have hw : wrap64 ((out.length : Int) + 1) = ((out.length + 1 : Nat) : Int) := by rw [w64 (by omega) (by omega)]; omega
    have app : ∀ v : Int, 0 ≤ v → v ≤ 6 → ∀ p' : Int, 0 ≤ p' → p' ≤ 500 - 4 * d → ∃ q, Ev (fun k => if out.length < 17592186044416 then (spec_l20Areas.l0 k n s (out ++ [v]) (wrap64 ((out.length : Int) + 1)) b p') else (none)) q ∧ AreasPost q 510 := by
      intro v h0 h1 p' h2 h3
      obtain ⟨q, e, h⟩ := ih (out ++ [v]) p' (by simp; omega) (fun x hx0 => by
        rcases List.mem_append.1 hx0 with h | h
        · exact hx x h
        · simp at h; omega) h2 h3
      refine ⟨q, Ev.ifp (by omega) ?_, h⟩
      rw [hw]; simpa using e
    have j4 : ∀ v : Int, 0 ≤ v → v ≤ 6 → ∀ p' : Int, 0 ≤ p' → p' ≤ 500 - 4 * d - 2 → ∃ q, Ev (fun k => spec_l20Areas.j4 k n s out out.length v b p') q ∧ AreasPost q 510 := by
      intro v h0 h1 p' h2 h3
      obtain ⟨r1, e1, g1, g1', _⟩ := pick_any hb h2 (by omega) 9 (by omega)
      by_cases c : r1 = 0
      · obtain ⟨r2, e2, g2, g2', _⟩ := pick_any hb (p := p' + 1) (by omega) (by omega) s (by omega)
        obtain ⟨q, e, h⟩ := app r2 g2 (by have := g2' (by omega); omega) (p' + 1 + 1) (by omega) (by omega)
        refine ⟨q, Ev.step (fun k => by rw [spec_l20Areas.j4]) ?_, h⟩
        exact (Ev.bind e1 (Ev.ifp c (Ev.bind e2 e)))
      · obtain ⟨q, e, h⟩ := app v h0 h1 (p' + 1) (by omega) (by omega)
        refine ⟨q, Ev.step (fun k => by rw [spec_l20Areas.j4]) ?_, h⟩
        exact (Ev.bind e1 (Ev.ifn c e))
    have j3 : ∀ (f : Bool) (v : Int), 0 ≤ v → v ≤ 6 → (f = true → s ≤ (out.length : Int)) → ∀ p' : Int, 0 ≤ p' → p' ≤ 500 - 4 * d - 2 → ∃ q, Ev (fun k => spec_l20Areas.j3 k n s out out.length v f b p') q ∧ AreasPost q 510 := by
      intro f v h0 h1 hf p' h2 h3
      cases f with
      | false =>
        obtain ⟨q, e, h⟩ := j4 v h0 h1 p' h2 h3
        refine ⟨q, Ev.step (fun k => by rw [spec_l20Areas.j3]) ?_, h⟩
        exact (Ev.ifn (by decide) e)
      | true =>
        have := hf rfl
        have hw2 : wrap64 ((out.length : Int) - s) = (out.length : Int) - s := w64 (by omega) (by omega)
        have hm := hx _ (rd_mem out ((out.length : Int) - s) (by omega) (by omega))
        obtain ⟨q, e, h⟩ := j4 _ hm.1 hm.2 p' h2 h3
        refine ⟨q, Ev.step (fun k => by rw [spec_l20Areas.j3]) ?_, h⟩
        refine (Ev.ifp rfl (Ev.ifp (by omega) (Ev.ifp (by omega) ?_)))
        rw [hw2]; exact e
    have j2 : ∀ v : Int, 0 ≤ v → v ≤ 6 → ∀ p' : Int, 0 ≤ p' → p' ≤ 500 - 4 * d - 3 → ∃ q, Ev (fun k => spec_l20Areas.j2 k n s out out.length v b p') q ∧ AreasPost q 510 := by
      intro v h0 h1 p' h2 h3
      by_cases c : (out.length : Int) ≥ s
      · obtain ⟨r1, e1, _⟩ := pick_any hb h2 (by omega) 4 (by omega)
        obtain ⟨q, e, h⟩ := j3 (r1 == 0) v h0 h1 (fun _ => c) (p' + 1) (by omega) (by omega)
        refine ⟨q, Ev.step (fun k => by rw [spec_l20Areas.j2]) ?_, h⟩
        exact (Ev.ifp c (Ev.bind e1 e))
      · obtain ⟨q, e, h⟩ := j3 false v h0 h1 (fun h => by cases h) p' (by omega) (by omega)
        refine ⟨q, Ev.step (fun k => by rw [spec_l20Areas.j2]) ?_, h⟩
        exact (Ev.ifn c e)
    have j1 : ∀ (f : Bool) (v : Int), 0 ≤ v → v ≤ 6 → (f = true → 0 < out.length) → ∀ p' : Int, 0 ≤ p' → p' ≤ 500 - 4 * d - 3 → ∃ q, Ev (fun k => spec_l20Areas.j1 k n s out out.length v f b p') q ∧ AreasPost q 510 := by
      intro f v h0 h1 hf p' h2 h3
      cases f with
      | false =>
        obtain ⟨q, e, h⟩ := j2 v h0 h1 p' h2 h3
        refine ⟨q, Ev.step (fun k => by rw [spec_l20Areas.j1]) ?_, h⟩
        exact (Ev.ifn (by decide) e)
      | true =>
        have := hf rfl
        have hw2 : wrap64 ((out.length : Int) - 1) = (out.length : Int) - 1 := w64 (by omega) (by omega)
        have hm := hx _ (rd_mem out ((out.length : Int) - 1) (by omega) (by omega))
        obtain ⟨q, e, h⟩ := j2 _ hm.1 hm.2 p' h2 h3
        refine ⟨q, Ev.step (fun k => by rw [spec_l20Areas.j1]) ?_, h⟩
        refine (Ev.ifp rfl (Ev.ifp (by omega) (Ev.ifp (by omega) ?_)))
        rw [hw2]; exact e
    have hdiv : wrap64 (Int.tdiv (out.length : Int) s) = (out.length : Int) / s ∧ 0 ≤ (out.length : Int) / s ∧ (out.length : Int) / s ≤ 6 := by
      have a1 : 0 ≤ (out.length : Int) / s := Int.ediv_nonneg (by omega) (by omega)
      have a2 : (out.length : Int) / s < s := Int.ediv_lt_of_lt_mul (by omega) hlt
      rw [Int.tdiv_eq_ediv_of_nonneg (by omega), w64 (by omega) (by omega)]
      omega
    by_cases c : (out.length : Int) > 0
    · obtain ⟨r1, e1, _⟩ := pick_any hb hp (by omega) 3 (by omega)
      obtain ⟨q, e, h⟩ := j1 (r1 == 0) _ hdiv.2.1 hdiv.2.2 (fun _ => by omega) (p + 1) (by omega) (by omega)
      refine ⟨q, Ev.step (fun k => by rw [spec_l20Areas.l0]) ?_, h⟩
      refine Ev.ifp (by rw [hss.1]; exact hlt) (Ev.ifn (by omega) (Ev.ifp c (Ev.bind e1 ?_)))
      rw [hdiv.1]; exact e
    · obtain ⟨q, e, h⟩ := j1 false _ hdiv.2.1 hdiv.2.2 (fun h => by cases h) p (by omega) (by omega)
      refine ⟨q, Ev.step (fun k => by rw [spec_l20Areas.l0]) ?_, h⟩
      refine Ev.ifp (by rw [hss.1]; exact hlt) (Ev.ifn (by omega) (Ev.ifn c ?_))
      rw [hdiv.1]; exact e
theorem drawAreas {b : List Int} (hb : Byts b) (n : Int) (hn : n ≤ 1000) : ∃ q, Ev (fun k => spec_l20Areas.f k b 0 n) q ∧ AreasPost q 510 := by
  obtain ⟨r, e, h, h', _⟩ := pick_any hb (p := 0) (by omega) (by omega) 8 (by omega)
  have hr := h' (by omega)
  have hs : 1 ≤ rd [1, 2, 3, 4, 4, 5, 5, 6] r ∧ rd [1, 2, 3, 4, 4, 5, 5, 6] r ≤ 6 := by
    have : r = 0 ∨ r = 1 ∨ r = 2 ∨ r = 3 ∨ r = 4 ∨ r = 5 ∨ r = 6 ∨ r = 7 := by omega
    rcases this with rfl | rfl | rfl | rfl | rfl | rfl | rfl | rfl <;> decide +kernel
  generalize hS : rd [1, 2, 3, 4, 4, 5, 5, 6] r = s at hs
  have hsq : 1 ≤ s * s ∧ s * s ≤ 36 := by
    have : s = 1 ∨ s = 2 ∨ s = 3 ∨ s = 4 ∨ s = 5 ∨ s = 6 := by omega
    rcases this with rfl | rfl | rfl | rfl | rfl | rfl <;> decide +kernel
  obtain ⟨q, eq, hq⟩ := drawAreas_l hb n hn s hs (s * s).toNat [] (0 + 1) (by simp; omega) (by simp) (by omega) (by omega)
  refine ⟨q, ?_, hq⟩
  unfold spec_l20Areas.f
  refine Ev.bindc rfl (Ev.bind e (Ev.ifp h (Ev.ifp (by simp; omega) ?_)))
  rw [hS]; simpa using eq
theorem alive_ev : Ev (fun k => laws_alive.f k) true := Ev.of (fun k => laws_alive.mono k) (k := 20) (by decide +kernel)
/-! Stars: what fits, said of a list of columns. -/
def arAt (l : List Int) (n : Int) (s : List Int) (j : Nat) : Int := rd l ((j : Int) * n + rd s j)
def pairB (l : List Int) (n : Int) (s : List Int) (j i : Nat) : Bool := !(rd s j == rd s i) && !(arAt l n s j == arAt l n s i) && !(decide (j + 1 = i) && decide (-1 ≤ rd s j - rd s i ∧ rd s j - rd s i ≤ 1))
def okB (l : List Int) (n : Int) (s : List Int) (i : Nat) : Bool := decide (0 ≤ rd s i ∧ rd s i < n) && (List.range i).all (fun j => pairB l n s j i)
def starsV (l : List Int) (n : Int) (s : List Int) : Bool := areasV l n && decide ((s.length : Int) ≤ n) && (List.range s.length).all (okB l n s)
theorem areasV_ok {l : List Int} {n : Int} (h : areasV l n = true) : 1 ≤ n ∧ n ≤ 6 ∧ (l.length : Int) = n * n ∧ (∀ i : Int, 0 ≤ i → i < l.length → 0 ≤ rd l i ∧ rd l i < n) := by
  unfold areasV at h
  simp only [Bool.and_eq_true, decide_eq_true_eq, List.all_eq_true] at h
  refine ⟨h.1.1, h.1.2.1, h.1.2.2, fun i h0 h1 => h.2 _ (rd_mem l i h0 h1)⟩
theorem at_lt {n v : Int} {i : Nat} (h : 1 ≤ n ∧ n ≤ 6) (hi : (i : Int) < n) (h0 : 0 ≤ v) (h1 : v < n) : wrap64 ((i : Int) * n) = (i : Int) * n ∧ wrap64 ((i : Int) * n + v) = (i : Int) * n + v ∧ 0 ≤ (i : Int) * n + v ∧ (i : Int) * n + v < n * n := by
  have h2 : (i : Int) * n ≤ (n - 1) * n := Int.mul_le_mul_of_nonneg_right (by omega) (by omega)
  have h3 : 0 ≤ (i : Int) * n := Int.mul_nonneg (by omega) (by omega)
  have h4 : (n - 1) * n = n * n - n := by rw [Int.sub_mul, Int.one_mul]
  have h5 : n * n ≤ 36 := (sq_six h).2.2
  exact ⟨w64 (by omega) (by omega), w64 (by omega) (by omega), by omega, by omega⟩
theorem range'_all {p : Nat → Bool} (i d : Nat) : (List.range' i (d + 1)).all p = (p i && (List.range' i d).all p || false) → True := fun _ => trivial
theorem all_from {p : Nat → Bool} {n : Nat} : (List.range n).all p = (List.range' 0 n).all p := by rw [List.range_eq_range']
theorem spec_fit_l1 (l : List Int) (n : Int) (s : List Int) (i : Nat) (ha : areasV l n = true) (hs : (s.length : Int) ≤ n) (hi : i < s.length) (h : ∀ j, j ≤ i → 0 ≤ rd s j ∧ rd s j < n) (r : Bool)
    (H : Ev (fun k => spec_StarsFit.l0 k l n s ((i + 1 : Nat) : Int)) r) : ∀ (d j : Nat), i = j + d →
    Ev (fun k => spec_StarsFit.l1 k l n s i j) ((List.range' j d).all (fun j => pairB l n s j i) && r) := by
  obtain ⟨h1, h2, hl, hv⟩ := areasV_ok ha
  intro d
  induction d with
  | zero =>
    intro j hj
    have hw : wrap64 ((i : Int) + 1) = ((i + 1 : Nat) : Int) := by rw [w64 (by omega) (by omega)]; omega
    refine Ev.step (fun k => by rw [spec_StarsFit.l1, hw]) (Ev.ifn (by omega) (Ev.eq H (by simp)))
  | succ d ih =>
    intro j hj
    have hw : wrap64 ((j : Int) + 1) = ((j + 1 : Nat) : Int) := by rw [w64 (by omega) (by omega)]; omega
    have hwi : wrap64 ((i : Int) - 1) = (i : Int) - 1 := w64 (by omega) (by omega)
    have vj := h j (by omega)
    have vi := h i (by omega)
    have aj := at_lt (n := n) (v := rd s j) (i := j) ⟨h1, h2⟩ (by omega) vj.1 vj.2
    have ai := at_lt (n := n) (v := rd s i) (i := i) ⟨h1, h2⟩ (by omega) vi.1 vi.2
    have hn := ih (j + 1) (by omega)
    have hws : wrap64 (rd s j - rd s i) = rd s j - rd s i := w64 (by omega) (by omega)
    have jt : Ev (fun k => spec_StarsFit.j3 k l n s i j true) false := Ev.step (fun k => by rw [spec_StarsFit.j3]) (Ev.ifp rfl (Ev.now _))
    have jf : Ev (fun k => spec_StarsFit.j3 k l n s i j false) ((List.range' (j + 1) d).all (fun j => pairB l n s j i) && r) := Ev.step (fun k => by rw [spec_StarsFit.j3, hw]) (Ev.ifn (by decide) hn)
    rw [List.range'_succ, List.all_cons, Bool.and_assoc]
    refine Ev.step (fun k => by rw [spec_StarsFit.l1]) ?_
    rw [aj.1, ai.1, aj.2.1, ai.2.1, hwi, hws]
    refine Ev.ifp (by omega) (Ev.ifp (by omega) (Ev.ifp (by omega) (Ev.ifp (by omega) (Ev.ifp (by omega) ?_))))
    by_cases c1 : rd s j = rd s i
    · exact Ev.ifp c1 (Ev.eq jt (by simp [pairB, c1]))
    refine Ev.ifn c1 (Ev.ifp aj.2.2.1 (Ev.ifp (by omega) (Ev.ifp ai.2.2.1 (Ev.ifp (by omega) ?_))))
    by_cases c2 : rd l ((j : Int) * n + rd s j) = rd l ((i : Int) * n + rd s i)
    · exact Ev.ifp c2 (Ev.eq jt (by simp [pairB, arAt, c2]))
    refine Ev.ifn c2 ?_
    by_cases c3 : (j : Int) = i - 1
    · refine Ev.ifp c3 (Ev.bindc (l1In_f _ _ _) ?_)
      by_cases c4 : -1 ≤ rd s j - rd s i ∧ rd s j - rd s i ≤ 1
      · have e : decide (-1 ≤ rd s j - rd s i ∧ rd s j - rd s i ≤ 1) = true := decide_eq_true c4
        rw [e]
        have e3 : decide (j + 1 = i) = true := by simp; omega
        exact Ev.eq jt (by unfold pairB; rw [e, e3]; simp)
      · have e : decide (-1 ≤ rd s j - rd s i ∧ rd s j - rd s i ≤ 1) = false := decide_eq_false c4
        rw [e]
        exact Ev.eq jf (by unfold pairB arAt; rw [e]; simp [c1, c2])
    · have e3 : decide (j + 1 = i) = false := by simp; omega
      exact Ev.ifn c3 (Ev.eq jf (by unfold pairB arAt; rw [e3]; simp [c1, c2]))
theorem spec_fit_l0 (l : List Int) (n : Int) (s : List Int) (ha : areasV l n = true) (hs : (s.length : Int) ≤ n) : ∀ (d i : Nat), s.length = i + d → (∀ j, j < i → 0 ≤ rd s j ∧ rd s j < n) →
    Ev (fun k => spec_StarsFit.l0 k l n s i) ((List.range' i d).all (okB l n s)) := by
  obtain ⟨h1, h2, hl, hv⟩ := areasV_ok ha
  intro d
  induction d with
  | zero =>
    intro i hi h
    exact Ev.step (fun k => by rw [spec_StarsFit.l0]) (Ev.ifn (by omega) (Ev.eq (Ev.now _) (by simp)))
  | succ d ih =>
    intro i hi h
    have hw1 : wrap64 (n - 1) = n - 1 := w64 (by omega) (by omega)
    rw [List.range'_succ, List.all_cons]
    refine Ev.step (fun k => by rw [spec_StarsFit.l0, hw1]) (Ev.ifp (by omega) (Ev.ifp (by omega) (Ev.bindc (l1In_f _ _ _) ?_)))
    by_cases c : 0 ≤ rd s i ∧ rd s i ≤ n - 1
    · have e : decide (0 ≤ rd s i ∧ rd s i ≤ n - 1) = true := decide_eq_true c
      rw [e]
      have h' : ∀ j, j < i + 1 → 0 ≤ rd s j ∧ rd s j < n := by
        intro j hj
        by_cases hji : j = i
        · subst hji; omega
        · exact h j (by omega)
      have H := ih (i + 1) (by omega) h'
      refine Ev.ifp rfl (Ev.eq (spec_fit_l1 l n s i ha hs (by omega) (fun j hj => h' j (by omega)) _ H i 0 (by omega)) ?_)
      have e2 : decide (0 ≤ rd s i ∧ rd s i < n) = true := by simp; omega
      unfold okB
      rw [e2, List.range_eq_range']
      simp
    · have e : decide (0 ≤ rd s i ∧ rd s i ≤ n - 1) = false := decide_eq_false c
      rw [e]
      refine Ev.ifn (by decide) (Ev.eq (Ev.now _) ?_)
      have e2 : okB l n s i = false := by unfold okB; have : decide (0 ≤ rd s i ∧ rd s i < n) = false := (by simp; omega); rw [this]; rfl
      rw [e2]; rfl
theorem spec_fit (l : List Int) (n : Int) (s : List Int) (hl : l.length ≤ 140737488351232) : Ev (fun k => spec_StarsFit.f k l n s) (starsV l n s) := by
  unfold spec_StarsFit.f
  refine Ev.bind (spec_areas l n hl) ?_
  by_cases c : areasV l n = true
  · refine Ev.ifp c ?_
    by_cases c2 : (s.length : Int) > n
    · refine Ev.step (fun k => by rw [spec_StarsFit.j0]) (Ev.ifp (by simp; omega) (Ev.eq (Ev.now _) ?_))
      unfold starsV
      have : decide ((s.length : Int) ≤ n) = false := by simp; omega
      rw [this]; simp
    · have H : Ev (fun k => spec_StarsFit.l0 k l n s 0) ((List.range' 0 s.length).all (okB l n s)) := spec_fit_l0 l n s c (by omega) s.length 0 (by omega) (fun j hj => by omega)
      refine Ev.step (fun k => by rw [spec_StarsFit.j0]) (Ev.ifn (by simp; omega) (Ev.eq H ?_))
      unfold starsV
      have : decide ((s.length : Int) ≤ n) = true := by simp; omega
      rw [this, c, List.range_eq_range']; simp
  · refine Ev.ifn c (Ev.step (fun k => by rw [spec_StarsFit.j0]) (Ev.ifp rfl (Ev.eq (Ev.now _) ?_)))
    unfold starsV
    rw [Bool.eq_false_iff.mpr c]; rfl
def colsAt (s : List Int) (i : Nat) : List Bool := (List.range 6).map (fun v : Nat => (List.range i).any (fun j => rd s j == (v : Int)))
def usedAt (l : List Int) (n : Int) (s : List Int) (i : Nat) : List Bool := (List.range 6).map (fun v : Nat => (List.range i).any (fun j => arAt l n s j == (v : Int)))
theorem tab_get {m : Nat} {p : Nat → Bool} {v : Int} (h0 : 0 ≤ v) (h1 : v < m) : rdOf false ((List.range m).map p) v = p v.toNat := by
  have h : v.toNat < m := by omega
  simp [rdOf, List.getD_eq_getElem?_getD, h]
theorem any_succ (p : Nat → Bool) (i : Nat) : (List.range (i + 1)).any p = ((List.range i).any p || p i) := by
  rw [List.range_succ, List.any_append]; simp
theorem tab_set {m : Nat} (f : Nat → Int) (i : Nat) (h0 : 0 ≤ f i) (h1 : f i < m) :
    ((List.range m).map (fun v : Nat => (List.range i).any (fun j => f j == (v : Int)))).set (f i).toNat true = (List.range m).map (fun v : Nat => (List.range (i + 1)).any (fun j => f j == (v : Int))) := by
  apply List.ext_getElem
  · simp
  · intro v a b
    have hv : v < m := by simpa using a
    rw [List.getElem_set, List.getElem_map, List.getElem_map, List.getElem_range, any_succ]
    by_cases c : (f i).toNat = v
    · rw [if_pos c]
      have : (f i == (v : Int)) = true := by simp; omega
      rw [this]; simp
    · rw [if_neg c]
      have : (f i == (v : Int)) = false := by simp; omega
      rw [this]; simp
theorem okB_alt (l : List Int) (n : Int) (s : List Int) (i : Nat) : okB l n s i = (decide (0 ≤ rd s i ∧ rd s i < n) && !((List.range i).any (fun j => rd s j == rd s i)) && !((List.range i).any (fun j => arAt l n s j == arAt l n s i)) && !(decide (0 < i) && decide (-1 ≤ rd s (i - 1 : Nat) - rd s i ∧ rd s (i - 1 : Nat) - rd s i ≤ 1))) := by
  rw [Bool.eq_iff_iff]
  unfold okB pairB
  simp only [Bool.and_eq_true, List.all_eq_true, List.mem_range, Bool.not_eq_true', decide_eq_true_eq, List.any_eq_false, Bool.and_eq_false_imp, decide_eq_false_iff_not, beq_iff_eq, beq_eq_false_iff_ne]
  constructor
  · rintro ⟨h, h'⟩
    refine ⟨⟨⟨h, fun j hj => (h' j hj).1.1⟩, fun j hj => (h' j hj).1.2⟩, fun hi => ?_⟩
    exact (h' (i - 1) (by omega)).2 (by omega)
  · rintro ⟨⟨⟨h, h1⟩, h2⟩, h3⟩
    refine ⟨h, fun j hj => ⟨⟨h1 j hj, h2 j hj⟩, fun e => ?_⟩⟩
    have : j = i - 1 := by omega
    subst this
    exact h3 (by omega)
theorem mx_lt {a b : Int} (ha : wrap64 (a - b) = a - b) (hb : wrap64 (b - a) = b - a) : mx (wrap64 (a - b)) (wrap64 (b - a)) < 2 ↔ (-1 ≤ b - a ∧ b - a ≤ 1) := by
  rw [ha, hb]; unfold mx; split <;> omega
theorem wp1 {i : Nat} (h : 0 < i) (h2 : i < 1000) : wrap64 ((i : Int) - 1) = ((i - 1 : Nat) : Int) := by rw [w64 (by omega) (by omega)]; omega
theorem wsub {a b n : Int} (ha : 0 ≤ a ∧ a < n) (hb : 0 ≤ b ∧ b < n) (hn : n ≤ 6) : wrap64 (a - b) = a - b := w64 (by omega) (by omega)
theorem pos_int {i : Nat} (h : 0 < i) : (i : Int) > 0 := by omega
theorem npos_int {i : Nat} (h : ¬ 0 < i) : ¬ (i : Int) > 0 := by omega
theorem impl_fit_l (l : List Int) (n : Int) (s : List Int) (ha : areasV l n = true) (hs : (s.length : Int) ≤ n) : ∀ (d i : Nat), s.length = i + d → (∀ j, j < i → 0 ≤ rd s j ∧ rd s j < n) →
    Ev (fun k => impl_StarsFit.l0 k l n s (colsAt s i) (usedAt l n s i) i) ((List.range' i d).all (okB l n s)) := by
  obtain ⟨h1, h2, hl, hv⟩ := areasV_ok ha
  intro d
  induction d with
  | zero =>
    intro i hi h
    exact Ev.step (fun k => by rw [impl_StarsFit.l0]) (Ev.ifn (by omega) (Ev.eq (Ev.now _) (by simp)))
  | succ d ih =>
    intro i hi h
    rw [List.range'_succ, List.all_cons]
    have fls : okB l n s i = false → false = (okB l n s i && (List.range' (i + 1) d).all (okB l n s)) := fun e => by rw [e]; rfl
    refine Ev.step (fun k => by rw [impl_StarsFit.l0]) (Ev.ifp (by omega) (Ev.ifp (by omega) ?_))
    by_cases c1 : rd s i < 0
    · exact Ev.ifp c1 (Ev.eq (Ev.now _) (fls (by rw [okB_alt]; simp; omega)))
    by_cases c2 : rd s i ≥ n
    · exact Ev.ifn c1 (Ev.ifp c2 (Ev.eq (Ev.now _) (fls (by rw [okB_alt]; simp; omega))))
    have hi1000 : i < 1000 := by omega
    have vi : 0 ≤ rd s i ∧ rd s i < n := ⟨Int.not_lt.mp c1, Int.not_le.mp c2⟩
    have h' : ∀ j, j < i + 1 → 0 ≤ rd s j ∧ rd s j < n := by
      intro j hj
      by_cases hji : j = i
      · rw [hji]; exact ⟨Int.not_lt.mp c1, Int.not_le.mp c2⟩
      · exact h j (Nat.lt_of_le_of_ne (Nat.lt_succ_iff.mp hj) hji)
    have ai := at_lt (n := n) (v := rd s i) (i := i) ⟨h1, h2⟩ (by omega) (by omega) (by omega)
    have va := hv _ ai.2.2.1 (by omega)
    have hw : wrap64 ((i : Int) + 1) = ((i + 1 : Nat) : Int) := by rw [w64 (by omega) (by omega)]; omega
    refine Ev.ifn c1 (Ev.ifn c2 (Ev.ifp (by omega) ?_))
    rw [ai.1, ai.2.1]
    have eR : decide (0 ≤ rd s i ∧ rd s i < n) = true := by simp; omega
    have gc : rdOf false (colsAt s i) (rd s i) = (List.range i).any (fun j => rd s j == rd s i) := by
      unfold colsAt
      rw [tab_get (by omega) (by omega), Int.toNat_of_nonneg (by omega)]
    have gu : rdOf false (usedAt l n s i) (rd l ((i : Int) * n + rd s i)) = (List.range i).any (fun j => arAt l n s j == arAt l n s i) := by
      unfold usedAt
      rw [tab_get va.1 (by omega), Int.toNat_of_nonneg va.1]; rfl
    by_cases c3 : rdOf false (colsAt s i) (rd s i) = true
    · exact Ev.ifp c3 (Ev.eq (Ev.now _) (fls (by rw [okB_alt, ← gc, c3]; simp)))
    refine Ev.ifn c3 (Ev.ifp ai.2.2.1 (Ev.ifp (by omega) (Ev.ifp va.1 (Ev.ifp (by omega) ?_))))
    by_cases c4 : rdOf false (usedAt l n s i) (rd l ((i : Int) * n + rd s i)) = true
    · exact Ev.ifp c4 (Ev.eq (Ev.now _) (fls (by rw [okB_alt, ← gu, c4]; simp)))
    refine Ev.ifn c4 ?_
    have e1 : (colsAt s i).set (rd s i).toNat true = colsAt s (i + 1) := tab_set (fun j => rd s j) i (by omega) (by omega)
    have e2 : (usedAt l n s i).set (rd l ((i : Int) * n + rd s i)).toNat true = usedAt l n s (i + 1) := tab_set (fun j => arAt l n s j) i va.1 (by show arAt l n s i < 6; unfold arAt; omega)
    have H := ih (i + 1) (by omega) h'
    rw [e1, e2, hw]
    by_cases c5 : 0 < i
    · have hw1 : wrap64 ((i : Int) - 1) = ((i - 1 : Nat) : Int) := wp1 c5 hi1000
      have vp := h (i - 1) (Nat.sub_lt c5 Nat.one_pos)
      rw [hw1]
      have hm := mx_lt (a := rd s i) (b := rd s ((i - 1 : Nat) : Int)) (wsub vi vp h2) (wsub vp vi h2)
      refine Ev.ifp (pos_int c5) ?_
      by_cases c6 : -1 ≤ rd s ((i - 1 : Nat) : Int) - rd s i ∧ rd s ((i - 1 : Nat) : Int) - rd s i ≤ 1
      · exact Ev.ifp (hm.2 c6) (Ev.eq (Ev.now _) (fls (by rw [okB_alt, decide_eq_true c6, decide_eq_true c5]; simp)))
      · refine Ev.ifn (fun e => c6 (hm.1 e)) (Ev.eq H ?_)
        rw [okB_alt, eR, ← gc, ← gu, Bool.eq_false_iff.mpr c3, Bool.eq_false_iff.mpr c4, decide_eq_false c6]; simp
    · refine Ev.ifn (npos_int c5) (Ev.eq H ?_)
      rw [okB_alt, eR, ← gc, ← gu, Bool.eq_false_iff.mpr c3, Bool.eq_false_iff.mpr c4, decide_eq_false c5]; simp
theorem impl_fit (l : List Int) (n : Int) (s : List Int) (hl : l.length ≤ 140737488351232) : Ev (fun k => impl_StarsFit.f k l n s) (starsV l n s) := by
  unfold impl_StarsFit.f
  refine Ev.bind (impl_areas l n hl) ?_
  by_cases c : areasV l n = true
  · refine Ev.ifp c ?_
    by_cases c2 : (s.length : Int) > n
    · refine Ev.ifp c2 (Ev.eq (Ev.now _) ?_)
      unfold starsV
      have : decide ((s.length : Int) ≤ n) = false := by simp; omega
      rw [this]; simp
    · have H : Ev (fun k => impl_StarsFit.l0 k l n s (colsAt s 0) (usedAt l n s 0) 0) ((List.range' 0 s.length).all (okB l n s)) := impl_fit_l l n s c (by omega) s.length 0 (by omega) (fun j hj => by omega)
      refine Ev.ifn c2 (Ev.eq H ?_)
      unfold starsV
      have : decide ((s.length : Int) ≤ n) = true := by simp; omega
      rw [this, c, List.range_eq_range']; simp
  · refine Ev.ifn c (Ev.eq (Ev.now _) ?_)
    unfold starsV
    rw [Bool.eq_false_iff.mpr c]; rfl
def sols (l : List Int) (n : Int) : Nat → List Int → List (List Int)
  | 0, s => [s]
  | d + 1, s => (List.range n.toNat).flatMap (fun c : Nat => if starsV l n (s ++ [(c : Int)]) = true then sols l n d (s ++ [(c : Int)]) else [])
theorem flat_len {α β : Type} (f : α → List β) (B : Nat) : ∀ xs : List α, (∀ x ∈ xs, (f x).length ≤ B) → (xs.flatMap f).length ≤ xs.length * B
  | [], _ => by simp
  | x :: xs, h => by
    rw [List.flatMap_cons, List.length_append, List.length_cons, Nat.succ_mul]
    have h1 := h x List.mem_cons_self
    have h2 := flat_len f B xs (fun y hy => h y (List.mem_cons_of_mem _ hy))
    omega
theorem sols_len (l : List Int) (n : Int) : ∀ (d : Nat) (s : List Int), (sols l n d s).length ≤ n.toNat ^ d
  | 0, s => by simp [sols]
  | d + 1, s => by
    unfold sols
    have h := flat_len (fun c : Nat => if starsV l n (s ++ [(c : Int)]) = true then sols l n d (s ++ [(c : Int)]) else []) (n.toNat ^ d) (List.range n.toNat) (fun c _ => by
      split
      · exact sols_len l n d _
      · simp)
    rw [List.length_range] at h
    rw [Nat.pow_succ, Nat.mul_comm]
    exact h
theorem sols_top (l : List Int) (n : Int) (h : 1 ≤ n ∧ n ≤ 6) : (sols l n n.toNat []).length ≤ 46656 := by
  refine Nat.le_trans (sols_len l n n.toNat []) ?_
  rcases six h with rfl | rfl | rfl | rfl | rfl | rfl <;> decide
theorem flat_le {α β : Type} (f : α → List β) : ∀ (xs ys : List α), ((xs ++ ys).flatMap f).length = (xs.flatMap f).length + (ys.flatMap f).length := fun xs ys => by rw [List.flatMap_append, List.length_append]
theorem spec_search (l : List Int) (n : Int) (hl : l.length ≤ 140737488351232) (hn : 0 ≤ n ∧ n ≤ 6) : ∀ (d : Nat) (s : List Int) (out : List (List Int)), (s.length : Int) + d = n → out.length + (sols l n d s).length ≤ 4398046511104 →
    Ev (fun k => spec_l15Search.f k l n s out) (out ++ sols l n d s) := by
  intro d
  induction d with
  | zero =>
    intro s out hs hb
    have h1 : (s.length : Int) = n := by omega
    have h2 : out.length < 4398046511104 := hb
    refine Ev.step (fun k => by rw [spec_l15Search.f]) ?_
    exact Ev.ifp h1 (Ev.ifp h2 (Ev.now _))
  | succ d ih =>
    intro s out hs
    have h1 : ¬ (s.length : Int) = n := by omega
    have h2 : s.length < 4398046511104 := by omega
    have loop : ∀ (e c : Nat) (out : List (List Int)), n.toNat = c + e → out.length + ((List.range' c e).flatMap (fun c : Nat => if starsV l n (s ++ [(c : Int)]) = true then sols l n d (s ++ [(c : Int)]) else [])).length ≤ 4398046511104 →
        Ev (fun k => spec_l15Search.l0 k l n s out c) (out ++ (List.range' c e).flatMap (fun c : Nat => if starsV l n (s ++ [(c : Int)]) = true then sols l n d (s ++ [(c : Int)]) else [])) := by
      intro e
      induction e with
      | zero =>
        intro c out hc _
        have q : ¬ (c : Int) < n := by omega
        exact Ev.step (fun k => by rw [spec_l15Search.l0]) (Ev.ifn q (Ev.eq (Ev.now _) (by simp)))
      | succ e ihe =>
        intro c out hc
        have hw : wrap64 ((c : Int) + 1) = ((c + 1 : Nat) : Int) := by rw [w64 (by omega) (by omega)]; omega
        have q : (c : Int) < n := by omega
        have q2 : n.toNat = c + 1 + e := by omega
        have q3 : ((s ++ [(c : Int)]).length : Int) + d = n := by rw [List.length_append, List.length_singleton]; omega
        rw [List.range'_succ, List.flatMap_cons, List.length_append]
        intro hb
        refine Ev.step (fun k => by rw [spec_l15Search.l0, hw]) (Ev.ifp q (Ev.ifp h2 (Ev.bind (spec_fit l n _ hl) ?_)))
        by_cases c1 : starsV l n (s ++ [(c : Int)]) = true
        · rw [if_pos c1] at hb ⊢
          refine Ev.ifp c1 (Ev.bind (ih _ out q3 (Nat.le_trans (Nat.add_le_add_left (Nat.le_add_right _ _) _) hb)) ?_)
          rw [← List.append_assoc]
          exact ihe (c + 1) _ q2 (by rw [List.length_append, Nat.add_assoc]; exact hb)
        · rw [if_neg c1] at hb ⊢
          refine Ev.ifn c1 ?_
          rw [List.nil_append]
          rw [List.length_nil, Nat.zero_add] at hb
          exact ihe (c + 1) _ q2 hb
    intro hb
    have h0 := loop n.toNat 0 out (by omega) (by rw [← List.range_eq_range']; exact hb)
    rw [← List.range_eq_range'] at h0
    have h3 : Ev (fun k => spec_l15Search.l0 k l n s out 0) (out ++ sols l n (d + 1) s) := h0
    refine Ev.step (fun k => by rw [spec_l15Search.f]) ?_
    exact Ev.ifn h1 h3
theorem starsV_nil {l : List Int} {n : Int} (h : areasV l n = true) : starsV l n [] = true := by
  have := areasV_ok h
  unfold starsV
  rw [h]; simp; omega
theorem spec_all (l : List Int) (n : Int) (hl : l.length ≤ 140737488351232) : Ev (fun k => spec_l15All.f k l n) (if areasV l n = true then sols l n n.toNat [] else []) := by
  unfold spec_l15All.f
  refine Ev.bind (spec_areas l n hl) ?_
  by_cases c : areasV l n = true
  · have ha := areasV_ok c
    have hb := sols_top l n (by omega)
    have h1 := spec_search l n hl (by omega) n.toNat [] [] (by simp; omega) (by simp; omega)
    rw [if_pos c]
    exact Ev.ifp c (Ev.eq h1 (by simp))
  · rw [if_neg c]
    exact Ev.ifn c (Ev.now _)
theorem starsV_iff {l l' : List Int} {n : Int} {s t : List Int} (ha : areasV l n = areasV l' n) (hl : s.length = t.length) (hr : ∀ i : Nat, i < s.length → (0 ≤ rd s i ∧ rd s i < n ↔ 0 ≤ rd t i ∧ rd t i < n))
    (hp : areasV l n = true → (s.length : Int) ≤ n → ∀ j i : Nat, j < i → i < s.length → (0 ≤ rd s j ∧ rd s j < n) → (0 ≤ rd s i ∧ rd s i < n) → pairB l n s j i = pairB l' n t j i) : starsV l n s = starsV l' n t := by
  unfold starsV
  rw [← ha, ← hl]
  by_cases c1 : areasV l n = true
  · by_cases c2 : (s.length : Int) ≤ n
    · rw [c1, decide_eq_true c2]
      simp only [Bool.true_and]
      have hp := hp c1 c2
      rw [Bool.eq_iff_iff, List.all_eq_true, List.all_eq_true]
      unfold okB
      simp only [List.mem_range, Bool.and_eq_true, decide_eq_true_eq, List.all_eq_true]
      constructor
      · intro h i hi
        exact ⟨(hr i hi).1 (h i hi).1, fun j hj => by rw [← hp j i hj hi (h j (by omega)).1 (h i hi).1]; exact (h i hi).2 j hj⟩
      · intro h i hi
        exact ⟨(hr i hi).2 (h i hi).1, fun j hj => by rw [hp j i hj hi ((hr j (by omega)).2 (h j (by omega)).1) ((hr i hi).2 (h i hi).1)]; exact (h i hi).2 j hj⟩
    · rw [decide_eq_false c2]; simp
  · rw [Bool.eq_false_iff.mpr c1]; rfl
theorem sols_congr {l l' : List Int} {n : Int} (h : ∀ s, starsV l n s = starsV l' n s) : ∀ (d : Nat) (s : List Int), sols l n d s = sols l' n d s
  | 0, s => rfl
  | d + 1, s => by
    unfold sols
    congr 1
    funext c
    rw [h, sols_congr h d]
theorem sum_rev (g : Nat → Nat) : ∀ n : Nat, ((List.range n).map (fun c => g (n - 1 - c))).sum = ((List.range n).map g).sum
  | 0 => rfl
  | n + 1 => by
    have h := sum_rev g n
    rw [List.range_succ_eq_map, List.map_cons, List.sum_cons, List.map_map, ← List.range_succ_eq_map, List.range_succ, List.map_append, List.sum_append, List.map_singleton, List.sum_singleton]
    have e : (List.range n).map ((fun c => g (n + 1 - 1 - c)) ∘ Nat.succ) = (List.range n).map (fun c => g (n - 1 - c)) := by
      apply List.map_congr_left
      intro c hc
      show g (n + 1 - 1 - (c + 1)) = g (n - 1 - c)
      congr 1; omega
    rw [e, h]
    simp only [Nat.add_sub_cancel, Nat.sub_zero]
    omega
def mirS (n : Int) (s : List Int) : List Int := s.map (fun v => n - 1 - v)
theorem mir_rd (n : Int) (s : List Int) (i : Nat) (h : i < s.length) : rd (mirS n s) i = n - 1 - rd s i := by
  unfold mirS
  rw [rd_nat _ i (by simpa using h), List.getElem_map, rd_nat s i h]
theorem flat_sum {α β : Type} (f : α → List β) (xs : List α) : (xs.flatMap f).length = (xs.map (fun x => (f x).length)).sum := by
  induction xs with
  | nil => rfl
  | cons x xs ih => rw [List.flatMap_cons, List.length_append, ih, List.map_cons, List.sum_cons]
theorem sols_mir {l l' : List Int} {n : Int} (hn : 0 ≤ n) (h : ∀ s, starsV l' n s = starsV l n (mirS n s)) : ∀ (d : Nat) (s : List Int), (sols l' n d s).length = (sols l n d (mirS n s)).length
  | 0, s => rfl
  | d + 1, s => by
    unfold sols
    rw [flat_sum, flat_sum, ← sum_rev (fun c : Nat => (if starsV l n (mirS n s ++ [(c : Int)]) = true then sols l n d (mirS n s ++ [(c : Int)]) else []).length)]
    congr 1
    apply List.map_congr_left
    intro c hc
    rw [List.mem_range] at hc
    have e : mirS n (s ++ [(c : Int)]) = mirS n s ++ [((n.toNat - 1 - c : Nat) : Int)] := by
      unfold mirS
      rw [List.map_append, List.map_singleton]
      congr 2; omega
    rw [h, e]
    by_cases c1 : starsV l n (mirS n s ++ [((n.toNat - 1 - c : Nat) : Int)]) = true
    · rw [if_pos c1, if_pos c1, sols_mir hn h d, e]
    · rw [if_neg c1, if_neg c1]
theorem mem_sols {l : List Int} {n : Int} : ∀ (d : Nat) (s x : List Int), starsV l n s = true → x ∈ sols l n d s → starsV l n x = true ∧ x.length = s.length + d
  | 0, s, x, h, hx => by
    simp only [sols, List.mem_singleton] at hx
    subst hx
    exact ⟨h, rfl⟩
  | d + 1, s, x, h, hx => by
    unfold sols at hx
    rw [List.mem_flatMap] at hx
    obtain ⟨c, _, hx⟩ := hx
    split at hx
    · rename_i hv
      obtain ⟨h1, h2⟩ := mem_sols d _ x hv hx
      rw [List.length_append, List.length_singleton] at h2
      exact ⟨h1, by omega⟩
    · simp at hx
def firstV (l : List Int) (n : Int) : List Int × Bool := if areasV l n = true then (match sols l n n.toNat [] with | [] => ([], false) | x :: _ => (x, true)) else ([], false)
theorem spec_first (l : List Int) (n : Int) (hl : l.length ≤ 140737488351232) : Ev (fun k => spec_StarsFirst.f k l n) (firstV l n) := by
  unfold spec_StarsFirst.f firstV
  refine Ev.bind (spec_all l n hl) ?_
  by_cases c : areasV l n = true
  · rw [if_pos c, if_pos c]
    cases e : sols l n n.toNat [] with
    | nil => exact Ev.ifp rfl (Ev.now _)
    | cons x t => exact Ev.ifn (by show ¬ ((t.length + 1 : Nat) : Int) = 0; omega) (Ev.ifp (by show (0 : Int) < ((t.length + 1 : Nat) : Int); omega) (Ev.now _))
  · rw [if_neg c, if_neg c]; exact Ev.ifp rfl (Ev.now _)
theorem firstV_len (l : List Int) (n : Int) : (firstV l n).1.length ≤ 6 := by
  unfold firstV
  by_cases c : areasV l n = true
  · rw [if_pos c]
    have ha := areasV_ok c
    cases e : sols l n n.toNat [] with
    | nil => simp
    | cons x t =>
      have h := mem_sols n.toNat [] x (starsV_nil c) (by rw [e]; exact List.mem_cons_self)
      show x.length ≤ 6
      have := h.2
      simp at this
      omega
  · rw [if_neg c]; simp
theorem stars_l {b : List Int} (hb : Byts b) (ar : List Int) (sd : Int) (hs : 0 ≤ sd ∧ sd ≤ 7) : ∀ (d : Nat) (y : List Int) (p : Int), y.length + d ≤ 100 → 0 ≤ p → p ≤ 10000 - 2 * d →
    ∃ z, Ev (fun k => spec_DrawStarsFit.l0 k b ar sd y d p) (ar, sd, z) ∧ z.length ≤ 100 := by
  intro d
  induction d with
  | zero =>
    intro y p hy hp hp1
    exact ⟨y, Ev.step (fun k => by rw [spec_DrawStarsFit.l0]) (Ev.ifn (by omega) (Ev.now _)), by omega⟩
  | succ d ih =>
    intro y p hy hp hp1
    have hm : mx 1 sd ≤ 7 ∧ 1 ≤ mx 1 sd := by unfold mx; split <;> omega
    have hw0 : wrap64 (mx 1 sd + 1) = mx 1 sd + 1 := w64 (by omega) (by omega)
    obtain ⟨u, e1, h1, h2, _⟩ := pick_any hb (p := p) hp (by omega) (mx 1 sd + 1) (by omega)
    obtain ⟨v, e2, h3, h4, _⟩ := pick_any hb (p := p + 1) (by omega) (by omega) 9 (by omega)
    have hw : wrap64 (((d + 1 : Nat) : Int) - 1) = (d : Int) := by rw [w64 (by omega) (by omega)]; omega
    obtain ⟨z, e3, hz⟩ := ih (y ++ [wrap64 (u - wrap64 (Int.tdiv v 8))]) (p + 1 + 1) (by rw [List.length_append, List.length_singleton]; omega) (by omega) (by omega)
    refine ⟨z, Ev.step (fun k => by rw [spec_DrawStarsFit.l0, hw, hw0]) ?_, hz⟩
    exact Ev.ifp (by omega) (Ev.ifp (by omega) (Ev.bind e1 (Ev.bind e2 e3)))
theorem stars_r {b : List Int} (hb : Byts b) (ar : List Int) (sd : Int) (hs : 0 ≤ sd ∧ sd ≤ 7) (y : List Int) (p : Int) (hy : y.length ≤ 50) (hp : 0 ≤ p) (hp1 : p ≤ 1000) : ∃ z, Ev (fun k => spec_DrawStarsFit.r k b ar sd y p) (ar, sd, z) ∧ z.length ≤ 100 := by
  obtain ⟨n, e, h1, h2, _⟩ := pick_any hb (p := p) hp (by omega) 3 (by omega)
  have h2 := h2 (by omega)
  obtain ⟨z, e3, hz⟩ := stars_l hb ar sd hs n.toNat y (p + 1) (by omega) (by omega) (by omega)
  rw [Int.toNat_of_nonneg h1] at e3
  exact ⟨z, by unfold spec_DrawStarsFit.r; exact Ev.bind e e3, hz⟩
theorem draw_stars (l : List Int) (h : l.length ≤ maxLen) (hb : ∀ x ∈ l, (Lit.int .u8 x).wf = true) : ∃ ar sd st, Ev (fun k => spec_DrawStarsFit.f k l) (ar, sd, st) ∧ ar.length ≤ 36 ∧ st.length ≤ 100 := by
  obtain ⟨b, e, hB⟩ := open_ok l h hb
  obtain ⟨⟨a, s, p⟩, e1, hq⟩ := drawAreas hB 12 (by omega)
  have hl := hq.len
  have hs0 := hq.s0
  have hs1 := hq.s1
  have hp0 := hq.p0
  have hp1 := hq.p1
  simp only at hl hs0 hs1 hp0 hp1
  have hf := spec_first a s (by omega)
  have hfl := firstV_len a s
  unfold spec_DrawStarsFit.f
  generalize hV : firstV a s = V at hf hfl
  obtain ⟨x, ok⟩ := V
  simp only at hfl
  cases ok with
  | false =>
    obtain ⟨z, e2, hz⟩ := stars_r hB a s ⟨hs0, hs1⟩ [] p (by simp) hp0 (by omega)
    exact ⟨a, s, z, Ev.bindc e (Ev.bind e1 (Ev.bind hf (Ev.ifn (by simp) e2))), hl, hz⟩
  | true =>
    obtain ⟨r, e2, h1, h2, _⟩ := pick_any hB (p := p) hp0 (by omega) 2 (by omega)
    by_cases c : r = 0
    · have hw : wrap64 ((x.length : Int) + 1) = (x.length : Int) + 1 := w64 (by omega) (by omega)
      obtain ⟨m, e3, h3, h4, _⟩ := pick_any hB (p := p + 1) (by omega) (by omega) ((x.length : Int) + 1) (by omega)
      have h4 := h4 (by omega)
      obtain ⟨z, e4, hz⟩ := stars_r hB a s ⟨hs0, hs1⟩ (x.take m.toNat) (p + 1 + 1) (by rw [List.length_take]; omega) (by omega) (by omega)
      refine ⟨a, s, z, Ev.bindc e (Ev.bind e1 (Ev.bind hf (Ev.ifp rfl (Ev.bind e2 (Ev.ifp c ?_))))), hl, hz⟩
      show Ev (fun k => (spec_l20Rd_pick.f k b (p + 1) (wrap64 ((x.length : Int) + 1))).bind _) _
      rw [hw]
      exact Ev.bind e3 (Ev.ifp h3 (Ev.ifp (by show m ≤ (x.length : Int); omega) e4))
    · obtain ⟨z, e3, hz⟩ := stars_r hB a s ⟨hs0, hs1⟩ [] (p + 1) (by simp) (by omega) (by omega)
      exact ⟨a, s, z, Ev.bindc e (Ev.bind e1 (Ev.bind hf (Ev.ifp rfl (Ev.bind e2 (Ev.ifn c e3))))), hl, hz⟩
theorem fit_take {l : List Int} {n : Int} {s : List Int} (h : starsV l n s = true) (m : Nat) : starsV l n (s.take m) = true := by
  unfold starsV at h ⊢
  simp only [Bool.and_eq_true, decide_eq_true_eq, List.all_eq_true, List.mem_range] at h ⊢
  obtain ⟨⟨h1, h2⟩, h3⟩ := h
  have hl : (s.take m).length ≤ s.length := by rw [List.length_take]; omega
  refine ⟨⟨h1, by omega⟩, fun i hi => ?_⟩
  have e : ∀ j : Nat, j ≤ i → rd (s.take m) j = rd s j := fun j hj => by
    rw [rd_nat _ j (by omega), rd_nat s j (by omega), List.getElem_take]
  have := h3 i (by omega)
  unfold okB pairB arAt at this ⊢
  rw [e i (Nat.le_refl _)]
  simp only [Bool.and_eq_true, decide_eq_true_eq, List.all_eq_true, List.mem_range] at this ⊢
  exact ⟨this.1, fun j hj => by rw [e j (by omega)]; exact this.2 j hj⟩
theorem fit_twice {l : List Int} {n : Int} {s : List Int} (h0 : 0 < s.length) : starsV l n (s ++ [rd s 0]) = false := by
  rw [Bool.eq_false_iff]
  intro h
  unfold starsV at h
  simp only [Bool.and_eq_true, decide_eq_true_eq, List.all_eq_true, List.mem_range] at h
  have h1 := h.2 s.length (by rw [List.length_append, List.length_singleton]; omega)
  unfold okB at h1
  simp only [Bool.and_eq_true, decide_eq_true_eq, List.all_eq_true, List.mem_range] at h1
  have h2 := h1.2 0 h0
  unfold pairB at h2
  simp only [Bool.and_eq_true, Bool.not_eq_true', beq_eq_false_iff_ne] at h2
  apply h2.1.1
  have a1 : rd (s ++ [rd s 0]) ((0 : Nat) : Int) = rd s 0 := by
    rw [rd_nat _ 0 (by rw [List.length_append, List.length_singleton]; omega), List.getElem_append_left h0]
    exact (rd_nat s 0 h0).symm
  have a2 : rd (s ++ [rd s 0]) ((s.length : Nat) : Int) = rd s 0 := by
    rw [rd_nat _ s.length (by rw [List.length_append, List.length_singleton]; omega)]
    simp
  rw [a1, a2]
theorem FnStarsFit : laws_FnStarsFit.Pure := by
  intro l h _ hb
  apply Ev.rounds
  unfold laws_FnStarsFit.f
  by_cases c0 : (l.length : Int) > 1048576
  · exact Ev.ifp c0 (Ev.now _)
  refine Ev.ifn c0 ?_
  obtain ⟨ar, sd, st, e, h1, h2⟩ := draw_stars l h hb
  refine Ev.bind e (Ev.bind (impl_fit ar sd st (by omega)) (Ev.bind (spec_fit ar sd st (by omega)) (Ev.ifn (by simp) ?_)))
  by_cases c : starsV ar sd st = true
  · refine Ev.ifp c ?_
    by_cases c1 : (st.length : Int) = 0
    · exact Ev.ifp c1 alive_ev
    · refine Ev.ifn c1 (Ev.ifp (by show st.length < 4398046511104; omega) (Ev.bind (impl_fit ar sd _ (by omega)) (Ev.ifp (fit_take c _) (Ev.bind (impl_fit ar sd _ (by omega)) (Ev.eq (Ev.now _) ?_)))))
      have hp : 0 < st.length := by omega
      show (!(starsV ar sd (st ++ [rd st 0]))) = true
      rw [fit_twice hp]; rfl
  · exact Ev.ifn c alive_ev

end Go.Proofs.Ytcghheaelgjnfaa.Pure
