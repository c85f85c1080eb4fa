/- For every code: at the areas and the side that the code draws AreasValid answers what the reference answers; without its last cell, and with an area that does not exist, valid areas are invalid. No conditions beyond the code being bytes. -/
import Derived.Test.YtbnpdiahogigiaaPFnAreasValidx4
namespace Go.Proofs.Ytbnpdiahogigiaa.Pure
open Go.RowKit Go.Proofs.Ytbnpdiahogigiaa.PFnAreasValid Go.Proofs.YtbnpdiahogigiaaW.PrintWords Go.Proofs.YtbnpdiahogigiaaW.PrintLast Go.Proofs.YtbnpdiahogigiaaW.PrintMore
set_option linter.unusedVariables false
set_option linter.unusedSimpArgs false
/-! Ev: small steps. -/
theorem _root_.Go.Proofs.YtbnpdiahogigiaaW.PrintWords.Ev.ifp {α : Type} {c : Prop} [Decidable c] {g f : Nat → Option α} {r : α} (hc : c) (h : Ev g r) : Ev (fun k => if c then g k else f k) r :=
  Ev.congr (fun _ => if_pos hc) h
theorem _root_.Go.Proofs.YtbnpdiahogigiaaW.PrintWords.Ev.ifn {α : Type} {c : Prop} [Decidable c] {g f : Nat → Option α} {r : α} (hc : ¬ c) (h : Ev f r) : Ev (fun k => if c then g k else f k) r :=
  Ev.congr (fun _ => if_neg hc) h
theorem _root_.Go.Proofs.YtbnpdiahogigiaaW.PrintWords.Ev.bindc {α β : Type} {o : Option α} {f : Nat → α → Option β} {a : α} {r : β} (h : o = some a) (k : Ev (fun n => f n a) r) : Ev (fun n => o.bind (f n)) r := by
  subst h; exact k
theorem _root_.Go.Proofs.YtbnpdiahogigiaaW.PrintWords.Ev.eq {α : Type} {g : Nat → Option α} {r r' : α} (h : Ev g r) (e : r = r') : Ev g r' := e ▸ h
theorem _root_.Go.Proofs.YtbnpdiahogigiaaW.PrintWords.Ev.cst {α : Type} {o : Option α} {r : α} (h : o = some r) : Ev (fun _ => o) r := ⟨0, fun _ _ => h⟩
theorem w64 {x : Int} (h0 : -9223372036854775808 ≤ x) (h1 : x ≤ 9223372036854775807) : wrap64 x = x := by unfold wrap64; omega
theorem wf_i64 {x : Int} (h : (Lit.int .i64 x).wf = true) : -9223372036854775808 ≤ x ∧ x ≤ 9223372036854775807 := by
  have h2 : (decide (IntKind.i64.min ≤ x) && decide (x ≤ IntKind.i64.max)) = true := h
  simp [IntKind.min, IntKind.max, IntKind.bits, IntKind.signed] at h2
  exact h2
theorem wf_u8 {x : Int} (h : (Lit.int .u8 x).wf = true) : 0 ≤ x ∧ x ≤ 255 := by
  have h2 : (decide (IntKind.u8.min ≤ x) && decide (x ≤ IntKind.u8.max)) = true := h
  simp [IntKind.min, IntKind.max, IntKind.bits, IntKind.signed] at h2
  omega
theorem rd_nat (xs : List Int) (i : Nat) (h : i < xs.length) : rd xs (i : Int) = xs[i] := by
  simp [rd, List.getD_eq_getElem?_getD, h]
theorem rd_mem (xs : List Int) (i : Int) (h0 : 0 ≤ i) (h : i < xs.length) : rd xs i ∈ xs := by
  obtain ⟨n, rfl⟩ := Int.eq_ofNat_of_zero_le h0
  rw [rd_nat xs n (by omega)]; exact List.getElem_mem _
theorem l1In_f (a b c : Int) : spec_l1In.f a b c = some (decide (b ≤ a ∧ a ≤ c)) := by
  unfold spec_l1In.f
  by_cases h : a ≥ b
  · rw [if_pos h]; simp; omega
  · rw [if_neg h]; simp; omega
/-- What AreasValid answers. -/
def areasV (l : List Int) (s : Int) : Bool := decide (1 ≤ s ∧ s ≤ 6 ∧ (l.length : Int) = s * s) && l.all (fun x => decide (0 ≤ x ∧ x < s))
theorem six {s : Int} (h : 1 ≤ s ∧ s ≤ 6) : s = 1 ∨ s = 2 ∨ s = 3 ∨ s = 4 ∨ s = 5 ∨ s = 6 := by omega
theorem sq_six {s : Int} (h : 1 ≤ s ∧ s ≤ 6) : wrap64 (s * s) = s * s ∧ 1 ≤ s * s ∧ s * s ≤ 36 := by
  rcases six h with rfl | rfl | rfl | rfl | rfl | rfl <;> decide +kernel
theorem impl_areas_l (l : List Int) (s : Int) (hl : l.length ≤ 140737488351232) : ∀ (d i : Nat), l.length = i + d →
    Ev (fun k => impl_AreasValid.l0 k s l l.length i) ((l.drop i).all (fun x => decide (0 ≤ x ∧ x < s))) := by
  intro d
  induction d with
  | zero =>
    intro i hi
    refine Ev.step (f := fun _ => some true) (fun k => ?_) ((Ev.now _).eq (by rw [List.drop_eq_nil_of_le (by omega)]; rfl))
    rw [impl_AreasValid.l0]; rw [if_neg (by omega)]
  | succ d ih =>
    intro i hi
    have hlt : i < l.length := by omega
    have hw : wrap64 ((i : Int) + 1) = ((i + 1 : Nat) : Int) := by rw [w64 (by omega) (by omega)]; omega
    rw [List.drop_eq_getElem_cons hlt, List.all_cons]
    by_cases c : 0 ≤ l[i] ∧ l[i] < s
    · refine Ev.step (f := fun k => impl_AreasValid.l0 k s l l.length ((i + 1 : Nat) : Int)) (fun k => ?_) ((ih (i + 1) (by omega)).eq (by simp [c]))
      rw [impl_AreasValid.l0]
      rw [if_pos (by omega), if_pos (by omega), if_pos (by omega), rd_nat l i hlt, if_neg (by omega), if_neg (by omega), hw]
    · refine Ev.step (f := fun k => some false) (fun k => ?_) ((Ev.now _).eq (by simp [c]))
      rw [impl_AreasValid.l0]
      rw [if_pos (by omega), if_pos (by omega), if_pos (by omega), rd_nat l i hlt]
      by_cases c1 : l[i] < 0
      · rw [if_pos c1]
      · rw [if_neg c1, if_pos (by omega)]
theorem impl_areas (l : List Int) (s : Int) (hl : l.length ≤ 140737488351232) : Ev (fun k => impl_AreasValid.f k l s) (areasV l s) := by
  have no : ∀ b : Bool, b = true → areasV l s = false → Ev (fun k => impl_AreasValid.j0 k l s b) (areasV l s) := by
    intro b hb h
    refine Ev.step (f := fun _ => some false) (fun k => ?_) ((Ev.now _).eq h.symm)
    rw [impl_AreasValid.j0]; rw [if_pos hb]
  unfold impl_AreasValid.f
  by_cases c1 : s < 1
  · exact Ev.ifp c1 (no _ rfl (by unfold areasV; simp; omega))
  refine Ev.ifn c1 ?_
  by_cases c2 : s > 6
  · exact Ev.ifp c2 (no _ rfl (by unfold areasV; simp; omega))
  refine Ev.ifn c2 ?_
  have hs := sq_six (s := s) (by omega)
  rw [hs.1]
  by_cases c3 : (l.length : Int) = s * s
  · refine Ev.step (f := fun k => impl_AreasValid.l0 k s l l.length ((0 : Nat) : Int)) (fun k => ?_) ((impl_areas_l l s hl l.length 0 (by omega)).eq ?_)
    · rw [impl_AreasValid.j0]; rw [if_neg (by simp [c3])]; rfl
    · unfold areasV
      have : decide (1 ≤ s ∧ s ≤ 6 ∧ (l.length : Int) = s * s) = true := by simp; omega
      rw [this]; simp
  · exact no _ (by simp [c3]) (by unfold areasV; simp [c3])
theorem spec_areas_l (l : List Int) (s : Int) (hl : l.length ≤ 140737488351232) : ∀ (d i : Nat), l.length = i + d →
    Ev (fun k => spec_AreasValid.l0 k l s i) ((l.drop i).all (fun x => decide (0 ≤ x ∧ x ≤ wrap64 (s - 1))) && decide (1 ≤ s ∧ s ≤ 6 ∧ (l.length : Int) = s * s)) := by
  intro d
  induction d with
  | zero =>
    intro i hi
    refine Ev.step (f := fun _ => (spec_l1In.f s 1 6).bind fun t103 => (if t103 = true then (some ((l.length : Int) == (wrap64 (s * s)))) else (some false))) (fun k => ?_) ?_
    · rw [spec_AreasValid.l0]; rw [if_neg (by omega)]
    · refine Ev.bindc (l1In_f s 1 6) ?_
      rw [List.drop_eq_nil_of_le (by omega)]
      by_cases c : 1 ≤ s ∧ s ≤ 6
      · refine Ev.ifp (by simpa using c) ((Ev.now _).eq ?_)
        rw [(sq_six c).1]
        simp only [List.all_nil, Bool.true_and]
        by_cases e : (l.length : Int) = s * s
        · simp [e]; omega
        · simp [e]
      · refine Ev.ifn (by simpa using c) ((Ev.now _).eq ?_)
        simp only [List.all_nil, Bool.true_and]
        symm; simp; omega
  | succ d ih =>
    intro i hi
    have hlt : i < l.length := by omega
    have hw : wrap64 ((i : Int) + 1) = ((i + 1 : Nat) : Int) := by rw [w64 (by omega) (by omega)]; omega
    rw [List.drop_eq_getElem_cons hlt, List.all_cons]
    by_cases c : 0 ≤ l[i] ∧ l[i] ≤ wrap64 (s - 1)
    · refine Ev.step (f := fun k => spec_AreasValid.l0 k l s ((i + 1 : Nat) : Int)) (fun k => ?_) ((ih (i + 1) (by omega)).eq (by simp [c]))
      rw [spec_AreasValid.l0]
      rw [if_pos (by omega), if_pos (by omega), rd_nat l i hlt, l1In_f]
      simp only [Option.bind_some]
      rw [if_pos (by simpa using c), hw]
    · refine Ev.step (f := fun k => some false) (fun k => ?_) ((Ev.now _).eq (by simp [c]))
      rw [spec_AreasValid.l0]
      rw [if_pos (by omega), if_pos (by omega), rd_nat l i hlt, l1In_f]
      simp only [Option.bind_some]
      rw [if_neg (by simpa using c)]
theorem spec_areas (l : List Int) (s : Int) (hl : l.length ≤ 140737488351232) : Ev (fun k => spec_AreasValid.f k l s) (areasV l s) := by
  unfold spec_AreasValid.f
  refine (spec_areas_l l s hl l.length 0 (by omega)).eq ?_
  unfold areasV
  by_cases c : 1 ≤ s ∧ s ≤ 6
  · rw [w64 (by omega) (by omega), List.drop_zero, Bool.and_comm]
    congr 1
    congr 1
    funext x
    rw [decide_eq_decide]; omega
  · have e : decide (1 ≤ s ∧ s ≤ 6 ∧ (l.length : Int) = s * s) = false := by simp; omega
    rw [e]; simp
/-! The reader of draws: only that each number drawn lies in its range. -/
structure Byts (b : List Int) : Prop where
  len : b.length ≤ 2000
  val : ∀ x ∈ b, 0 ≤ x ∧ x ≤ 255
theorem xor_nn {a b : Int} (ha : 0 ≤ a) (ha1 : a < 4611686018427387904) (hb : 0 ≤ b) (hb1 : b < 4611686018427387904) : 0 ≤ Go.bits .xor .i64 a b := by
  obtain ⟨m, rfl⟩ := Int.eq_ofNat_of_zero_le ha
  obtain ⟨n, rfl⟩ := Int.eq_ofNat_of_zero_le hb
  have h : (m ^^^ n) < 2 ^ 62 := Nat.xor_lt_two_pow (by omega) (by omega)
  have hm : m % 2 ^ IntKind.i64.bits = m := Nat.mod_eq_of_lt (show m < 2 ^ 64 by omega)
  have hn : n % 2 ^ IntKind.i64.bits = n := Nat.mod_eq_of_lt (show n < 2 ^ 64 by omega)
  simp only [Go.bits, BitVec.ofInt_natCast, BitVec.toNat_xor, BitVec.toNat_ofNat, hm, hn]
  rw [IntKind.wrap_i64]
  omega
theorem open_ok (l : List Int) (h : l.length ≤ maxLen) (hb : ∀ x ∈ l, (Lit.int .u8 x).wf = true) : ∃ b, spec_l20Open.f l = some (b, 0) ∧ Byts b := by
  unfold spec_l20Open.f
  by_cases c : (l.length : Int) > 2000
  · rw [if_pos c, if_pos (by omega)]
    exact ⟨_, rfl, by rw [List.length_take]; omega, fun x hx => wf_u8 (hb x (List.mem_of_mem_take hx))⟩
  · rw [if_neg c]
    exact ⟨_, rfl, by omega, fun x hx => wf_u8 (hb x hx)⟩
theorem pick_any {b : List Int} (hb : Byts b) {p : Int} (hp : 0 ≤ p) (hp1 : p ≤ 1000000) (n : Int) (hn1 : n ≤ 9223372036854775807) :
    ∃ r, Ev (fun k => spec_l20Rd_pick.f k b p n) (r, p + 1) ∧ 0 ≤ r ∧ (1 ≤ n → r < n) ∧ (n < 1 → r = 0) := by
  have hw : wrap64 (p + 1) = p + 1 := w64 (by omega) (by omega)
  have hw2 : wrap64 (p + 1 - 1) = p := by rw [w64 (by omega) (by omega)]; omega
  have hl := hb.len
  unfold spec_l20Rd_pick.f
  by_cases c : n < 1
  · refine ⟨0, Ev.ifp c (Ev.step (f := fun _ => some (0, p + 1)) (fun k => ?_) (Ev.now _)), by omega, by omega, fun _ => rfl⟩
    rw [spec_l20Rd_pick.j0]; rw [if_pos rfl, hw]
  · by_cases c0 : b.length = 0
    · refine ⟨0, Ev.ifn c (Ev.step (f := fun _ => some (0, p + 1)) (fun k => ?_) (Ev.now _)), by omega, by omega, fun _ => rfl⟩
      rw [spec_l20Rd_pick.j0]
      rw [c0, if_pos (by decide), hw]
    · have c0' : ((b.length : Int) == 0) = false := by simp; intro h; simp [h] at c0
      by_cases c1 : p < (b.length : Int)
      · have hm := hb.val _ (rd_mem b p hp c1)
        refine ⟨Int.tmod (rd b p) n, Ev.ifn c (Ev.step (f := fun _ => some (Int.tmod (rd b p) n, p + 1)) (fun k => ?_) (Ev.now _)), Int.tmod_nonneg _ hm.1, fun h => Int.tmod_lt_of_pos _ (by omega), fun h => absurd h c⟩
        rw [spec_l20Rd_pick.j0]
        rw [c0', if_neg (by decide), hw, hw2, if_pos c1, if_pos hp, if_neg (by omega), w64 (by omega) (by omega)]
      · have hL : (0 : Int) < (b.length : Int) := by omega
        have e1 := Int.tmod_nonneg (b.length : Int) hp
        have e2 := Int.tmod_lt_of_pos p hL
        have k7 : wrap64 (p * 7) = p * 7 := w64 (by omega) (by omega)
        have k73 : wrap64 (p * 7 + 3) = p * 7 + 3 := w64 (by omega) (by omega)
        have e3 := Int.tmod_nonneg (b.length : Int) (show 0 ≤ p * 7 + 3 by omega)
        have e4 := Int.tmod_lt_of_pos (p * 7 + 3) hL
        have m1 := hb.val _ (rd_mem b _ e1 e2)
        have m2 := hb.val _ (rd_mem b _ e3 e4)
        have d0 : Int.tdiv p (b.length : Int) = p / (b.length : Int) := Int.tdiv_eq_ediv_of_nonneg hp
        have d1 : 0 ≤ p / (b.length : Int) := Int.ediv_nonneg hp (by omega)
        have d2 : p / (b.length : Int) ≤ p := Int.ediv_le_self _ hp
        generalize hx1 : rd b (Int.tmod p (b.length : Int)) = x1 at m1
        generalize hx2 : rd b (Int.tmod (p * 7 + 3) (b.length : Int)) = x2 at m2
        generalize hq : p / (b.length : Int) = q at d0 d1 d2
        have hX : 0 ≤ Go.bits .xor .i64 (x1 * 131 + x2 * 1117 + p * 29 + q * 53) ((x1 * 131 + x2 * 1117 + p * 29 + q * 53) / 64) := xor_nn (by omega) (by omega) (by omega) (by omega)
        generalize hR : Go.bits .xor .i64 (x1 * 131 + x2 * 1117 + p * 29 + q * 53) ((x1 * 131 + x2 * 1117 + p * 29 + q * 53) / 64) = X at hX
        refine ⟨Int.tmod X n, Ev.ifn c (Ev.step (f := fun _ => some (Int.tmod X n, p + 1)) (fun k => ?_) (Ev.now _)), Int.tmod_nonneg _ hX, fun h => Int.tmod_lt_of_pos _ (by omega), fun h => absurd h c⟩
        rw [spec_l20Rd_pick.j0]
        rw [c0', if_neg (by decide), hw, hw2, if_neg c1, if_neg (by omega), k7, k73, if_pos e1, if_pos e2, if_pos e3, if_pos e4, if_neg (by omega), hx1, hx2, d0]
        rw [w64 (x := x1) (by omega) (by omega), w64 (x := x2) (by omega) (by omega), w64 (x := q) (by omega) (by omega), w64 (x := x1 * 131) (by omega) (by omega), w64 (x := x2 * 1117) (by omega) (by omega), w64 (x := p * 29) (by omega) (by omega), w64 (x := q * 53) (by omega) (by omega)]
        rw [w64 (x := x1 * 131 + x2 * 1117) (by omega) (by omega), w64 (x := x1 * 131 + x2 * 1117 + p * 29) (by omega) (by omega), w64 (x := x1 * 131 + x2 * 1117 + p * 29 + q * 53) (by omega) (by omega)]
        rw [Int.tdiv_eq_ediv_of_nonneg (by omega), w64 (by omega) (by omega), hR]
theorem odd_any {b : List Int} (hb : Byts b) {p : Int} (hp : 0 ≤ p) (hp1 : p ≤ 1000000) (n : Int) (hn1 : n ≤ 9223372036854775807) :
    ∃ r q, Ev (fun k => spec_l20Rd_odd.f k b p n) (r, q) ∧ p ≤ q ∧ q ≤ p + 1 := by
  unfold spec_l20Rd_odd.f
  by_cases c : n > 0
  · obtain ⟨r, e, _⟩ := pick_any hb hp hp1 n hn1
    exact ⟨_, _, Ev.ifp c (Ev.bind e (Ev.now _)), by omega, by omega⟩
  · exact ⟨_, _, Ev.ifn c (Ev.now _), by omega, by omega⟩
/-- What is known of drawn areas. -/
structure AreasPost (q : List Int × Int × Int) (pm : Int) : Prop where
  len : q.1.length ≤ 36
  val : ∀ x ∈ q.1, -1 ≤ x ∧ x ≤ 7
  s0 : 0 ≤ q.2.1
  s1 : q.2.1 ≤ 7
  p0 : 0 ≤ q.2.2
  p1 : q.2.2 ≤ pm
theorem rd2 (a b : Int) {i : Int} (h0 : 0 ≤ i) (h1 : i < 2) : rd [a, b] i = a ∨ rd [a, b] i = b := by
  have : i = 0 ∨ i = 1 := by omega
  rcases this with rfl | rfl
  · exact .inl rfl
  · exact .inr rfl
theorem drawAreas_l {b : List Int} (hb : Byts b) (n : Int) (hn : n ≤ 1000) (s : Int) (hs : 1 ≤ s ∧ s ≤ 6) : ∀ (d : Nat) (out : List Int) (p : Int), (out.length : Int) + d = s * s → (∀ x ∈ out, 0 ≤ x ∧ x ≤ 6) → 0 ≤ p → p ≤ 500 - 4 * d →
    ∃ q, Ev (fun k => spec_l20Areas.l0 k n s out out.length b p) q ∧ AreasPost q 510 := by
  have hss : wrap64 (s * s) = s * s ∧ 1 ≤ s * s ∧ s * s ≤ 36 := by
    have : s = 1 ∨ s = 2 ∨ s = 3 ∨ s = 4 ∨ s = 5 ∨ s = 6 := by omega
    rcases this with rfl | rfl | rfl | rfl | rfl | rfl <;> decide +kernel
  intro d
  induction d with
  | zero =>
    intro out p hl hx hp hp1
    have hx' : ∀ x ∈ out, -1 ≤ x ∧ x ≤ 7 := fun x h => by have := hx x h; omega
    obtain ⟨o, p1, eo, ho1, ho2⟩ := odd_any hb hp (by omega) n (by omega)
    suffices H : ∃ q, Ev (fun k => if o = true then ((spec_l20Rd_pick.f k b p1 3).bind fun bt148 => (if bt148.1 = 0 then ((spec_l20Rd_pick.f k b bt148.2 (out.length : Int)).bind fun bt150 => ((some (([(-1), s] : List Int) : List Int)).bind fun y152 => ((spec_l20Rd_pick.f k b bt150.2 2).bind fun bt155 => (if 0 ≤ bt155.1 then (if bt155.1 < (y152.length : Int) then (if 0 ≤ bt150.1 then (if bt150.1 < (out.length : Int) then (some ((out.set (bt150.1 : Int).toNat (rd y152 bt155.1)), s, bt155.2)) else (none)) else (none)) else (none)) else (none))))) else (if bt148.1 = 1 then (if 1 ≤ (out.length : Int) then (some ((out.drop (1 : Int).toNat), s, bt148.2)) else (none)) else ((some (([0, 7] : List Int) : List Int)).bind fun y162 => ((spec_l20Rd_pick.f k b bt148.2 2).bind fun bt165 => (if 0 ≤ bt165.1 then (if bt165.1 < (y162.length : Int) then (some (out, rd y162 bt165.1, bt165.2)) else (none)) else (none))))))) else (some (out, s, p1))) q ∧ AreasPost q 510 by
      obtain ⟨q, e, h⟩ := H
      refine ⟨q, Ev.step (fun k => by rw [spec_l20Areas.l0]) ?_, h⟩
      exact Ev.ifn (by rw [hss.1]; omega) (Ev.bind eo e)
    cases o with
    | false => exact ⟨_, Ev.ifn (by decide) (Ev.now _), by simpa using (by omega : out.length ≤ 36), hx', by simp; omega, by simp; omega, by simp; omega, by simp; omega⟩
    | true =>
      obtain ⟨r1, e1, h1, h1', _⟩ := pick_any hb (p := p1) (by omega) (by omega) 3 (by omega)
      by_cases c1 : r1 = 0
      · obtain ⟨r2, e2, h2, h2', _⟩ := pick_any hb (p := p1 + 1) (by omega) (by omega) (out.length : Int) (by omega)
        obtain ⟨r3, e3, h3, h3', _⟩ := pick_any hb (p := p1 + 1 + 1) (by omega) (by omega) 2 (by omega)
        refine ⟨_, Ev.ifp rfl (Ev.bind e1 (Ev.ifp c1 (Ev.bind e2 (Ev.bindc rfl (Ev.bind e3 (Ev.ifp h3 (Ev.ifp (by simp; omega) (Ev.ifp h2 (Ev.ifp (by have := h2' (by omega); omega) (Ev.now _)))))))))), ?_⟩
        have hv := rd2 (-1) s h3 (h3' (by omega))
        refine ⟨by simp; omega, fun x hx0 => ?_, by simp; omega, by simp; omega, by simp; omega, by simp; omega⟩
        rcases List.mem_or_eq_of_mem_set hx0 with h | h
        · exact hx' x h
        · subst h; rcases hv with hv | hv <;> rw [hv] <;> omega
      · by_cases c2 : r1 = 1
        · refine ⟨_, Ev.ifp rfl (Ev.bind e1 (Ev.ifn c1 (Ev.ifp c2 (Ev.ifp (by omega) (Ev.now _))))), ?_⟩
          exact ⟨by simp; omega, fun x h => hx' x (List.mem_of_mem_drop h), by simp; omega, by simp; omega, by simp; omega, by simp; omega⟩
        · obtain ⟨r3, e3, h3, h3', _⟩ := pick_any hb (p := p1 + 1) (by omega) (by omega) 2 (by omega)
          refine ⟨_, Ev.ifp rfl (Ev.bind e1 (Ev.ifn c1 (Ev.ifn c2 (Ev.bindc rfl (Ev.bind e3 (Ev.ifp h3 (Ev.ifp (by simp; omega) (Ev.now _)))))))), ?_⟩
          have hv := rd2 0 7 h3 (h3' (by omega))
          refine ⟨by simp; omega, hx', ?_, ?_, by simp; omega, by simp; omega⟩ <;> (simp only; omega)
  | succ d ih =>
    intro out p hl hx hp hp1
    have hlt : (out.length : Int) < s * s := by omega
    have hw : wrap64 ((out.length : Int) + 1) = ((out.length + 1 : Nat) : Int) := by rw [w64 (by omega) (by omega)]; omega
    have app : ∀ v : Int, 0 ≤ v → v ≤ 6 → ∀ p' : Int, 0 ≤ p' → p' ≤ 500 - 4 * d → ∃ q, Ev (fun k => if out.length < 17592186044416 then (spec_l20Areas.l0 k n s (out ++ [v]) (wrap64 ((out.length : Int) + 1)) b p') else (none)) q ∧ AreasPost q 510 := by
      intro v h0 h1 p' h2 h3
      obtain ⟨q, e, h⟩ := ih (out ++ [v]) p' (by simp; omega) (fun x hx0 => by
        rcases List.mem_append.1 hx0 with h | h
        · exact hx x h
        · simp at h; omega) h2 h3
      refine ⟨q, Ev.ifp (by omega) ?_, h⟩
      rw [hw]; simpa using e
    have j4 : ∀ v : Int, 0 ≤ v → v ≤ 6 → ∀ p' : Int, 0 ≤ p' → p' ≤ 500 - 4 * d - 2 → ∃ q, Ev (fun k => spec_l20Areas.j4 k n s out out.length v b p') q ∧ AreasPost q 510 := by
      intro v h0 h1 p' h2 h3
      obtain ⟨r1, e1, g1, g1', _⟩ := pick_any hb h2 (by omega) 9 (by omega)
      by_cases c : r1 = 0
      · obtain ⟨r2, e2, g2, g2', _⟩ := pick_any hb (p := p' + 1) (by omega) (by omega) s (by omega)
        obtain ⟨q, e, h⟩ := app r2 g2 (by have := g2' (by omega); omega) (p' + 1 + 1) (by omega) (by omega)
        refine ⟨q, Ev.step (fun k => by rw [spec_l20Areas.j4]) ?_, h⟩
        exact (Ev.bind e1 (Ev.ifp c (Ev.bind e2 e)))
      · obtain ⟨q, e, h⟩ := app v h0 h1 (p' + 1) (by omega) (by omega)
        refine ⟨q, Ev.step (fun k => by rw [spec_l20Areas.j4]) ?_, h⟩
        exact (Ev.bind e1 (Ev.ifn c e))
    have j3 : ∀ (f : Bool) (v : Int), 0 ≤ v → v ≤ 6 → (f = true → s ≤ (out.length : Int)) → ∀ p' : Int, 0 ≤ p' → p' ≤ 500 - 4 * d - 2 → ∃ q, Ev (fun k => spec_l20Areas.j3 k n s out out.length v f b p') q ∧ AreasPost q 510 := by
      intro f v h0 h1 hf p' h2 h3
      cases f with
      | false =>
        obtain ⟨q, e, h⟩ := j4 v h0 h1 p' h2 h3
        refine ⟨q, Ev.step (fun k => by rw [spec_l20Areas.j3]) ?_, h⟩
        exact (Ev.ifn (by decide) e)
      | true =>
        have := hf rfl
        have hw2 : wrap64 ((out.length : Int) - s) = (out.length : Int) - s := w64 (by omega) (by omega)
        have hm := hx _ (rd_mem out ((out.length : Int) - s) (by omega) (by omega))
        obtain ⟨q, e, h⟩ := j4 _ hm.1 hm.2 p' h2 h3
        refine ⟨q, Ev.step (fun k => by rw [spec_l20Areas.j3]) ?_, h⟩
        refine (Ev.ifp rfl (Ev.ifp (by omega) (Ev.ifp (by omega) ?_)))
        rw [hw2]; exact e
    have j2 : ∀ v : Int, 0 ≤ v → v ≤ 6 → ∀ p' : Int, 0 ≤ p' → p' ≤ 500 - 4 * d - 3 → ∃ q, Ev (fun k => spec_l20Areas.j2 k n s out out.length v b p') q ∧ AreasPost q 510 := by
      intro v h0 h1 p' h2 h3
      by_cases c : (out.length : Int) ≥ s
      · obtain ⟨r1, e1, _⟩ := pick_any hb h2 (by omega) 4 (by omega)
        obtain ⟨q, e, h⟩ := j3 (r1 == 0) v h0 h1 (fun _ => c) (p' + 1) (by omega) (by omega)
        refine ⟨q, Ev.step (fun k => by rw [spec_l20Areas.j2]) ?_, h⟩
        exact (Ev.ifp c (Ev.bind e1 e))
      · obtain ⟨q, e, h⟩ := j3 false v h0 h1 (fun h => by cases h) p' (by omega) (by omega)
        refine ⟨q, Ev.step (fun k => by rw [spec_l20Areas.j2]) ?_, h⟩
        exact (Ev.ifn c e)
    have j1 : ∀ (f : Bool) (v : Int), 0 ≤ v → v ≤ 6 → (f = true → 0 < out.length) → ∀ p' : Int, 0 ≤ p' → p' ≤ 500 - 4 * d - 3 → ∃ q, Ev (fun k => spec_l20Areas.j1 k n s out out.length v f b p') q ∧ AreasPost q 510 := by
      intro f v h0 h1 hf p' h2 h3
      cases f with
      | false =>
        obtain ⟨q, e, h⟩ := j2 v h0 h1 p' h2 h3
        refine ⟨q, Ev.step (fun k => by rw [spec_l20Areas.j1]) ?_, h⟩
        exact (Ev.ifn (by decide) e)
      | true =>
        have := hf rfl
        have hw2 : wrap64 ((out.length : Int) - 1) = (out.length : Int) - 1 := w64 (by omega) (by omega)
        have hm := hx _ (rd_mem out ((out.length : Int) - 1) (by omega) (by omega))
        obtain ⟨q, e, h⟩ := j2 _ hm.1 hm.2 p' h2 h3
        refine ⟨q, Ev.step (fun k => by rw [spec_l20Areas.j1]) ?_, h⟩
        refine (Ev.ifp rfl (Ev.ifp (by omega) (Ev.ifp (by omega) ?_)))
        rw [hw2]; exact e
    have hdiv : wrap64 (Int.tdiv (out.length : Int) s) = (out.length : Int) / s ∧ 0 ≤ (out.length : Int) / s ∧ (out.length : Int) / s ≤ 6 := by
      have a1 : 0 ≤ (out.length : Int) / s := Int.ediv_nonneg (by omega) (by omega)
      have a2 : (out.length : Int) / s < s := Int.ediv_lt_of_lt_mul (by omega) hlt
      rw [Int.tdiv_eq_ediv_of_nonneg (by omega), w64 (by omega) (by omega)]
      omega
    by_cases c : (out.length : Int) > 0
    · obtain ⟨r1, e1, _⟩ := pick_any hb hp (by omega) 3 (by omega)
      obtain ⟨q, e, h⟩ := j1 (r1 == 0) _ hdiv.2.1 hdiv.2.2 (fun _ => by omega) (p + 1) (by omega) (by omega)
      refine ⟨q, Ev.step (fun k => by rw [spec_l20Areas.l0]) ?_, h⟩
      refine Ev.ifp (by rw [hss.1]; exact hlt) (Ev.ifn (by omega) (Ev.ifp c (Ev.bind e1 ?_)))
      rw [hdiv.1]; exact e
    · obtain ⟨q, e, h⟩ := j1 false _ hdiv.2.1 hdiv.2.2 (fun h => by cases h) p (by omega) (by omega)
      refine ⟨q, Ev.step (fun k => by rw [spec_l20Areas.l0]) ?_, h⟩
      refine Ev.ifp (by rw [hss.1]; exact hlt) (Ev.ifn (by omega) (Ev.ifn c ?_))
      rw [hdiv.1]; exact e
theorem drawAreas {b : List Int} (hb : Byts b) (n : Int) (hn : n ≤ 1000) : ∃ q, Ev (fun k => spec_l20Areas.f k b 0 n) q ∧ AreasPost q 510 := by
  obtain ⟨r, e, h, h', _⟩ := pick_any hb (p := 0) (by omega) (by omega) 8 (by omega)
  have hr := h' (by omega)
  have hs : 1 ≤ rd [1, 2, 3, 4, 4, 5, 5, 6] r ∧ rd [1, 2, 3, 4, 4, 5, 5, 6] r ≤ 6 := by
    have : r = 0 ∨ r = 1 ∨ r = 2 ∨ r = 3 ∨ r = 4 ∨ r = 5 ∨ r = 6 ∨ r = 7 := by omega
    rcases this with rfl | rfl | rfl | rfl | rfl | rfl | rfl | rfl <;> decide +kernel
  generalize hS : rd [1, 2, 3, 4, 4, 5, 5, 6] r = s at hs
  have hsq : 1 ≤ s * s ∧ s * s ≤ 36 := by
    have : s = 1 ∨ s = 2 ∨ s = 3 ∨ s = 4 ∨ s = 5 ∨ s = 6 := by omega
    rcases this with rfl | rfl | rfl | rfl | rfl | rfl <;> decide +kernel
  obtain ⟨q, eq, hq⟩ := drawAreas_l hb n hn s hs (s * s).toNat [] (0 + 1) (by simp; omega) (by simp) (by omega) (by omega)
  refine ⟨q, ?_, hq⟩
  unfold spec_l20Areas.f
  refine Ev.bindc rfl (Ev.bind e (Ev.ifp h (Ev.ifp (by simp; omega) ?_)))
  rw [hS]; simpa using eq
theorem alive_ev : Ev (fun k => laws_alive.f k) true := Ev.of (fun k => laws_alive.mono k) (k := 20) (by decide +kernel)
theorem FnAreasValid : laws_FnAreasValid.Pure := by
  intro l h _ hb
  apply Ev.rounds
  unfold laws_FnAreasValid.f
  by_cases c0 : (l.length : Int) > 1048576
  · exact Ev.ifp c0 (Ev.now _)
  refine Ev.ifn c0 ?_
  obtain ⟨b, e, hB⟩ := open_ok l h hb
  obtain ⟨⟨a, s, p⟩, e1, hq⟩ := drawAreas hB 2 (by omega)
  have hl := hq.len
  simp only at hl
  refine Ev.bind (a := (a, s)) (by unfold spec_DrawAreasValid.f; exact Ev.bindc e (Ev.bind e1 (Ev.now _))) ?_
  refine Ev.bind (impl_areas a s (by omega)) (Ev.bind (spec_areas a s (by omega)) (Ev.ifn (by simp) ?_))
  by_cases c : areasV a s = true
  · have hv := c
    unfold areasV at hv
    simp only [Bool.and_eq_true, decide_eq_true_eq] at hv
    obtain ⟨⟨h1, h2, h3⟩, _⟩ := hv
    have hsq := sq_six (s := s) (by omega)
    have f1 : areasV (a.set 0 s) s = false := by
      unfold areasV
      rw [Bool.and_eq_false_iff]; right
      rw [List.all_eq_false]
      exact ⟨s, List.mem_set (by omega) _, by simp⟩
    have f2 : areasV (a.drop 1) s = false := by
      unfold areasV
      rw [Bool.and_eq_false_iff]; left
      simp; omega
    refine Ev.ifp c (Ev.bindc rfl (Ev.ifp (by show 0 + a.length < 17592186044416; omega) (Ev.bindc rfl (Ev.ifp (by show (0 : Int) < (([] ++ a : List Int).length : Int); rw [List.nil_append]; omega) ?_))))
    refine Ev.bind (a := false) ?_ (Ev.ifn (by decide) (Ev.ifp (by show (1 : Int) ≤ (a.length : Int); omega) (Ev.bind (a := false) ?_ (Ev.now _))))
    · exact Ev.eq (impl_areas _ s (by simp; omega)) (by simpa using f1)
    · exact Ev.eq (impl_areas _ s (by simp; omega)) f2
  · exact Ev.ifn c (Ev.bind alive_ev (Ev.now _))

end Go.Proofs.Ytbnpdiahogigiaa.Pure
