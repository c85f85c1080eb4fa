/- For every code: at the line that the code draws KnownValid answers what the reference answers; without its first cell a valid line of at least two cells is valid, and with a cell 2 it is not. No conditions beyond the code being bytes. -/
import Derived.Test.YtnmlcbdbbnaabaaPFnKnownValidx3
namespace Go.Proofs.Ytnmlcbdbbnaabaa.Pure
open Go.RowKit Go.Proofs.Ytnmlcbdbbnaabaa.PFnKnownValid Go.Proofs.YtnmlcbdbbnaabaaW.PrintWords Go.Proofs.YtnmlcbdbbnaabaaW.PrintLast Go.Proofs.YtnmlcbdbbnaabaaW.PrintMore
set_option linter.unusedVariables false
set_option linter.unusedSimpArgs false
/-! Ev: small steps. -/
theorem _root_.Go.Proofs.YtnmlcbdbbnaabaaW.PrintWords.Ev.ifp {α : Type} {c : Prop} [Decidable c] {g f : Nat → Option α} {r : α} (hc : c) (h : Ev g r) : Ev (fun k => if c then g k else f k) r :=
  Ev.congr (fun _ => if_pos hc) h
theorem _root_.Go.Proofs.YtnmlcbdbbnaabaaW.PrintWords.Ev.ifn {α : Type} {c : Prop} [Decidable c] {g f : Nat → Option α} {r : α} (hc : ¬ c) (h : Ev f r) : Ev (fun k => if c then g k else f k) r :=
  Ev.congr (fun _ => if_neg hc) h
theorem _root_.Go.Proofs.YtnmlcbdbbnaabaaW.PrintWords.Ev.bindc {α β : Type} {o : Option α} {f : Nat → α → Option β} {a : α} {r : β} (h : o = some a) (k : Ev (fun n => f n a) r) : Ev (fun n => o.bind (f n)) r := by
  subst h; exact k
theorem _root_.Go.Proofs.YtnmlcbdbbnaabaaW.PrintWords.Ev.eq {α : Type} {g : Nat → Option α} {r r' : α} (h : Ev g r) (e : r = r') : Ev g r' := e ▸ h
theorem _root_.Go.Proofs.YtnmlcbdbbnaabaaW.PrintWords.Ev.cst {α : Type} {o : Option α} {r : α} (h : o = some r) : Ev (fun _ => o) r := ⟨0, fun _ _ => h⟩
theorem w64 {x : Int} (h0 : -9223372036854775808 ≤ x) (h1 : x ≤ 9223372036854775807) : wrap64 x = x := by unfold wrap64; omega
theorem wf_i64 {x : Int} (h : (Lit.int .i64 x).wf = true) : -9223372036854775808 ≤ x ∧ x ≤ 9223372036854775807 := by
  have h2 : (decide (IntKind.i64.min ≤ x) && decide (x ≤ IntKind.i64.max)) = true := h
  simp [IntKind.min, IntKind.max, IntKind.bits, IntKind.signed] at h2
  exact h2
theorem wf_u8 {x : Int} (h : (Lit.int .u8 x).wf = true) : 0 ≤ x ∧ x ≤ 255 := by
  have h2 : (decide (IntKind.u8.min ≤ x) && decide (x ≤ IntKind.u8.max)) = true := h
  simp [IntKind.min, IntKind.max, IntKind.bits, IntKind.signed] at h2
  omega
theorem rd_nat (xs : List Int) (i : Nat) (h : i < xs.length) : rd xs (i : Int) = xs[i] := by
  simp [rd, List.getD_eq_getElem?_getD, h]
theorem rd_mem (xs : List Int) (i : Int) (h0 : 0 ≤ i) (h : i < xs.length) : rd xs i ∈ xs := by
  obtain ⟨n, rfl⟩ := Int.eq_ofNat_of_zero_le h0
  rw [rd_nat xs n (by omega)]; exact List.getElem_mem _
theorem l1In_f (a b c : Int) : spec_l1In.f a b c = some (decide (b ≤ a ∧ a ≤ c)) := by
  unfold spec_l1In.f
  by_cases h : a ≥ b
  · rw [if_pos h]; simp; omega
  · rw [if_neg h]; simp; omega
/-- What KnownValid answers. -/
def knownV (l : List Int) : Bool := l.all (fun x => decide (-1 ≤ x ∧ x ≤ 1)) && decide (1 ≤ (l.length : Int) ∧ (l.length : Int) ≤ 8)
theorem spec_known_l (l : List Int) (hl : l.length ≤ 140737488351232) : ∀ (d i : Nat), l.length = i + d →
    Ev (fun k => spec_KnownValid.l0 k l i) ((l.drop i).all (fun x => decide (-1 ≤ x ∧ x ≤ 1)) && decide (1 ≤ (l.length : Int) ∧ (l.length : Int) ≤ 8)) := by
  intro d
  induction d with
  | zero =>
    intro i hi
    refine Ev.step (fun k => by rw [spec_KnownValid.l0]) (Ev.ifn (by omega) (Ev.bindc (l1In_f _ _ _) (Ev.eq (Ev.now _) ?_)))
    rw [List.drop_eq_nil_of_le (by omega)]; simp
  | succ d ih =>
    intro i hi
    have hlt : i < l.length := by omega
    have hw : wrap64 ((i : Int) + 1) = ((i + 1 : Nat) : Int) := by rw [w64 (by omega) (by omega)]; omega
    refine Ev.step (fun k => by rw [spec_KnownValid.l0]) ?_
    rw [rd_nat l i hlt, hw, List.drop_eq_getElem_cons hlt, List.all_cons]
    refine Ev.ifp (by omega) (Ev.ifp (by omega) (Ev.bindc (l1In_f _ _ _) ?_))
    by_cases c : -1 ≤ l[i] ∧ l[i] ≤ 1
    · exact Ev.ifp (by simpa using c) (Ev.eq (ih (i + 1) (by omega)) (by simp [c]))
    · exact Ev.ifn (by simpa using c) (Ev.eq (Ev.now _) (by simp [c]))
theorem spec_known (l : List Int) (hl : l.length ≤ 140737488351232) : Ev (fun k => spec_KnownValid.f k l) (knownV l) := by
  unfold spec_KnownValid.f
  exact spec_known_l l hl l.length 0 (by omega)
theorem impl_known_l (l : List Int) (hl : l.length ≤ 140737488351232) : ∀ (d i : Nat), l.length = i + d →
    Ev (fun k => impl_KnownValid.l0 k l l l.length i) ((l.drop i).all (fun x => decide (-1 ≤ x ∧ x ≤ 1)) && decide (1 ≤ (l.length : Int) ∧ (l.length : Int) ≤ 8)) := by
  intro d
  induction d with
  | zero =>
    intro i hi
    refine Ev.step (fun k => by rw [impl_KnownValid.l0]) (Ev.ifn (by omega) ?_)
    rw [List.drop_eq_nil_of_le (by omega)]
    by_cases c : (l.length : Int) ≥ 1
    · exact Ev.ifp c (Ev.eq (Ev.now _) (by simp; omega))
    · exact Ev.ifn c (Ev.eq (Ev.now _) (by simp; omega))
  | succ d ih =>
    intro i hi
    have hlt : i < l.length := by omega
    have hw : wrap64 ((i : Int) + 1) = ((i + 1 : Nat) : Int) := by rw [w64 (by omega) (by omega)]; omega
    refine Ev.step (fun k => by rw [impl_KnownValid.l0]) ?_
    rw [rd_nat l i hlt, hw, List.drop_eq_getElem_cons hlt, List.all_cons]
    refine Ev.ifp (by omega) (Ev.ifp (by omega) (Ev.ifp (by omega) ?_))
    by_cases c1 : l[i] < -1
    · exact Ev.ifp c1 (Ev.eq (Ev.now _) (by simp; omega))
    refine Ev.ifn c1 ?_
    by_cases c2 : l[i] > 1
    · exact Ev.ifp c2 (Ev.eq (Ev.now _) (by simp; omega))
    · have h : -1 ≤ l[i] ∧ l[i] ≤ 1 := by omega
      exact Ev.ifn c2 (Ev.eq (ih (i + 1) (by omega)) (by simp [h]))
theorem impl_known (l : List Int) (hl : l.length ≤ 140737488351232) : Ev (fun k => impl_KnownValid.f k l) (knownV l) := by
  unfold impl_KnownValid.f
  exact impl_known_l l hl l.length 0 (by omega)
/-! The reader of draws: only that each number drawn lies in its range. -/
structure Byts (b : List Int) : Prop where
  len : b.length ≤ 2000
  val : ∀ x ∈ b, 0 ≤ x ∧ x ≤ 255
theorem xor_nn {a b : Int} (ha : 0 ≤ a) (ha1 : a < 4611686018427387904) (hb : 0 ≤ b) (hb1 : b < 4611686018427387904) : 0 ≤ Go.bits .xor .i64 a b := by
  obtain ⟨m, rfl⟩ := Int.eq_ofNat_of_zero_le ha
  obtain ⟨n, rfl⟩ := Int.eq_ofNat_of_zero_le hb
  have h : (m ^^^ n) < 2 ^ 62 := Nat.xor_lt_two_pow (by omega) (by omega)
  have hm : m % 2 ^ IntKind.i64.bits = m := Nat.mod_eq_of_lt (show m < 2 ^ 64 by omega)
  have hn : n % 2 ^ IntKind.i64.bits = n := Nat.mod_eq_of_lt (show n < 2 ^ 64 by omega)
  simp only [Go.bits, BitVec.ofInt_natCast, BitVec.toNat_xor, BitVec.toNat_ofNat, hm, hn]
  rw [IntKind.wrap_i64]
  omega
theorem open_ok (l : List Int) (h : l.length ≤ maxLen) (hb : ∀ x ∈ l, (Lit.int .u8 x).wf = true) : ∃ b, spec_l20Open.f l = some (b, 0) ∧ Byts b := by
  unfold spec_l20Open.f
  by_cases c : (l.length : Int) > 2000
  · rw [if_pos c, if_pos (by omega)]
    exact ⟨_, rfl, by rw [List.length_take]; omega, fun x hx => wf_u8 (hb x (List.mem_of_mem_take hx))⟩
  · rw [if_neg c]
    exact ⟨_, rfl, by omega, fun x hx => wf_u8 (hb x hx)⟩
theorem pick_any {b : List Int} (hb : Byts b) {p : Int} (hp : 0 ≤ p) (hp1 : p ≤ 1000000) (n : Int) (hn1 : n ≤ 9223372036854775807) :
    ∃ r, Ev (fun k => spec_l20Rd_pick.f k b p n) (r, p + 1) ∧ 0 ≤ r ∧ (1 ≤ n → r < n) ∧ (n < 1 → r = 0) := by
  have hw : wrap64 (p + 1) = p + 1 := w64 (by omega) (by omega)
  have hw2 : wrap64 (p + 1 - 1) = p := by rw [w64 (by omega) (by omega)]; omega
  have hl := hb.len
  unfold spec_l20Rd_pick.f
  by_cases c : n < 1
  · refine ⟨0, Ev.ifp c (Ev.step (f := fun _ => some (0, p + 1)) (fun k => ?_) (Ev.now _)), by omega, by omega, fun _ => rfl⟩
    rw [spec_l20Rd_pick.j0]; rw [if_pos rfl, hw]
  · by_cases c0 : b.length = 0
    · refine ⟨0, Ev.ifn c (Ev.step (f := fun _ => some (0, p + 1)) (fun k => ?_) (Ev.now _)), by omega, by omega, fun _ => rfl⟩
      rw [spec_l20Rd_pick.j0]
      rw [c0, if_pos (by decide), hw]
    · have c0' : ((b.length : Int) == 0) = false := by simp; intro h; simp [h] at c0
      by_cases c1 : p < (b.length : Int)
      · have hm := hb.val _ (rd_mem b p hp c1)
        refine ⟨Int.tmod (rd b p) n, Ev.ifn c (Ev.step (f := fun _ => some (Int.tmod (rd b p) n, p + 1)) (fun k => ?_) (Ev.now _)), Int.tmod_nonneg _ hm.1, fun h => Int.tmod_lt_of_pos _ (by omega), fun h => absurd h c⟩
        rw [spec_l20Rd_pick.j0]
        rw [c0', if_neg (by decide), hw, hw2, if_pos c1, if_pos hp, if_neg (by omega), w64 (by omega) (by omega)]
      · have hL : (0 : Int) < (b.length : Int) := by omega
        have e1 := Int.tmod_nonneg (b.length : Int) hp
        have e2 := Int.tmod_lt_of_pos p hL
        have k7 : wrap64 (p * 7) = p * 7 := w64 (by omega) (by omega)
        have k73 : wrap64 (p * 7 + 3) = p * 7 + 3 := w64 (by omega) (by omega)
        have e3 := Int.tmod_nonneg (b.length : Int) (show 0 ≤ p * 7 + 3 by omega)
        have e4 := Int.tmod_lt_of_pos (p * 7 + 3) hL
        have m1 := hb.val _ (rd_mem b _ e1 e2)
        have m2 := hb.val _ (rd_mem b _ e3 e4)
        have d0 : Int.tdiv p (b.length : Int) = p / (b.length : Int) := Int.tdiv_eq_ediv_of_nonneg hp
        have d1 : 0 ≤ p / (b.length : Int) := Int.ediv_nonneg hp (by omega)
        have d2 : p / (b.length : Int) ≤ p := Int.ediv_le_self _ hp
        generalize hx1 : rd b (Int.tmod p (b.length : Int)) = x1 at m1
        generalize hx2 : rd b (Int.tmod (p * 7 + 3) (b.length : Int)) = x2 at m2
        generalize hq : p / (b.length : Int) = q at d0 d1 d2
        have hX : 0 ≤ Go.bits .xor .i64 (x1 * 131 + x2 * 1117 + p * 29 + q * 53) ((x1 * 131 + x2 * 1117 + p * 29 + q * 53) / 64) := xor_nn (by omega) (by omega) (by omega) (by omega)
        generalize hR : Go.bits .xor .i64 (x1 * 131 + x2 * 1117 + p * 29 + q * 53) ((x1 * 131 + x2 * 1117 + p * 29 + q * 53) / 64) = X at hX
        refine ⟨Int.tmod X n, Ev.ifn c (Ev.step (f := fun _ => some (Int.tmod X n, p + 1)) (fun k => ?_) (Ev.now _)), Int.tmod_nonneg _ hX, fun h => Int.tmod_lt_of_pos _ (by omega), fun h => absurd h c⟩
        rw [spec_l20Rd_pick.j0]
        rw [c0', if_neg (by decide), hw, hw2, if_neg c1, if_neg (by omega), k7, k73, if_pos e1, if_pos e2, if_pos e3, if_pos e4, if_neg (by omega), hx1, hx2, d0]
        rw [w64 (x := x1) (by omega) (by omega), w64 (x := x2) (by omega) (by omega), w64 (x := q) (by omega) (by omega), w64 (x := x1 * 131) (by omega) (by omega), w64 (x := x2 * 1117) (by omega) (by omega), w64 (x := p * 29) (by omega) (by omega), w64 (x := q * 53) (by omega) (by omega)]
        rw [w64 (x := x1 * 131 + x2 * 1117) (by omega) (by omega), w64 (x := x1 * 131 + x2 * 1117 + p * 29) (by omega) (by omega), w64 (x := x1 * 131 + x2 * 1117 + p * 29 + q * 53) (by omega) (by omega)]
        rw [Int.tdiv_eq_ediv_of_nonneg (by omega), w64 (by omega) (by omega), hR]
theorem odd_any {b : List Int} (hb : Byts b) {p : Int} (hp : 0 ≤ p) (hp1 : p ≤ 1000000) (n : Int) (hn1 : n ≤ 9223372036854775807) :
    ∃ r q, Ev (fun k => spec_l20Rd_odd.f k b p n) (r, q) ∧ p ≤ q ∧ q ≤ p + 1 := by
  unfold spec_l20Rd_odd.f
  by_cases c : n > 0
  · obtain ⟨r, e, _⟩ := pick_any hb hp hp1 n hn1
    exact ⟨_, _, Ev.ifp c (Ev.bind e (Ev.now _)), by omega, by omega⟩
  · exact ⟨_, _, Ev.ifn c (Ev.now _), by omega, by omega⟩
theorem drawLine_l {b : List Int} (hb : Byts b) : ∀ (d : Nat) (out : List Bool) (p : Int), out.length + d ≤ 100 → 0 ≤ p → p ≤ 10000 - d →
    ∃ l q, Ev (fun k => spec_l20Line.l0 k out d b p) (l, q) ∧ l.length = out.length + d ∧ p ≤ q ∧ q ≤ p + d := by
  intro d
  induction d with
  | zero =>
    intro out p ho hp hp1
    exact ⟨out, p, Ev.step (fun k => by rw [spec_l20Line.l0]) (Ev.ifn (by omega) (Ev.now _)), by omega, by omega, by omega⟩
  | succ d ih =>
    intro out p ho hp hp1
    obtain ⟨r, e, _⟩ := pick_any hb hp (by omega) 2 (by omega)
    obtain ⟨l, q, e1, h1, h2, h3⟩ := ih (out ++ [r == 0]) (p + 1) (by simp; omega) (by omega) (by omega)
    refine ⟨l, q, Ev.step (fun k => by rw [spec_l20Line.l0]) ?_, by rw [h1]; simp; omega, by omega, by omega⟩
    refine Ev.ifp (by omega) (Ev.bind e (Ev.ifp (by omega) ?_))
    rw [show wrap64 (((d + 1 : Nat) : Int) - 1) = (d : Int) from by rw [w64 (by omega) (by omega)]; omega]
    exact e1
theorem drawLine {b : List Int} (hb : Byts b) {p : Int} (hp : 0 ≤ p) (hp1 : p ≤ 1000) (n : Int) (hn0 : 1 ≤ n) (hn : n ≤ 8) :
    ∃ l q, Ev (fun k => spec_l20Line.f k b p n) (l, q) ∧ 1 ≤ l.length ∧ l.length ≤ 8 ∧ p ≤ q ∧ q ≤ p + 9 := by
  obtain ⟨r, e, h0, h1, _⟩ := pick_any hb hp (by omega) n (by omega)
  have h1 := h1 hn0
  obtain ⟨l, q, e1, g1, g2, g3⟩ := drawLine_l hb (1 + r).toNat [] (p + 1) (by simp; omega) (by omega) (by omega)
  refine ⟨l, q, ?_, by simp at g1; omega, by simp at g1; omega, by omega, by omega⟩
  unfold spec_l20Line.f
  refine Ev.bind e ?_
  rw [w64 (by omega) (by omega)]
  rw [show (((1 + r).toNat : Nat) : Int) = 1 + r by omega] at e1
  exact e1
theorem drawKnown_end {b : List Int} (hb : Byts b) (out : List Int) (f : Bool) (hf : f = true → 0 < out.length) (hl : out.length ≤ 100) (p : Int) (hp : 0 ≤ p) (hp1 : p ≤ 10000) :
    ∃ l q, Ev (fun k => spec_l20Known.j1 k out f b p) (l, q) ∧ l.length ≤ out.length ∧ p ≤ q ∧ q ≤ p + 3 := by
  cases f
  · exact ⟨out, p, Ev.step (fun k => by rw [spec_l20Known.j1]) (Ev.ifn (by decide) (Ev.now _)), by omega, by omega, by omega⟩
  · have hf := hf rfl
    obtain ⟨r1, e1, h1, h1', _⟩ := pick_any hb hp (by omega) 3 (by omega)
    obtain ⟨r2, e2, h2, h2', _⟩ := pick_any hb (p := p + 1) (by omega) (by omega) (out.length : Int) (by omega)
    obtain ⟨r3, e3, h3, h3', _⟩ := pick_any hb (p := p + 1 + 1) (by omega) (by omega) 2 (by omega)
    have g2 := h2' (by omega)
    have g3 := h3' (by omega)
    by_cases c1 : r1 = 0
    · refine ⟨out.set r2.toNat (rd [-2, 2] r3), p + 1 + 1 + 1, Ev.step (fun k => by rw [spec_l20Known.j1]) ?_, by simp, by omega, by omega⟩
      exact Ev.ifp rfl (Ev.bind e1 (Ev.ifp c1 (Ev.bind e2 (Ev.bindc rfl (Ev.bind e3 (Ev.ifp h3 (Ev.ifp (by simp; omega) (Ev.ifp h2 (Ev.ifp g2 (Ev.now _))))))))))
    · by_cases c2 : r1 = 1
      · refine ⟨[], p + 1, Ev.step (fun k => by rw [spec_l20Known.j1]) ?_, by simp, by omega, by omega⟩
        exact Ev.ifp rfl (Ev.bind e1 (Ev.ifn c1 (Ev.ifp c2 (Ev.now _))))
      · refine ⟨out.set r2.toNat r3, p + 1 + 1 + 1, Ev.step (fun k => by rw [spec_l20Known.j1]) ?_, by simp, by omega, by omega⟩
        exact Ev.ifp rfl (Ev.bind e1 (Ev.ifn c1 (Ev.ifn c2 (Ev.bind e2 (Ev.bind e3 (Ev.ifp h2 (Ev.ifp g2 (Ev.now _))))))))
theorem drawKnown_l {b : List Int} (hb : Byts b) (line : List Bool) (n : Int) (hn : n ≤ 1000) (hl : line.length ≤ 100) : ∀ (d i : Nat) (out : List Int) (p : Int), line.length = i + d → out.length = i → 0 ≤ p → p ≤ 5000 - d →
    ∃ l q, Ev (fun k => spec_l20Known.l0 k line n out i b p) (l, q) ∧ l.length ≤ line.length ∧ p ≤ q ∧ q ≤ p + d + 4 := by
  intro d
  induction d with
  | zero =>
    intro i out p hi ho hp hp1
    by_cases c : (out.length : Int) > 0
    · obtain ⟨o, p1, eo, g1, g2⟩ := odd_any hb hp (by omega) n (by omega)
      obtain ⟨l, q, e, h1, h2, h3⟩ := drawKnown_end hb out o (fun _ => by omega) (by omega) p1 (by omega) (by omega)
      refine ⟨l, q, Ev.step (fun k => by rw [spec_l20Known.l0]) ?_, by omega, by omega, by omega⟩
      exact Ev.ifn (by omega) (Ev.ifp c (Ev.bind eo e))
    · obtain ⟨l, q, e, h1, h2, h3⟩ := drawKnown_end hb out false (fun h => by cases h) (by omega) p (by omega) (by omega)
      refine ⟨l, q, Ev.step (fun k => by rw [spec_l20Known.l0]) ?_, by omega, by omega, by omega⟩
      exact Ev.ifn (by omega) (Ev.ifn c e)
  | succ d ih =>
    intro i out p hi ho hp hp1
    have hw : wrap64 ((i : Int) + 1) = ((i + 1 : Nat) : Int) := by rw [w64 (by omega) (by omega)]; omega
    obtain ⟨r, e, _⟩ := pick_any hb hp (by omega) 3 (by omega)
    have nx : ∀ v : Int, ∃ l q, Ev (fun k => spec_l20Known.l0 k line n (out ++ [v]) ((i + 1 : Nat) : Int) b (p + 1)) (l, q) ∧ l.length ≤ line.length ∧ p + 1 ≤ q ∧ q ≤ p + 1 + d + 4 :=
      fun v => ih (i + 1) (out ++ [v]) (p + 1) (by omega) (by simp; omega) (by omega) (by omega)
    by_cases c : r = 0
    · cases hv : rdOf false line (i : Int)
      · obtain ⟨l, q, e1, h1, h2, h3⟩ := nx 0
        refine ⟨l, q, Ev.step (fun k => by rw [spec_l20Known.l0]) ?_, h1, by omega, by omega⟩
        rw [hv, hw]
        exact Ev.ifp (by omega) (Ev.bind e (Ev.ifp c (Ev.ifp (by omega) (Ev.ifn (by decide) (Ev.ifp (by omega) e1)))))
      · obtain ⟨l, q, e1, h1, h2, h3⟩ := nx 1
        refine ⟨l, q, Ev.step (fun k => by rw [spec_l20Known.l0]) ?_, h1, by omega, by omega⟩
        rw [hv, hw]
        exact Ev.ifp (by omega) (Ev.bind e (Ev.ifp c (Ev.ifp (by omega) (Ev.ifp rfl (Ev.ifp (by omega) e1)))))
    · obtain ⟨l, q, e1, h1, h2, h3⟩ := nx (-1)
      refine ⟨l, q, Ev.step (fun k => by rw [spec_l20Known.l0]) ?_, h1, by omega, by omega⟩
      rw [hw]
      exact Ev.ifp (by omega) (Ev.bind e (Ev.ifn c (Ev.ifp (by omega) e1)))
theorem drawKnown {b : List Int} (hb : Byts b) (line : List Bool) (n : Int) (hn : n ≤ 1000) (hl : line.length ≤ 8) {p : Int} (hp : 0 ≤ p) (hp1 : p ≤ 1000) :
    ∃ l q, Ev (fun k => spec_l20Known.f k b p line n) (l, q) ∧ l.length ≤ 8 ∧ p ≤ q ∧ q ≤ p + 12 := by
  obtain ⟨l, q, e, h1, h2, h3⟩ := drawKnown_l hb line n hn (by omega) line.length 0 [] p (by omega) rfl hp (by omega)
  exact ⟨l, q, by unfold spec_l20Known.f; exact e, by omega, by omega, by omega⟩
theorem alive_ev : Ev (fun k => laws_alive.f k) true := Ev.of (fun k => laws_alive.mono k) (k := 20) (by decide +kernel)
theorem FnKnownValid : laws_FnKnownValid.Pure := by
  intro l h _ hb
  apply Ev.rounds
  unfold laws_FnKnownValid.f
  by_cases c0 : (l.length : Int) > 1048576
  · exact Ev.ifp c0 (Ev.now _)
  refine Ev.ifn c0 ?_
  obtain ⟨b, e, hB⟩ := open_ok l h hb
  obtain ⟨line, q, e1, h1, h2, h3, h4⟩ := drawLine hB (p := 0) (by omega) (by omega) 8 (by omega) (by omega)
  obtain ⟨kn, q2, e2, g1, g2, g3⟩ := drawKnown hB line 2 (by omega) h2 (p := q) (by omega) (by omega)
  refine Ev.bind (a := kn) (by unfold spec_DrawKnownValid.f; exact Ev.bindc e (Ev.bind e1 (Ev.bind e2 (Ev.now _)))) ?_
  refine Ev.bind (impl_known kn (by omega)) (Ev.bind (spec_known kn (by omega)) (Ev.ifn (by simp) ?_))
  have fbad : knownV (kn ++ [2]) = false := by
    unfold knownV
    rw [Bool.and_eq_false_iff]; left
    rw [List.all_eq_false]
    exact ⟨2, by simp, by simp⟩
  have bad : Ev (fun k => (some (([] : List Int) : List Int)).bind fun y183 => (if y183.length + kn.length < 17592186044416 then ((some (y183 ++ kn : List Int)).bind fun y186 => (if y186.length < 17592186044416 then ((impl_KnownValid.f k (y186 ++ [2])).bind fun t192 => (if t192 = true then (some false) else ((laws_alive.f k).bind fun t193 => (some t193)))) else (none))) else (none))) true := by
    refine Ev.bindc rfl (Ev.ifp (by simp; omega) (Ev.bindc rfl (Ev.ifp (by simp; omega) ?_)))
    rw [List.nil_append]
    refine Ev.bind (impl_known (kn ++ [2]) (by simp; omega)) ?_
    rw [fbad]
    exact Ev.ifn (by decide) (Ev.bind alive_ev (Ev.now _))
  by_cases c : knownV kn = true
  · refine Ev.ifp c ?_
    by_cases c2 : (kn.length : Int) < 2
    · exact Ev.ifp c2 bad
    · have fd : knownV (kn.drop 1) = true := by
        unfold knownV at c ⊢
        simp only [Bool.and_eq_true, decide_eq_true_eq, List.all_eq_true, List.length_drop] at c ⊢
        exact ⟨fun x hx => c.1 x (List.mem_of_mem_drop hx), by omega⟩
      refine Ev.ifn c2 (Ev.ifp (by omega) (Ev.bind (impl_known (kn.drop 1) (by simp; omega)) ?_))
      rw [fd]
      exact Ev.ifp rfl bad
  · exact Ev.ifn c bad

end Go.Proofs.Ytnmlcbdbbnaabaa.Pure
