/- For every code: at the board that the code draws BoardValid answers what the reference answers; a valid board with a hole outside, and a board without rows, are invalid. No conditions beyond the code being bytes. -/
import Derived.Test.YtbnpdiahogigiaaPFnBoardValidx4
namespace Go.Proofs.Ytbnpdiahogigiaa.Pure
open Go.RowKit Go.Proofs.Ytbnpdiahogigiaa.PFnBoardValid Go.Proofs.YtbnpdiahogigiaaW.PrintWords Go.Proofs.YtbnpdiahogigiaaW.PrintLast Go.Proofs.YtbnpdiahogigiaaW.PrintMore
set_option linter.unusedVariables false
set_option linter.unusedSimpArgs false
/-! Ev: small steps. -/
theorem _root_.Go.Proofs.YtbnpdiahogigiaaW.PrintWords.Ev.ifp {α : Type} {c : Prop} [Decidable c] {g f : Nat → Option α} {r : α} (hc : c) (h : Ev g r) : Ev (fun k => if c then g k else f k) r :=
  Ev.congr (fun _ => if_pos hc) h
theorem _root_.Go.Proofs.YtbnpdiahogigiaaW.PrintWords.Ev.ifn {α : Type} {c : Prop} [Decidable c] {g f : Nat → Option α} {r : α} (hc : ¬ c) (h : Ev f r) : Ev (fun k => if c then g k else f k) r :=
  Ev.congr (fun _ => if_neg hc) h
theorem _root_.Go.Proofs.YtbnpdiahogigiaaW.PrintWords.Ev.bindc {α β : Type} {o : Option α} {f : Nat → α → Option β} {a : α} {r : β} (h : o = some a) (k : Ev (fun n => f n a) r) : Ev (fun n => o.bind (f n)) r := by
  subst h; exact k
theorem _root_.Go.Proofs.YtbnpdiahogigiaaW.PrintWords.Ev.eq {α : Type} {g : Nat → Option α} {r r' : α} (h : Ev g r) (e : r = r') : Ev g r' := e ▸ h
theorem _root_.Go.Proofs.YtbnpdiahogigiaaW.PrintWords.Ev.cst {α : Type} {o : Option α} {r : α} (h : o = some r) : Ev (fun _ => o) r := ⟨0, fun _ _ => h⟩
theorem w64 {x : Int} (h0 : -9223372036854775808 ≤ x) (h1 : x ≤ 9223372036854775807) : wrap64 x = x := by unfold wrap64; omega
theorem wf_i64 {x : Int} (h : (Lit.int .i64 x).wf = true) : -9223372036854775808 ≤ x ∧ x ≤ 9223372036854775807 := by
  have h2 : (decide (IntKind.i64.min ≤ x) && decide (x ≤ IntKind.i64.max)) = true := h
  simp [IntKind.min, IntKind.max, IntKind.bits, IntKind.signed] at h2
  exact h2
theorem wf_u8 {x : Int} (h : (Lit.int .u8 x).wf = true) : 0 ≤ x ∧ x ≤ 255 := by
  have h2 : (decide (IntKind.u8.min ≤ x) && decide (x ≤ IntKind.u8.max)) = true := h
  simp [IntKind.min, IntKind.max, IntKind.bits, IntKind.signed] at h2
  omega
theorem rd_nat (xs : List Int) (i : Nat) (h : i < xs.length) : rd xs (i : Int) = xs[i] := by
  simp [rd, List.getD_eq_getElem?_getD, h]
theorem rd_mem (xs : List Int) (i : Int) (h0 : 0 ≤ i) (h : i < xs.length) : rd xs i ∈ xs := by
  obtain ⟨n, rfl⟩ := Int.eq_ofNat_of_zero_le h0
  rw [rd_nat xs n (by omega)]; exact List.getElem_mem _
theorem l1In_f (a b c : Int) : spec_l1In.f a b c = some (decide (b ≤ a ∧ a ≤ c)) := by
  unfold spec_l1In.f
  by_cases h : a ≥ b
  · rw [if_pos h]; simp; omega
  · rw [if_neg h]; simp; omega
/-- What BoardValid answers. -/
def boardV (r c h : Int) : Bool := decide (1 ≤ r ∧ 1 ≤ c ∧ r ≤ 24 ∧ c ≤ 24 ∧ r * c ≤ 24 ∧ 0 ≤ h ∧ h < 2 ^ (r * c).toNat)
theorem mul_bd {r c : Int} (h1 : 1 ≤ r) (h2 : r ≤ 24) (h3 : 1 ≤ c) (h4 : c ≤ 24) : 1 ≤ r * c ∧ r * c ≤ 576 ∧ wrap64 (r * c) = r * c := by
  have a : 0 < r * c := Int.mul_pos (by omega) (by omega)
  have b : r * c ≤ 24 * 24 := Int.mul_le_mul h2 h4 (by omega) (by omega)
  exact ⟨by omega, by omega, w64 (by omega) (by omega)⟩
theorem shl1_all : ∀ n ∈ List.range 25, shl .i64 1 (n : Int) = 2 ^ n ∧ 1 ≤ (2 : Int) ^ n ∧ (2 : Int) ^ n ≤ 16777216 := by decide +kernel
theorem shl1 (n : Int) (h0 : 0 ≤ n) (h1 : n ≤ 24) : shl .i64 1 n = 2 ^ n.toNat ∧ 1 ≤ (2 : Int) ^ n.toNat ∧ (2 : Int) ^ n.toNat ≤ 16777216 := by
  have := shl1_all n.toNat (List.mem_range.2 (by omega))
  rw [show ((n.toNat : Nat) : Int) = n by omega] at this
  exact this
theorem impl_board (r c h : Int) : impl_BoardValid.f r c h = some (boardV r c h) := by
  unfold impl_BoardValid.f boardV
  by_cases c1 : r < 1
  · rw [if_pos c1]; simp; omega
  rw [if_neg c1]
  by_cases c2 : c < 1
  · rw [if_pos c2]; simp; omega
  rw [if_neg c2]
  by_cases c3 : r > 24
  · rw [if_pos c3]; simp; omega
  rw [if_neg c3]
  by_cases c4 : c > 24
  · rw [if_pos c4]; simp; omega
  rw [if_neg c4]
  have hm := mul_bd (r := r) (c := c) (by omega) (by omega) (by omega) (by omega)
  rw [hm.2.2]
  generalize r * c = n at hm
  by_cases c5 : n > 24
  · rw [if_pos c5]; simp; omega
  rw [if_neg c5]
  have hs := shl1 n (by omega) (by omega)
  by_cases c6 : h ≥ 0
  · rw [if_pos c6, if_pos (by omega), hs.1]; simp only [Option.some.injEq, decide_eq_decide]; omega
  · rw [if_neg c6]; simp; omega
theorem spec_board (r c h : Int) : spec_BoardValid.f r c h = some (boardV r c h) := by
  unfold spec_BoardValid.f boardV
  rw [l1In_f, l1In_f]
  simp only [Option.bind_some]
  by_cases c1 : 1 ≤ r ∧ r ≤ 24
  · rw [if_pos (by simpa using c1)]
    by_cases c2 : 1 ≤ c ∧ c ≤ 24
    · rw [if_pos (by simpa using c2)]
      have hm := mul_bd (r := r) (c := c) (by omega) (by omega) (by omega) (by omega)
      rw [hm.2.2]
      generalize r * c = n at hm
      by_cases c5 : n ≤ 24
      · have hs := shl1 n (by omega) (by omega)
        rw [if_pos c5, if_pos (by omega), hs.1, l1In_f, w64 (by omega) (by omega)]
        simp only [Option.bind_some, Option.some.injEq, decide_eq_decide]; omega
      · rw [if_neg c5]; simp; omega
    · rw [if_neg (by simpa using c2)]; simp; omega
  · rw [if_neg (by simpa using c1)]; simp; omega
/-! The reader of draws: only that each number drawn lies in its range. -/
structure Byts (b : List Int) : Prop where
  len : b.length ≤ 2000
  val : ∀ x ∈ b, 0 ≤ x ∧ x ≤ 255
theorem xor_nn {a b : Int} (ha : 0 ≤ a) (ha1 : a < 4611686018427387904) (hb : 0 ≤ b) (hb1 : b < 4611686018427387904) : 0 ≤ Go.bits .xor .i64 a b := by
  obtain ⟨m, rfl⟩ := Int.eq_ofNat_of_zero_le ha
  obtain ⟨n, rfl⟩ := Int.eq_ofNat_of_zero_le hb
  have h : (m ^^^ n) < 2 ^ 62 := Nat.xor_lt_two_pow (by omega) (by omega)
  have hm : m % 2 ^ IntKind.i64.bits = m := Nat.mod_eq_of_lt (show m < 2 ^ 64 by omega)
  have hn : n % 2 ^ IntKind.i64.bits = n := Nat.mod_eq_of_lt (show n < 2 ^ 64 by omega)
  simp only [Go.bits, BitVec.ofInt_natCast, BitVec.toNat_xor, BitVec.toNat_ofNat, hm, hn]
  rw [IntKind.wrap_i64]
  omega
theorem open_ok (l : List Int) (h : l.length ≤ maxLen) (hb : ∀ x ∈ l, (Lit.int .u8 x).wf = true) : ∃ b, spec_l20Open.f l = some (b, 0) ∧ Byts b := by
  unfold spec_l20Open.f
  by_cases c : (l.length : Int) > 2000
  · rw [if_pos c, if_pos (by omega)]
    exact ⟨_, rfl, by rw [List.length_take]; omega, fun x hx => wf_u8 (hb x (List.mem_of_mem_take hx))⟩
  · rw [if_neg c]
    exact ⟨_, rfl, by omega, fun x hx => wf_u8 (hb x hx)⟩
theorem pick_any {b : List Int} (hb : Byts b) {p : Int} (hp : 0 ≤ p) (hp1 : p ≤ 1000000) (n : Int) (hn1 : n ≤ 9223372036854775807) :
    ∃ r, Ev (fun k => spec_l20Rd_pick.f k b p n) (r, p + 1) ∧ 0 ≤ r ∧ (1 ≤ n → r < n) ∧ (n < 1 → r = 0) := by
  have hw : wrap64 (p + 1) = p + 1 := w64 (by omega) (by omega)
  have hw2 : wrap64 (p + 1 - 1) = p := by rw [w64 (by omega) (by omega)]; omega
  have hl := hb.len
  unfold spec_l20Rd_pick.f
  by_cases c : n < 1
  · refine ⟨0, Ev.ifp c (Ev.step (f := fun _ => some (0, p + 1)) (fun k => ?_) (Ev.now _)), by omega, by omega, fun _ => rfl⟩
    rw [spec_l20Rd_pick.j0]; rw [if_pos rfl, hw]
  · by_cases c0 : b.length = 0
    · refine ⟨0, Ev.ifn c (Ev.step (f := fun _ => some (0, p + 1)) (fun k => ?_) (Ev.now _)), by omega, by omega, fun _ => rfl⟩
      rw [spec_l20Rd_pick.j0]
      rw [c0, if_pos (by decide), hw]
    · have c0' : ((b.length : Int) == 0) = false := by simp; intro h; simp [h] at c0
      by_cases c1 : p < (b.length : Int)
      · have hm := hb.val _ (rd_mem b p hp c1)
        refine ⟨Int.tmod (rd b p) n, Ev.ifn c (Ev.step (f := fun _ => some (Int.tmod (rd b p) n, p + 1)) (fun k => ?_) (Ev.now _)), Int.tmod_nonneg _ hm.1, fun h => Int.tmod_lt_of_pos _ (by omega), fun h => absurd h c⟩
        rw [spec_l20Rd_pick.j0]
        rw [c0', if_neg (by decide), hw, hw2, if_pos c1, if_pos hp, if_neg (by omega), w64 (by omega) (by omega)]
      · have hL : (0 : Int) < (b.length : Int) := by omega
        have e1 := Int.tmod_nonneg (b.length : Int) hp
        have e2 := Int.tmod_lt_of_pos p hL
        have k7 : wrap64 (p * 7) = p * 7 := w64 (by omega) (by omega)
        have k73 : wrap64 (p * 7 + 3) = p * 7 + 3 := w64 (by omega) (by omega)
        have e3 := Int.tmod_nonneg (b.length : Int) (show 0 ≤ p * 7 + 3 by omega)
        have e4 := Int.tmod_lt_of_pos (p * 7 + 3) hL
        have m1 := hb.val _ (rd_mem b _ e1 e2)
        have m2 := hb.val _ (rd_mem b _ e3 e4)
        have d0 : Int.tdiv p (b.length : Int) = p / (b.length : Int) := Int.tdiv_eq_ediv_of_nonneg hp
        have d1 : 0 ≤ p / (b.length : Int) := Int.ediv_nonneg hp (by omega)
        have d2 : p / (b.length : Int) ≤ p := Int.ediv_le_self _ hp
        generalize hx1 : rd b (Int.tmod p (b.length : Int)) = x1 at m1
        generalize hx2 : rd b (Int.tmod (p * 7 + 3) (b.length : Int)) = x2 at m2
        generalize hq : p / (b.length : Int) = q at d0 d1 d2
        have hX : 0 ≤ Go.bits .xor .i64 (x1 * 131 + x2 * 1117 + p * 29 + q * 53) ((x1 * 131 + x2 * 1117 + p * 29 + q * 53) / 64) := xor_nn (by omega) (by omega) (by omega) (by omega)
        generalize hR : Go.bits .xor .i64 (x1 * 131 + x2 * 1117 + p * 29 + q * 53) ((x1 * 131 + x2 * 1117 + p * 29 + q * 53) / 64) = X at hX
        refine ⟨Int.tmod X n, Ev.ifn c (Ev.step (f := fun _ => some (Int.tmod X n, p + 1)) (fun k => ?_) (Ev.now _)), Int.tmod_nonneg _ hX, fun h => Int.tmod_lt_of_pos _ (by omega), fun h => absurd h c⟩
        rw [spec_l20Rd_pick.j0]
        rw [c0', if_neg (by decide), hw, hw2, if_neg c1, if_neg (by omega), k7, k73, if_pos e1, if_pos e2, if_pos e3, if_pos e4, if_neg (by omega), hx1, hx2, d0]
        rw [w64 (x := x1) (by omega) (by omega), w64 (x := x2) (by omega) (by omega), w64 (x := q) (by omega) (by omega), w64 (x := x1 * 131) (by omega) (by omega), w64 (x := x2 * 1117) (by omega) (by omega), w64 (x := p * 29) (by omega) (by omega), w64 (x := q * 53) (by omega) (by omega)]
        rw [w64 (x := x1 * 131 + x2 * 1117) (by omega) (by omega), w64 (x := x1 * 131 + x2 * 1117 + p * 29) (by omega) (by omega), w64 (x := x1 * 131 + x2 * 1117 + p * 29 + q * 53) (by omega) (by omega)]
        rw [Int.tdiv_eq_ediv_of_nonneg (by omega), w64 (by omega) (by omega), hR]
theorem odd_any {b : List Int} (hb : Byts b) {p : Int} (hp : 0 ≤ p) (hp1 : p ≤ 1000000) (n : Int) (hn1 : n ≤ 9223372036854775807) :
    ∃ r q, Ev (fun k => spec_l20Rd_odd.f k b p n) (r, q) ∧ p ≤ q ∧ q ≤ p + 1 := by
  unfold spec_l20Rd_odd.f
  by_cases c : n > 0
  · obtain ⟨r, e, _⟩ := pick_any hb hp hp1 n hn1
    exact ⟨_, _, Ev.ifp c (Ev.bind e (Ev.now _)), by omega, by omega⟩
  · exact ⟨_, _, Ev.ifn c (Ev.now _), by omega, by omega⟩
theorem drawBoard_l {b : List Int} (hb : Byts b) (n : Int) (hn : n ≤ 1000) (r c : Int) (hr : 1 ≤ r ∧ r ≤ 4) (hc : 1 ≤ c ∧ c ≤ 6) : ∀ (d : Nat) (h p : Int), 0 ≤ p → p ≤ 500 - d →
    ∃ q, Ev (fun k => spec_l20Board.l0 k n d b p r c h) q := by
  have hm := mul_bd (r := r) (c := c) (by omega) (by omega) (by omega) (by omega)
  have hm1 : r * c ≤ 4 * 6 := Int.mul_le_mul hr.2 hc.2 (by omega) (by omega)
  intro d
  induction d with
  | zero =>
    intro h p hp hp1
    obtain ⟨o, p1, eo, ho1, ho2⟩ := odd_any hb hp (by omega) n (by omega)
    suffices H : ∃ q, Ev (fun k => if o = true then ((spec_l20Rd_pick.f k b p1 3).bind fun bt134 => (if bt134.1 = 0 then ((some (([0, 25, 7] : List Int) : List Int)).bind fun y136 => ((spec_l20Rd_pick.f k b bt134.2 3).bind fun bt139 => (if 0 ≤ bt139.1 then (if bt139.1 < (y136.length : Int) then (some (rd y136 bt139.1, c, h, bt139.2)) else (none)) else (none)))) else (if bt134.1 = 1 then ((some (([0, 25] : List Int) : List Int)).bind fun y142 => ((spec_l20Rd_pick.f k b bt134.2 2).bind fun bt145 => (if 0 ≤ bt145.1 then (if bt145.1 < (y142.length : Int) then (some (r, rd y142 bt145.1, h, bt145.2)) else (none)) else (none)))) else (if 0 ≤ (wrap64 (r * c)) then ((some (([(-1), shl .i64 1 (wrap64 (r * c))] : List Int) : List Int)).bind fun y148 => ((spec_l20Rd_pick.f k b bt134.2 2).bind fun bt151 => (if 0 ≤ bt151.1 then (if bt151.1 < (y148.length : Int) then (some (r, c, rd y148 bt151.1, bt151.2)) else (none)) else (none)))) else (none))))) else (some (r, c, h, p1))) q by
      obtain ⟨q, e⟩ := H
      refine ⟨q, Ev.step (fun k => by rw [spec_l20Board.l0]) ?_⟩
      exact Ev.ifn (by omega) (Ev.bind eo e)
    cases o with
    | false => exact ⟨_, Ev.ifn (by decide) (Ev.now _)⟩
    | true =>
      obtain ⟨r1, e1, h1, h1', _⟩ := pick_any hb (p := p1) (by omega) (by omega) 3 (by omega)
      by_cases c1 : r1 = 0
      · obtain ⟨r2, e2, h2, h2', _⟩ := pick_any hb (p := p1 + 1) (by omega) (by omega) 3 (by omega)
        exact ⟨_, Ev.ifp rfl (Ev.bind e1 (Ev.ifp c1 (Ev.bindc rfl (Ev.bind e2 (Ev.ifp h2 (Ev.ifp (by simp; omega) (Ev.now _)))))))⟩
      · obtain ⟨r2, e2, h2, h2', _⟩ := pick_any hb (p := p1 + 1) (by omega) (by omega) 2 (by omega)
        by_cases c2 : r1 = 1
        · exact ⟨_, Ev.ifp rfl (Ev.bind e1 (Ev.ifn c1 (Ev.ifp c2 (Ev.bindc rfl (Ev.bind e2 (Ev.ifp h2 (Ev.ifp (by simp; omega) (Ev.now _))))))))⟩
        · exact ⟨_, Ev.ifp rfl (Ev.bind e1 (Ev.ifn c1 (Ev.ifn c2 (Ev.ifp (by omega) (Ev.bindc rfl (Ev.bind e2 (Ev.ifp h2 (Ev.ifp (by simp; omega) (Ev.now _)))))))))⟩
  | succ d ih =>
    intro h p hp hp1
    have hw : wrap64 (((d + 1 : Nat) : Int) - 1) = (d : Int) := by rw [w64 (by omega) (by omega)]; omega
    obtain ⟨r1, e1, h1, h1', _⟩ := pick_any hb (p := p) (by omega) (by omega) (wrap64 (r * c)) (by omega)
    obtain ⟨q, e⟩ := ih (Go.bits .or .i64 h (shl .i64 1 r1)) (p + 1) (by omega) (by omega)
    refine ⟨q, Ev.step (fun k => by rw [spec_l20Board.l0]) ?_⟩
    refine Ev.ifp (by omega) (Ev.bind e1 (Ev.ifp h1 ?_))
    rw [hw]; exact e
theorem drawBoard {b : List Int} (hb : Byts b) (n : Int) (hn : n ≤ 1000) : ∃ q, Ev (fun k => spec_l20Board.f k b 0 n) q := by
  obtain ⟨r1, e1, h1, h1', _⟩ := pick_any hb (p := 0) (by omega) (by omega) 4 (by omega)
  obtain ⟨r2, e2, h2, h2', _⟩ := pick_any hb (p := 0 + 1) (by omega) (by omega) 6 (by omega)
  obtain ⟨r3, e3, h3, h3', _⟩ := pick_any hb (p := 0 + 1 + 1) (by omega) (by omega) 5 (by omega)
  have a1 := h1' (by omega)
  have a2 := h2' (by omega)
  have a3 := h3' (by omega)
  obtain ⟨q, e⟩ := drawBoard_l hb n hn (1 + r1) (1 + r2) (by omega) (by omega) r3.toNat 0 (0 + 1 + 1 + 1) (by omega) (by omega)
  refine ⟨q, ?_⟩
  unfold spec_l20Board.f
  refine Ev.bind e1 (Ev.bind e2 (Ev.bind e3 ?_))
  rw [w64 (x := 1 + r1) (by omega) (by omega), w64 (x := 1 + r2) (by omega) (by omega)]
  rw [show ((r3.toNat : Nat) : Int) = r3 by omega] at e
  exact e
theorem alive_ev : Ev (fun k => laws_alive.f k) true := Ev.of (fun k => laws_alive.mono k) (k := 20) (by decide +kernel)
theorem FnBoardValid : laws_FnBoardValid.Pure := by
  intro l h _ hb
  apply Ev.rounds
  unfold laws_FnBoardValid.f
  by_cases c0 : (l.length : Int) > 1048576
  · exact Ev.ifp c0 (Ev.now _)
  refine Ev.ifn c0 ?_
  obtain ⟨b, e, hB⟩ := open_ok l h hb
  obtain ⟨⟨r, c, m, p⟩, e1⟩ := drawBoard hB 2 (by omega)
  refine Ev.bind (a := (r, c, m)) (by unfold spec_DrawBoardValid.f; exact Ev.bindc e (Ev.bind e1 (Ev.now _))) ?_
  refine Ev.bindc (impl_board r c m) (Ev.bindc (spec_board r c m) (Ev.ifn (by simp) ?_))
  have f0 : boardV 0 c 0 = false := by unfold boardV; simp
  by_cases hv : boardV r c m = true
  · have hv' := hv
    unfold boardV at hv'
    rw [decide_eq_true_eq] at hv'
    obtain ⟨h1, h2, h3, h4, h5, h6, h7⟩ := hv'
    have hm := mul_bd (r := r) (c := c) (by omega) (by omega) (by omega) (by omega)
    have hs := shl1 (r * c) (by omega) (by omega)
    have f1 : boardV r c (2 ^ (r * c).toNat) = false := by unfold boardV; simp
    refine Ev.ifp hv (Ev.ifp (by show 0 ≤ wrap64 (r * c); omega) (Ev.bindc (a := false) ?_ (Ev.ifn (by decide) (Ev.bindc (a := false) ?_ (Ev.ifn (by decide) (Ev.bind alive_ev (Ev.now _)))))))
    · show impl_BoardValid.f r c (shl .i64 1 (wrap64 (r * c))) = _
      rw [hm.2.2, hs.1, impl_board, f1]
    · rw [impl_board, f0]
  · refine Ev.ifn hv (Ev.bindc (a := false) ?_ (Ev.ifn (by decide) (Ev.bind alive_ev (Ev.now _))))
    rw [impl_board, f0]

end Go.Proofs.Ytbnpdiahogigiaa.Pure
