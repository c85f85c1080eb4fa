/- For every drawn grid GridForms of the program is GridForms of the reference: eight grids, the first one the grid itself, each of which fits exactly if the grid does. No conditions. -/
import Derived.Test.YtniinbnpdnajjaaPFnGridFormsx7
namespace Go.Proofs.Ytniinbnpdnajjaa.Pure
open Go.RowKit Go.Proofs.Ytniinbnpdnajjaa.PFnGridForms Go.Proofs.YtniinbnpdnajjaaW.PrintWords Go.Proofs.YtniinbnpdnajjaaW.PrintLast Go.Proofs.YtniinbnpdnajjaaW.PrintMore
set_option linter.unusedVariables false
set_option linter.unusedSimpArgs false
/-! Ev: small steps. -/
theorem _root_.Go.Proofs.YtniinbnpdnajjaaW.PrintWords.Ev.ifp {α : Type} {c : Prop} [Decidable c] {g f : Nat → Option α} {r : α} (hc : c) (h : Ev g r) : Ev (fun k => if c then g k else f k) r :=
  Ev.congr (fun _ => if_pos hc) h
theorem _root_.Go.Proofs.YtniinbnpdnajjaaW.PrintWords.Ev.ifn {α : Type} {c : Prop} [Decidable c] {g f : Nat → Option α} {r : α} (hc : ¬ c) (h : Ev f r) : Ev (fun k => if c then g k else f k) r :=
  Ev.congr (fun _ => if_neg hc) h
theorem _root_.Go.Proofs.YtniinbnpdnajjaaW.PrintWords.Ev.bindc {α β : Type} {o : Option α} {f : Nat → α → Option β} {a : α} {r : β} (h : o = some a) (k : Ev (fun n => f n a) r) : Ev (fun n => o.bind (f n)) r := by
  subst h; exact k
theorem _root_.Go.Proofs.YtniinbnpdnajjaaW.PrintWords.Ev.eq {α : Type} {g : Nat → Option α} {r r' : α} (h : Ev g r) (e : r = r') : Ev g r' := e ▸ h
theorem _root_.Go.Proofs.YtniinbnpdnajjaaW.PrintWords.Ev.cst {α : Type} {o : Option α} {r : α} (h : o = some r) : Ev (fun _ => o) r := ⟨0, fun _ _ => h⟩
theorem w64 {x : Int} (h0 : -9223372036854775808 ≤ x) (h1 : x ≤ 9223372036854775807) : wrap64 x = x := by unfold wrap64; omega
theorem wf_i64 {x : Int} (h : (Lit.int .i64 x).wf = true) : -9223372036854775808 ≤ x ∧ x ≤ 9223372036854775807 := by
  have h2 : (decide (IntKind.i64.min ≤ x) && decide (x ≤ IntKind.i64.max)) = true := h
  simp [IntKind.min, IntKind.max, IntKind.bits, IntKind.signed] at h2
  exact h2
theorem wf_u8 {x : Int} (h : (Lit.int .u8 x).wf = true) : 0 ≤ x ∧ x ≤ 255 := by
  have h2 : (decide (IntKind.u8.min ≤ x) && decide (x ≤ IntKind.u8.max)) = true := h
  simp [IntKind.min, IntKind.max, IntKind.bits, IntKind.signed] at h2
  omega
theorem rd_nat (xs : List Int) (i : Nat) (h : i < xs.length) : rd xs (i : Int) = xs[i] := by
  simp [rd, List.getD_eq_getElem?_getD, h]
theorem rd_mem (xs : List Int) (i : Int) (h0 : 0 ≤ i) (h : i < xs.length) : rd xs i ∈ xs := by
  obtain ⟨n, rfl⟩ := Int.eq_ofNat_of_zero_le h0
  rw [rd_nat xs n (by omega)]; exact List.getElem_mem _
theorem l1In_f (a b c : Int) : spec_l1In.f a b c = some (decide (b ≤ a ∧ a ≤ c)) := by
  unfold spec_l1In.f
  by_cases h : a ≥ b
  · rw [if_pos h]; simp; omega
  · rw [if_neg h]; simp; omega
theorem alive_ev : Ev (fun k => laws_alive.f k) true := Ev.of (fun k => laws_alive.mono k) (k := 20) (by decide +kernel)
theorem sameInts_l (a b : List Int) (h : a.length = b.length) (hl : a.length ≤ 140737488351232) : ∀ (d i : Nat), a.length = i + d → Ev (fun k => laws_sameInts.l0 k a b i) (decide (a.drop i = b.drop i)) := by
  intro d
  induction d with
  | zero =>
    intro i hi
    refine Ev.step (f := fun _ => some (decide (a.drop i = b.drop i))) (fun k => ?_) (Ev.now _)
    rw [laws_sameInts.l0]; rw [if_neg (by omega), List.drop_eq_nil_of_le (by omega), List.drop_eq_nil_of_le (by omega)]; simp
  | succ d ih =>
    intro i hi
    have ha : i < a.length := by omega
    have hb : i < b.length := by omega
    have hw : wrap64 ((i : Int) + 1) = ((i + 1 : Nat) : Int) := by rw [w64 (by omega) (by omega)]; omega
    by_cases c : a[i] = b[i]
    · refine Ev.step (f := fun k => laws_sameInts.l0 k a b ((i + 1 : Nat) : Int)) (fun k => ?_) ((ih (i + 1) (by omega)).eq ?_)
      · rw [laws_sameInts.l0]; rw [if_pos (by omega), if_pos (by omega), if_pos (by omega), rd_nat a i ha, rd_nat b i hb, if_pos c, hw]
      · rw [List.drop_eq_getElem_cons ha, List.drop_eq_getElem_cons hb, c]; simp only [List.cons.injEq, true_and]
    · refine Ev.step (f := fun k => some false) (fun k => ?_) ((Ev.now _).eq ?_)
      · rw [laws_sameInts.l0]; rw [if_pos (by omega), if_pos (by omega), if_pos (by omega), rd_nat a i ha, rd_nat b i hb, if_neg c]
      · rw [List.drop_eq_getElem_cons ha, List.drop_eq_getElem_cons hb]; simp only [List.cons.injEq, c, false_and, decide_false]
theorem sameInts_ev (a b : List Int) (hl : a.length ≤ 140737488351232) : Ev (fun k => laws_sameInts.f k a b) (decide (a = b)) := by
  unfold laws_sameInts.f
  by_cases h : a.length = b.length
  · exact Ev.ifp (by omega) ((sameInts_l a b h hl a.length 0 (by omega)).eq (by simp))
  · refine Ev.ifn (by omega) ((Ev.now false).eq ?_)
    symm; simp; intro e; exact h (by rw [e])
theorem sameInts_self (a : List Int) (hl : a.length ≤ 140737488351232) : Ev (fun k => laws_sameInts.f k a a) true := (sameInts_ev a a hl).eq (by simp)
/-! The reader of draws: only that each number drawn lies in its range. -/
structure Byts (b : List Int) : Prop where
  len : b.length ≤ 2000
  val : ∀ x ∈ b, 0 ≤ x ∧ x ≤ 255
theorem xor_nn {a b : Int} (ha : 0 ≤ a) (ha1 : a < 4611686018427387904) (hb : 0 ≤ b) (hb1 : b < 4611686018427387904) : 0 ≤ Go.bits .xor .i64 a b := by
  obtain ⟨m, rfl⟩ := Int.eq_ofNat_of_zero_le ha
  obtain ⟨n, rfl⟩ := Int.eq_ofNat_of_zero_le hb
  have h : (m ^^^ n) < 2 ^ 62 := Nat.xor_lt_two_pow (by omega) (by omega)
  have hm : m % 2 ^ IntKind.i64.bits = m := Nat.mod_eq_of_lt (show m < 2 ^ 64 by omega)
  have hn : n % 2 ^ IntKind.i64.bits = n := Nat.mod_eq_of_lt (show n < 2 ^ 64 by omega)
  simp only [Go.bits, BitVec.ofInt_natCast, BitVec.toNat_xor, BitVec.toNat_ofNat, hm, hn]
  rw [IntKind.wrap_i64]
  omega
theorem open_ok (l : List Int) (h : l.length ≤ maxLen) (hb : ∀ x ∈ l, (Lit.int .u8 x).wf = true) : ∃ b, spec_l20Open.f l = some (b, 0) ∧ Byts b := by
  unfold spec_l20Open.f
  by_cases c : (l.length : Int) > 2000
  · rw [if_pos c, if_pos (by omega)]
    exact ⟨_, rfl, by rw [List.length_take]; omega, fun x hx => wf_u8 (hb x (List.mem_of_mem_take hx))⟩
  · rw [if_neg c]
    exact ⟨_, rfl, by omega, fun x hx => wf_u8 (hb x hx)⟩
theorem pick_any {b : List Int} (hb : Byts b) {p : Int} (hp : 0 ≤ p) (hp1 : p ≤ 1000000) (n : Int) (hn1 : n ≤ 9223372036854775807) :
    ∃ r, Ev (fun k => spec_l20Rd_pick.f k b p n) (r, p + 1) ∧ 0 ≤ r ∧ (1 ≤ n → r < n) ∧ (n < 1 → r = 0) := by
  have hw : wrap64 (p + 1) = p + 1 := w64 (by omega) (by omega)
  have hw2 : wrap64 (p + 1 - 1) = p := by rw [w64 (by omega) (by omega)]; omega
  have hl := hb.len
  unfold spec_l20Rd_pick.f
  by_cases c : n < 1
  · refine ⟨0, Ev.ifp c (Ev.step (f := fun _ => some (0, p + 1)) (fun k => ?_) (Ev.now _)), by omega, by omega, fun _ => rfl⟩
    rw [spec_l20Rd_pick.j0]; rw [if_pos rfl, hw]
  · by_cases c0 : b.length = 0
    · refine ⟨0, Ev.ifn c (Ev.step (f := fun _ => some (0, p + 1)) (fun k => ?_) (Ev.now _)), by omega, by omega, fun _ => rfl⟩
      rw [spec_l20Rd_pick.j0]
      rw [c0, if_pos (by decide), hw]
    · have c0' : ((b.length : Int) == 0) = false := by simp; intro h; simp [h] at c0
      by_cases c1 : p < (b.length : Int)
      · have hm := hb.val _ (rd_mem b p hp c1)
        refine ⟨Int.tmod (rd b p) n, Ev.ifn c (Ev.step (f := fun _ => some (Int.tmod (rd b p) n, p + 1)) (fun k => ?_) (Ev.now _)), Int.tmod_nonneg _ hm.1, fun h => Int.tmod_lt_of_pos _ (by omega), fun h => absurd h c⟩
        rw [spec_l20Rd_pick.j0]
        rw [c0', if_neg (by decide), hw, hw2, if_pos c1, if_pos hp, if_neg (by omega), w64 (by omega) (by omega)]
      · have hL : (0 : Int) < (b.length : Int) := by omega
        have e1 := Int.tmod_nonneg (b.length : Int) hp
        have e2 := Int.tmod_lt_of_pos p hL
        have k7 : wrap64 (p * 7) = p * 7 := w64 (by omega) (by omega)
        have k73 : wrap64 (p * 7 + 3) = p * 7 + 3 := w64 (by omega) (by omega)
        have e3 := Int.tmod_nonneg (b.length : Int) (show 0 ≤ p * 7 + 3 by omega)
        have e4 := Int.tmod_lt_of_pos (p * 7 + 3) hL
        have m1 := hb.val _ (rd_mem b _ e1 e2)
        have m2 := hb.val _ (rd_mem b _ e3 e4)
        have d0 : Int.tdiv p (b.length : Int) = p / (b.length : Int) := Int.tdiv_eq_ediv_of_nonneg hp
        have d1 : 0 ≤ p / (b.length : Int) := Int.ediv_nonneg hp (by omega)
        have d2 : p / (b.length : Int) ≤ p := Int.ediv_le_self _ hp
        generalize hx1 : rd b (Int.tmod p (b.length : Int)) = x1 at m1
        generalize hx2 : rd b (Int.tmod (p * 7 + 3) (b.length : Int)) = x2 at m2
        generalize hq : p / (b.length : Int) = q at d0 d1 d2
        have hX : 0 ≤ Go.bits .xor .i64 (x1 * 131 + x2 * 1117 + p * 29 + q * 53) ((x1 * 131 + x2 * 1117 + p * 29 + q * 53) / 64) := xor_nn (by omega) (by omega) (by omega) (by omega)
        generalize hR : Go.bits .xor .i64 (x1 * 131 + x2 * 1117 + p * 29 + q * 53) ((x1 * 131 + x2 * 1117 + p * 29 + q * 53) / 64) = X at hX
        refine ⟨Int.tmod X n, Ev.ifn c (Ev.step (f := fun _ => some (Int.tmod X n, p + 1)) (fun k => ?_) (Ev.now _)), Int.tmod_nonneg _ hX, fun h => Int.tmod_lt_of_pos _ (by omega), fun h => absurd h c⟩
        rw [spec_l20Rd_pick.j0]
        rw [c0', if_neg (by decide), hw, hw2, if_neg c1, if_neg (by omega), k7, k73, if_pos e1, if_pos e2, if_pos e3, if_pos e4, if_neg (by omega), hx1, hx2, d0]
        rw [w64 (x := x1) (by omega) (by omega), w64 (x := x2) (by omega) (by omega), w64 (x := q) (by omega) (by omega), w64 (x := x1 * 131) (by omega) (by omega), w64 (x := x2 * 1117) (by omega) (by omega), w64 (x := p * 29) (by omega) (by omega), w64 (x := q * 53) (by omega) (by omega)]
        rw [w64 (x := x1 * 131 + x2 * 1117) (by omega) (by omega), w64 (x := x1 * 131 + x2 * 1117 + p * 29) (by omega) (by omega), w64 (x := x1 * 131 + x2 * 1117 + p * 29 + q * 53) (by omega) (by omega)]
        rw [Int.tdiv_eq_ediv_of_nonneg (by omega), w64 (by omega) (by omega), hR]
theorem odd_any {b : List Int} (hb : Byts b) {p : Int} (hp : 0 ≤ p) (hp1 : p ≤ 1000000) (n : Int) (hn1 : n ≤ 9223372036854775807) :
    ∃ r q, Ev (fun k => spec_l20Rd_odd.f k b p n) (r, q) ∧ p ≤ q ∧ q ≤ p + 1 := by
  unfold spec_l20Rd_odd.f
  by_cases c : n > 0
  · obtain ⟨r, e, _⟩ := pick_any hb hp hp1 n hn1
    exact ⟨_, _, Ev.ifp c (Ev.bind e (Ev.now _)), by omega, by omega⟩
  · exact ⟨_, _, Ev.ifn c (Ev.now _), by omega, by omega⟩
/-! Forms of grids, plainly. -/
/-- The grid read at these places. -/
def pickL (p : List Nat) (g : List Int) : List Int := p.map fun j => g.getD j 0
def turnP (s : Nat) : List Nat := (List.range (s * s)).map fun k => (s - 1 - k % s) * s + k / s
def mirrorP (s : Nat) : List Nat := (List.range (s * s)).map fun k => k / s * s + (s - 1 - k % s)
/-- Places: first p, then q's own. -/
def compP (p q : List Nat) : List Nat := p.map fun j => q.getD j 0
/-- The eight forms' places. -/
def formP (s : Nat) : List (List Nat) :=
  let t := turnP s
  let e := List.range (s * s)
  let m := mirrorP s
  [e, t, compP t t, compP t (compP t t), m, compP t m, compP t (compP t m), compP t (compP t (compP t m))]
theorem pickL_comp (p q : List Nat) (g : List Int) (h : ∀ j ∈ p, j < q.length) : pickL p (pickL q g) = pickL (compP p q) g := by
  unfold pickL compP
  rw [List.map_map]
  apply List.map_congr_left
  intro j hj
  have := h j hj
  simp [List.getD_eq_getElem?_getD, this]
theorem pickL_range (g : List Int) : pickL (List.range g.length) g = g := by
  unfold pickL
  apply List.ext_getElem (by simp)
  intro i h1 h2
  simp [List.getD_eq_getElem?_getD, h2]
theorem pickL_length (p : List Nat) (g : List Int) : (pickL p g).length = p.length := by simp [pickL]
theorem pickL_map (p : List Nat) (g : List Int) (f : Int → Int) (h : ∀ j ∈ p, j < g.length) : pickL p (g.map f) = (pickL p g).map f := by
  unfold pickL
  rw [List.map_map]
  apply List.map_congr_left
  intro j hj
  have := h j hj
  simp [List.getD_eq_getElem?_getD, this]
theorem pickL_mem (p : List Nat) (g : List Int) (h : ∀ j ∈ p, j < g.length) : ∀ v ∈ pickL p g, v ∈ g := by
  intro v hv
  obtain ⟨j, hj, rfl⟩ := List.mem_map.1 hv
  have := h j hj
  simp [List.getD_eq_getElem?_getD, this]
/-! renaming -/
def firstsG (d : List Int) : List Int → List Int
  | [] => d
  | v :: g => firstsG (if v > 0 ∧ v ∉ d then d ++ [v] else d) g
def nmG (d : List Int) (v : Int) : Int := if v > 0 then (d.idxOf v : Int) + 1 else 0
def renG (g : List Int) : List Int := g.map (nmG (firstsG [] g))
theorem firstsG_mono (g : List Int) : ∀ d v, v ∈ d → v ∈ firstsG d g := by
  induction g with
  | nil => intro d v h; exact h
  | cons x g ih =>
    intro d v h
    refine ih _ v ?_
    split <;> simp [h]
theorem firstsG_all (g : List Int) : ∀ d v, v ∈ g → v > 0 → v ∈ firstsG d g := by
  induction g with
  | nil => intro d v h; cases h
  | cons x g ih =>
    intro d v h hv
    rcases List.mem_cons.1 h with rfl | h
    · refine firstsG_mono g _ v ?_
      by_cases c : v ∈ d
      · simp [c]
      · simp [c, hv]
    · exact ih _ v h hv
theorem firstsG_pos (g : List Int) : ∀ d, (∀ v ∈ d, v > 0) → ∀ v ∈ firstsG d g, v > 0 := by
  induction g with
  | nil => intro d h; exact h
  | cons x g ih =>
    intro d h
    refine ih _ ?_
    split
    · rename_i c
      intro v hv
      rcases List.mem_append.1 hv with hv | hv
      · exact h v hv
      · simp at hv; omega
    · exact h
theorem firstsG_sub (g : List Int) : ∀ d v, v ∈ firstsG d g → v ∈ d ∨ (v ∈ g ∧ v > 0) := by
  induction g with
  | nil => intro d v h; exact Or.inl h
  | cons x g ih =>
    intro d v h
    rcases ih _ v h with h | ⟨h, h2⟩
    · split at h
      · rename_i c
        rcases List.mem_append.1 h with h | h
        · exact Or.inl h
        · simp at h; subst h; exact Or.inr ⟨by simp, c.1⟩
      · exact Or.inl h
    · exact Or.inr ⟨by simp [h], h2⟩
/-- A change of names. -/
structure Names (f : Int → Int) (g : List Int) : Prop where
  pos : ∀ v ∈ g, (f v > 0 ↔ v > 0)
  inj : ∀ v ∈ g, ∀ u ∈ g, v > 0 → u > 0 → f v = f u → v = u
theorem Names.sub {f : Int → Int} {g g' : List Int} (h : Names f g) (hs : ∀ v ∈ g', v ∈ g) : Names f g' :=
  ⟨fun v hv => h.pos v (hs v hv), fun v hv u hu => h.inj v (hs v hv) u (hs u hu)⟩
theorem firstsG_map (f : Int → Int) (g : List Int) : ∀ (d G : List Int), Names f G → (∀ v ∈ d, v ∈ G ∧ v > 0) → (∀ v ∈ g, v ∈ G) → firstsG (d.map f) (g.map f) = (firstsG d g).map f := by
  induction g with
  | nil => intro d G hN hd hg; rfl
  | cons x g ih =>
    intro d G hN hd hg
    have hx : x ∈ G := hg x (by simp)
    have hg' : ∀ v ∈ g, v ∈ G := fun v hv => hg v (by simp [hv])
    show firstsG (if f x > 0 ∧ f x ∉ d.map f then d.map f ++ [f x] else d.map f) (g.map f) = (firstsG (if x > 0 ∧ x ∉ d then d ++ [x] else d) g).map f
    by_cases c : x > 0 ∧ x ∉ d
    · have hfx : f x ∉ d.map f := by
        intro hm
        obtain ⟨y, hy, e⟩ := List.mem_map.1 hm
        have := hN.inj y (hd y hy).1 x hx (hd y hy).2 c.1 e
        exact c.2 (this ▸ hy)
      rw [if_pos ⟨(hN.pos x hx).2 c.1, hfx⟩, if_pos c]
      have := ih (d ++ [x]) G hN (by
        intro v hv
        rcases List.mem_append.1 hv with hv | hv
        · exact hd v hv
        · simp at hv; subst hv; exact ⟨hx, c.1⟩) hg'
      rw [List.map_append] at this
      exact this
    · have hc' : ¬ (f x > 0 ∧ f x ∉ d.map f) := by
        rintro ⟨h1, h2⟩
        apply c
        refine ⟨(hN.pos x hx).1 h1, fun hm => h2 (List.mem_map_of_mem hm)⟩
      rw [if_neg hc', if_neg c]
      exact ih d G hN hd hg'
theorem idxOf_map (f : Int → Int) (v : Int) : ∀ (d : List Int), (∀ u ∈ d, f u = f v → u = v) → (d.map f).idxOf (f v) = d.idxOf v := by
  intro d
  induction d with
  | nil => intro _; rfl
  | cons x d ih =>
    intro h
    simp only [List.map_cons, List.idxOf_cons]
    by_cases c : x = v
    · subst c; simp
    · have : f x ≠ f v := fun e => c (h x (by simp) e)
      simp only [beq_eq_false_iff_ne.2 c, beq_eq_false_iff_ne.2 this, cond_false]
      rw [ih (fun u hu => h u (by simp [hu]))]
theorem renG_map (f : Int → Int) (g : List Int) (h : Names f g) : renG (g.map f) = renG g := by
  unfold renG
  have e : firstsG [] (g.map f) = (firstsG [] g).map f := by
    have := firstsG_map f g [] g h (by simp) (fun v hv => hv)
    simpa using this
  rw [e, List.map_map]
  apply List.map_congr_left
  intro v hv
  show nmG _ (f v) = nmG _ v
  unfold nmG
  by_cases c : v > 0
  · rw [if_pos ((h.pos v hv).2 c), if_pos c, idxOf_map]
    intro u hu e
    rcases firstsG_sub g [] u hu with hu | ⟨hu, hu2⟩
    · cases hu
    · exact h.inj u hu v hv hu2 c e
  · rw [if_neg c, if_neg (fun h' => c ((h.pos v hv).1 h'))]
theorem nmG_names (g : List Int) : Names (nmG (firstsG [] g)) g := by
  constructor
  · intro v hv
    unfold nmG
    by_cases c : v > 0
    · rw [if_pos c]; simp only [c, iff_true]; omega
    · rw [if_neg c]; omega
  · intro v hv u hu h1 h2 e
    unfold nmG at e
    rw [if_pos h1, if_pos h2] at e
    have a1 := List.idxOf_lt_length_of_mem (firstsG_all g [] v hv h1)
    have a2 := List.idxOf_lt_length_of_mem (firstsG_all g [] u hu h2)
    have e1 : (firstsG [] g).idxOf v = (firstsG [] g).idxOf u := by omega
    have b1 := List.getElem_idxOf a1
    have b2 := List.getElem_idxOf a2
    rw [← b1, ← b2]
    congr 1
theorem renG_ren (g : List Int) : renG (renG g) = renG g := renG_map _ g (nmG_names g)
theorem renG_pick (p : List Nat) (g : List Int) (h : ∀ j ∈ p, j < g.length) : renG (pickL p (renG g)) = renG (pickL p g) := by
  rw [show renG g = g.map (nmG (firstsG [] g)) from rfl, pickL_map p g _ h]
  exact renG_map _ _ ((nmG_names g).sub (pickL_mem p g h))
/-! The eight forms as a group. -/
def mulF : List (List Nat) := [[0,1,2,3,4,5,6,7],[1,2,3,0,5,6,7,4],[2,3,0,1,6,7,4,5],[3,0,1,2,7,4,5,6],[4,7,6,5,0,3,2,1],[5,4,7,6,1,0,3,2],[6,5,4,7,2,1,0,3],[7,6,5,4,3,2,1,0]]
/-- form i of form j -/
def mulFn (i j : Nat) : Nat := (mulF.getD i []).getD j 0
def formAt (s i : Nat) : List Nat := (formP s).getD i []
theorem formP_table (s : Nat) (h : s = 2 ∨ s = 3 ∨ s = 4) : (∀ i, i < 8 → (formAt s i).length = s * s ∧ ∀ j ∈ formAt s i, j < s * s) ∧ ∀ i, i < 8 → ∀ j, j < 8 → compP (formAt s i) (formAt s j) = formAt s (mulFn i j) := by
  rcases h with rfl | rfl | rfl <;> decide +kernel
theorem formP_zero (s : Nat) : formAt s 0 = List.range (s * s) := rfl
def formsG (s : Nat) (g : List Int) : List (List Int) := (formP s).map fun p => pickL p g
def rensG (s : Nat) (g : List Int) : List (List Int) := (formsG s g).map renG
theorem rensG_mem (s : Nat) (g x : List Int) : x ∈ rensG s g ↔ ∃ i, i < 8 ∧ x = renG (pickL (formAt s i) g) := by
  unfold rensG formsG
  constructor
  · intro h
    obtain ⟨y, hy, rfl⟩ := List.mem_map.1 h
    obtain ⟨p, hp, rfl⟩ := List.mem_map.1 hy
    obtain ⟨i, hi, rfl⟩ := List.mem_iff_getElem.1 hp
    refine ⟨i, by simpa [formP] using hi, ?_⟩
    simp [formAt, List.getD_eq_getElem?_getD, hi]
  · rintro ⟨i, hi, rfl⟩
    have hl : i < (formP s).length := by simpa [formP] using hi
    refine List.mem_map.2 ⟨_, List.mem_map.2 ⟨formAt s i, ?_, rfl⟩, rfl⟩
    simp [formAt, List.getD_eq_getElem?_getD, hl]
theorem mulFn_lt : ∀ i, i < 8 → ∀ j, j < 8 → mulFn i j < 8 := by decide +kernel
theorem mulFn_onto : ∀ i, i < 8 → ∀ j, j < 8 → ∃ k, k < 8 ∧ mulFn k j = i := by decide +kernel
/-- A turned or mirrored grid has the same renamed forms. -/
theorem rensG_form (s : Nat) (hs : s = 2 ∨ s = 3 ∨ s = 4) (g : List Int) (hg : g.length = s * s) (j : Nat) (hj : j < 8) (x : List Int) : x ∈ rensG s (pickL (formAt s j) g) ↔ x ∈ rensG s g := by
  obtain ⟨h1, h2⟩ := formP_table s hs
  have e : ∀ i, i < 8 → pickL (formAt s i) (pickL (formAt s j) g) = pickL (formAt s (mulFn i j)) g := fun i hi => by
    rw [pickL_comp _ _ _ (by intro k hk; rw [(h1 j hj).1]; exact (h1 i hi).2 k hk), h2 i hi j hj]
  rw [rensG_mem, rensG_mem]
  constructor
  · rintro ⟨i, hi, rfl⟩
    exact ⟨mulFn i j, mulFn_lt i hi j hj, by rw [e i hi]⟩
  · rintro ⟨i, hi, rfl⟩
    obtain ⟨k, hk, e2⟩ := mulFn_onto i hi j hj
    exact ⟨k, hk, by rw [e k hk, e2]⟩
/-- A renamed grid has the very same renamed forms. -/
theorem rensG_map (s : Nat) (hs : s = 2 ∨ s = 3 ∨ s = 4) (g : List Int) (hg : g.length = s * s) (f : Int → Int) (hf : Names f g) : rensG s (g.map f) = rensG s g := by
  obtain ⟨h1, h2⟩ := formP_table s hs
  unfold rensG formsG
  rw [List.map_map, List.map_map]
  apply List.map_congr_left
  intro p hp
  obtain ⟨i, hi, e0⟩ := List.mem_iff_getElem.1 hp
  have hi8 : i < 8 := by simpa [formP] using hi
  have e : p = formAt s i := by rw [← e0, formAt, List.getD_eq_getElem?_getD, List.getElem?_eq_getElem hi]; rfl
  have hb : ∀ j ∈ p, j < g.length := by rw [e, hg]; exact (h1 i hi8).2
  show renG (pickL p (g.map f)) = renG (pickL p g)
  rw [pickL_map _ _ _ hb]
  exact renG_map f _ (hf.sub (pickL_mem _ _ hb))
theorem rensG_ren (s : Nat) (hs : s = 2 ∨ s = 3 ∨ s = 4) (g : List Int) (hg : g.length = s * s) : rensG s (renG g) = rensG s g := rensG_map s hs g hg _ (nmG_names g)
theorem rensG_length (s : Nat) (g : List Int) : (rensG s g).length = 8 := by simp [rensG, formsG, formP]
/-- The renamed forms of one of them. -/
theorem rensG_self (s : Nat) (hs : s = 2 ∨ s = 3 ∨ s = 4) (g x : List Int) (hg : g.length = s * s) (hx : x ∈ rensG s g) (y : List Int) : y ∈ rensG s x ↔ y ∈ rensG s g := by
  obtain ⟨i, hi, rfl⟩ := (rensG_mem s g x).1 hx
  obtain ⟨h1, h2⟩ := formP_table s hs
  rw [rensG_ren s hs _ (by rw [pickL_length]; exact (h1 i hi).1)]
  exact rensG_form s hs g hg i hi y
/-! the least one -/
/-- a comes before b: the first that differs decides. -/
def befG : List Int → List Int → Bool
  | a :: ar, b :: br => if a = b then befG ar br else decide (a < b)
  | _, _ => false
theorem befG_irrefl (a : List Int) : befG a a = false := by
  induction a with
  | nil => rfl
  | cons x a ih => simp [befG, ih]
theorem befG_trans : ∀ (a b c : List Int), befG a b = true → befG b c = true → befG a c = true
  | [], _, _, h, _ => by simp [befG] at h
  | _ :: _, [], _, h, _ => by simp [befG] at h
  | _ :: _, _ :: _, [], _, h => by simp [befG] at h
  | x :: a, y :: b, z :: c, h1, h2 => by
    simp only [befG] at h1 h2 ⊢
    by_cases c1 : x = y
    · subst c1
      rw [if_pos rfl] at h1
      by_cases c2 : x = z
      · subst c2; rw [if_pos rfl] at h2 ⊢; exact befG_trans a b c h1 h2
      · rw [if_neg c2] at h2 ⊢; exact h2
    · rw [if_neg c1] at h1
      have h1 := of_decide_eq_true h1
      by_cases c2 : y = z
      · subst c2; rw [if_neg c1]; exact decide_eq_true h1
      · rw [if_neg c2] at h2
        have h2 := of_decide_eq_true h2
        rw [if_neg (by omega)]; exact decide_eq_true (by omega)
theorem befG_total : ∀ (a b : List Int), a.length = b.length → befG a b = false → befG b a = false → a = b
  | [], [], _, _, _ => rfl
  | [], _ :: _, h, _, _ => by simp at h
  | _ :: _, [], h, _, _ => by simp at h
  | x :: a, y :: b, h, h1, h2 => by
    simp only [befG] at h1 h2
    by_cases c : x = y
    · subst c
      rw [if_pos rfl] at h1 h2
      rw [befG_total a b (by simpa using h) h1 h2]
    · rw [if_neg c] at h1
      rw [if_neg (fun e => c e.symm)] at h2
      have h1 := of_decide_eq_false h1
      have h2 := of_decide_eq_false h2
      omega
/-- The least one of a list, and what was found before. -/
def leastG (best : List Int) : List (List Int) → List Int
  | [] => best
  | x :: xs => leastG (if befG x best then x else best) xs
theorem leastG_mem : ∀ (xs : List (List Int)) (best : List Int), leastG best xs ∈ best :: xs
  | [], best => by simp [leastG]
  | x :: xs, best => by
    have h := leastG_mem xs (if befG x best then x else best)
    show leastG _ xs ∈ _
    rcases List.mem_cons.1 h with h | h
    · rw [h]; split <;> simp
    · exact List.mem_cons_of_mem _ (List.mem_cons_of_mem _ h)
theorem leastG_least (n : Nat) : ∀ (xs : List (List Int)) (best : List Int), best.length = n → (∀ x ∈ xs, x.length = n) → ∀ y ∈ best :: xs, befG y (leastG best xs) = false
  | [], best, _, _, y, hy => by
    simp at hy; subst hy; exact befG_irrefl _
  | x :: xs, best, hb, hx, y, hy => by
    have hxl := hx x (by simp)
    have hl : (if befG x best then x else best).length = n := by split <;> assumption
    have ih := leastG_least n xs (if befG x best then x else best) hl (fun z hz => hx z (by simp [hz]))
    have h0 := ih _ (List.mem_cons_self ..)
    have hll : (leastG (if befG x best then x else best) xs).length = n := by
      rcases List.mem_cons.1 (leastG_mem xs (if befG x best then x else best)) with e | e
      · rw [e]; exact hl
      · exact hx _ (by simp [e])
    show befG y (leastG (if befG x best then x else best) xs) = false
    have key : ∀ z, z.length = n → befG z (if befG x best then x else best) = false → befG z (leastG (if befG x best then x else best) xs) = false := by
      intro z hz h1
      cases h2 : befG z (leastG (if befG x best then x else best) xs) with
      | false => rfl
      | true =>
        cases h3 : befG (if befG x best then x else best) z with
        | true => rw [befG_trans _ _ _ h3 h2] at h0; cases h0
        | false =>
          have := befG_total _ _ (hz.trans hl.symm) h1 h3
          rw [this] at h2; rw [h2] at h0; cases h0
    rcases List.mem_cons.1 hy with rfl | hy
    · refine key _ hb ?_
      by_cases c : befG x y = true
      · rw [if_pos c]
        cases h4 : befG y x with
        | false => rfl
        | true => have := befG_trans _ _ _ c h4; rw [befG_irrefl] at this; cases this
      · rw [if_neg c]; exact befG_irrefl _
    · rcases List.mem_cons.1 hy with rfl | hy
      · refine key _ hxl ?_
        by_cases c : befG y best = true
        · rw [if_pos c]; exact befG_irrefl _
        · rw [if_neg c]; simpa using c
      · exact ih y (List.mem_cons_of_mem _ hy)
def minG (xs : List (List Int)) : List Int := match xs with
  | [] => []
  | x :: xs => leastG x xs
theorem minG_mem (xs : List (List Int)) (h : xs ≠ []) : minG xs ∈ xs := by
  cases xs with
  | nil => exact absurd rfl h
  | cons x xs => exact leastG_mem xs x
theorem minG_same (n : Nat) (xs ys : List (List Int)) (hx : ∀ x ∈ xs, x.length = n) (h : ∀ x, x ∈ xs ↔ x ∈ ys) : minG xs = minG ys := by
  cases xs with
  | nil =>
    cases ys with
    | nil => rfl
    | cons y ys => exact absurd ((h y).2 (by simp)) (by simp)
  | cons x xs =>
    cases ys with
    | nil => exact absurd ((h x).1 (by simp)) (by simp)
    | cons y ys =>
      have hy : ∀ z ∈ y :: ys, z.length = n := fun z hz => hx z ((h z).2 hz)
      have m1 := leastG_mem xs x
      have m2 := leastG_mem ys y
      have l1 := leastG_least n xs x (hx x (by simp)) (fun z hz => hx z (by simp [hz])) _ ((h _).2 m2)
      have l2 := leastG_least n ys y (hy y (by simp)) (fun z hz => hy z (by simp [hz])) _ ((h _).1 m1)
      exact befG_total _ _ ((hx _ m1).trans (hy _ m2).symm) l2 l1
theorem rensG_len (s : Nat) (hs : s = 2 ∨ s = 3 ∨ s = 4) (g : List Int) (x : List Int) (hx : x ∈ rensG s g) : x.length = s * s := by
  obtain ⟨i, hi, rfl⟩ := (rensG_mem s g x).1 hx
  simp only [renG, List.length_map, pickL_length]
  exact ((formP_table s hs).1 i hi).1
def canG (s : Nat) (g : List Int) : List Int := minG (rensG s g)
theorem canG_mem (s : Nat) (g : List Int) : canG s g ∈ rensG s g := minG_mem _ (by
  intro h; have := rensG_length s g; rw [h] at this; cases this)
theorem canG_same (s : Nat) (hs : s = 2 ∨ s = 3 ∨ s = 4) (g g' : List Int) (h : ∀ x, x ∈ rensG s g ↔ x ∈ rensG s g') : canG s g = canG s g' :=
  minG_same (s * s) _ _ (rensG_len s hs g) h
/-! how many different ones -/
/-- What is found, one behind the other. -/
def findG (found : List (List Int)) : List (List Int) → List (List Int)
  | [] => found
  | x :: xs => findG (if x ∈ found then found else found ++ [x]) xs
theorem findG_mem : ∀ (xs found : List (List Int)) (x : List Int), x ∈ findG found xs ↔ x ∈ found ∨ x ∈ xs
  | [], found, x => by simp [findG]
  | y :: xs, found, x => by
    show x ∈ findG _ xs ↔ _
    rw [findG_mem xs]
    split
    · rename_i c
      constructor
      · rintro (h | h)
        · exact Or.inl h
        · exact Or.inr (by simp [h])
      · rintro (h | h)
        · exact Or.inl h
        · rcases List.mem_cons.1 h with rfl | h
          · exact Or.inl c
          · exact Or.inr h
    · simp [or_assoc]
theorem findG_nodup : ∀ (xs found : List (List Int)), found.Nodup → (findG found xs).Nodup
  | [], found, h => h
  | y :: xs, found, h => by
    refine findG_nodup xs _ ?_
    split
    · exact h
    · rename_i c
      rw [List.nodup_append]
      exact ⟨h, by simp, by intro a ha b hb; simp at hb; subst hb; rintro rfl; exact c ha⟩
theorem nodup_le {α : Type} [DecidableEq α] : ∀ (l m : List α), l.Nodup → (∀ x ∈ l, x ∈ m) → l.length ≤ m.length
  | [], m, _, _ => Nat.zero_le _
  | x :: l, m, h, hs => by
    have hx := hs x (by simp)
    have hn := List.nodup_cons.1 h
    have := nodup_le l (m.erase x) hn.2 (fun y hy => (List.mem_erase_of_ne (by rintro rfl; exact hn.1 hy)).2 (hs y (by simp [hy])))
    rw [List.length_erase_of_mem hx] at this
    have := List.length_pos_of_mem hx
    simp only [List.length_cons]; omega
theorem findG_same (xs ys : List (List Int)) (h : ∀ x, x ∈ xs ↔ x ∈ ys) : (findG [] xs).length = (findG [] ys).length := by
  apply Nat.le_antisymm
  · exact nodup_le _ _ (findG_nodup xs [] (by simp)) (fun x hx => by rw [findG_mem] at hx ⊢; simpa [h] using hx)
  · exact nodup_le _ _ (findG_nodup ys [] (by simp)) (fun x hx => by rw [findG_mem] at hx ⊢; simpa [h] using hx)
def countG (s : Nat) (g : List Int) : Nat := (findG [] (rensG s g)).length
/-! There are 1, 2, 4 or 8 different ones. -/
def invF : List Nat := [0, 3, 2, 1, 4, 5, 6, 7]
def cntI (e : Nat → Nat → Bool) : List Nat → List Nat → Nat
  | _, [] => 0
  | seen, i :: is => (if seen.any (e i) = true then 0 else 1) + cntI e (i :: seen) is
theorem cntI_congr {e e' : Nat → Nat → Bool} : ∀ (is seen : List Nat), (∀ i ∈ is ++ seen, ∀ j ∈ is ++ seen, e i j = e' i j) → cntI e seen is = cntI e' seen is
  | [], seen, _ => rfl
  | i :: is, seen, h => by
    have h1 : seen.any (e i) = seen.any (e' i) := by
      rw [Bool.eq_iff_iff]; simp only [List.any_eq_true]
      constructor
      · rintro ⟨x, hx, h2⟩; exact ⟨x, hx, by rw [← h i (by simp) x (by simp [hx])]; exact h2⟩
      · rintro ⟨x, hx, h2⟩; exact ⟨x, hx, by rw [h i (by simp) x (by simp [hx])]; exact h2⟩
    have h2 := cntI_congr is (i :: seen) (fun a ha b hb => h a (by simp only [List.mem_append, List.mem_cons] at ha ⊢; rcases ha with h | h | h <;> simp [h]) b (by simp only [List.mem_append, List.mem_cons] at hb ⊢; rcases hb with h | h | h <;> simp [h]))
    simp only [cntI, h1, h2]
theorem findG_cnt (R : Nat → List Int) : ∀ (is seen : List Nat) (found : List (List Int)), (∀ x, x ∈ found ↔ ∃ j ∈ seen, x = R j) → (findG found (is.map R)).length = found.length + cntI (fun i j => decide (R i = R j)) seen is
  | [], seen, found, _ => by simp [findG, cntI]
  | i :: is, seen, found, h => by
    show (findG (if R i ∈ found then found else found ++ [R i]) (is.map R)).length = _
    have hc : R i ∈ found ↔ seen.any (fun j => decide (R i = R j)) = true := by
      rw [h]; simp [List.any_eq_true]
    by_cases c : R i ∈ found
    · rw [if_pos c, findG_cnt R is (i :: seen) found (by
        intro x; constructor
        · intro hx; obtain ⟨j, hj, e⟩ := (h x).1 hx; exact ⟨j, by simp [hj], e⟩
        · rintro ⟨j, hj, e⟩
          rcases List.mem_cons.1 hj with rfl | hj
          · rw [e]; exact c
          · exact (h x).2 ⟨j, hj, e⟩)]
      simp only [cntI, if_pos (hc.1 c)]; omega
    · rw [if_neg c, findG_cnt R is (i :: seen) (found ++ [R i]) (by
        intro x; rw [List.mem_append, List.mem_singleton, h x]
        constructor
        · rintro (⟨j, hj, e⟩ | e)
          · exact ⟨j, List.mem_cons_of_mem _ hj, e⟩
          · exact ⟨i, List.mem_cons_self .., e⟩
        · rintro ⟨j, hj, e⟩
          rcases List.mem_cons.1 hj with rfl | hj
          · exact Or.inr e
          · exact Or.inl ⟨j, hj, e⟩)]
      simp only [cntI, if_neg (fun h' => c (hc.2 h')), List.length_append, List.length_singleton]; omega
def closedF (b : Nat → Bool) : Bool := (List.range 8).all fun a => (List.range 8).all fun c => !(b a && b c) || b (mulFn a c)
theorem cnt_closed : ∀ b1 b2 b3 b4 b5 b6 b7 : Bool, closedF (fun m => [true, b1, b2, b3, b4, b5, b6, b7].getD m false) = true →
    [1, 2, 4, 8].contains (cntI (fun i j => [true, b1, b2, b3, b4, b5, b6, b7].getD (mulFn (invF.getD j 0) i) false) [] (List.range 8)) = true := by decide +kernel
theorem inv_mul : ∀ j, j < 8 → mulFn (invF.getD j 0) j = 0 ∧ mulFn j (invF.getD j 0) = 0 ∧ invF.getD j 0 < 8 ∧ mulFn j 0 = j ∧ mulFn 0 j = j ∧ ∀ i, i < 8 → mulFn j (mulFn (invF.getD j 0) i) = i := by decide +kernel
theorem countG_pow (s : Nat) (hs : s = 2 ∨ s = 3 ∨ s = 4) (g : List Int) (hg : g.length = s * s) : countG s g = 1 ∨ countG s g = 2 ∨ countG s g = 4 ∨ countG s g = 8 := by
  obtain ⟨h1, h2⟩ := formP_table s hs
  have hR : rensG s g = (List.range 8).map (fun i => renG (pickL (formAt s i) g)) := by
    simp [rensG, formsG, formP, formAt, List.range_succ]
  have step : ∀ k, k < 8 → ∀ i, i < 8 → renG (pickL (formAt s (mulFn k i)) g) = renG (pickL (formAt s k) (renG (pickL (formAt s i) g))) := by
    intro k hk i hi
    rw [renG_pick _ _ (by rw [pickL_length, (h1 i hi).1]; exact (h1 k hk).2), pickL_comp _ _ _ (by rw [(h1 i hi).1]; exact (h1 k hk).2), h2 k hk i hi]
  generalize hRR : (fun i => renG (pickL (formAt s i) g)) = R at hR
  have st : ∀ k, k < 8 → ∀ i, i < 8 → ∀ j, j < 8 → R i = R j → R (mulFn k i) = R (mulFn k j) := by
    intro k hk i hi j hj e
    subst hRR
    show renG _ = renG _
    rw [step k hk i hi, step k hk j hj]
    exact congrArg (fun x => renG (pickL (formAt s k) x)) e
  have hc : countG s g = cntI (fun i j => decide (R i = R j)) [] (List.range 8) := by
    unfold countG
    rw [hR, findG_cnt R (List.range 8) [] [] (by simp)]
    simp
  let b : Nat → Bool := fun m => [true, decide (R 1 = R 0), decide (R 2 = R 0), decide (R 3 = R 0), decide (R 4 = R 0), decide (R 5 = R 0), decide (R 6 = R 0), decide (R 7 = R 0)].getD m false
  have hb : ∀ m, m < 8 → b m = decide (R m = R 0) := by
    intro m hm
    match m, hm with
    | 0, _ => simp [b]
    | 1, _ => rfl
    | 2, _ => rfl
    | 3, _ => rfl
    | 4, _ => rfl
    | 5, _ => rfl
    | 6, _ => rfl
    | 7, _ => rfl
    | n + 8, h => omega
  have hcl : closedF b = true := by
    unfold closedF
    simp only [List.all_eq_true, List.mem_range, Bool.or_eq_true, Bool.not_eq_true']
    intro x hx y hy
    rw [hb x hx, hb y hy, hb _ (mulFn_lt x hx y hy)]
    by_cases c : R x = R 0 ∧ R y = R 0
    · right
      have := st x hx y hy 0 (by omega) c.2
      rw [(inv_mul x hx).2.2.2.1] at this
      exact decide_eq_true (this.trans c.1)
    · left; simp only [Bool.and_eq_false_iff, decide_eq_false_iff_not]
      by_cases c1 : R x = R 0
      · right; exact fun c2 => c ⟨c1, c2⟩
      · left; exact c1
  have h := cnt_closed _ _ _ _ _ _ _ hcl
  have he : cntI (fun i j => decide (R i = R j)) [] (List.range 8) = cntI (fun i j => b (mulFn (invF.getD j 0) i)) [] (List.range 8) := by
    apply cntI_congr
    intro i hi j hj
    simp only [List.append_nil, List.mem_range] at hi hj
    obtain ⟨i1, i2, i3, i4, i5, i6⟩ := inv_mul j hj
    rw [hb _ (mulFn_lt _ i3 i hi)]
    apply decide_eq_decide.2
    constructor
    · intro e
      have := st _ i3 i hi j hj e
      rw [i1] at this; exact this
    · intro e
      have := st j hj _ (mulFn_lt _ i3 i hi) 0 (by omega) e
      rw [i6 i hi, i4] at this; exact this
  rw [hc, he]
  generalize cntI (fun i j => b (mulFn (invF.getD j 0) i)) [] (List.range 8) = n at h
  simp at h
  exact h
/-! Fitting grids stay so. -/
def lineP (s : Nat) : List (List Nat) := ((List.range s).map fun l => (List.range s).map fun i => l * s + i) ++ ((List.range s).map fun l => (List.range s).map fun i => i * s + l)
def posG (l : List Int) : List Int := l.filter (fun v => decide (v > 0))
def fitsG (s : Nat) (g : List Int) : Bool := (lineP s).all fun L => decide ((posG (pickL L g)).Nodup)
theorem lineP_lt (s : Nat) (hs : s = 2 ∨ s = 3 ∨ s = 4) : ∀ L ∈ lineP s, ∀ j ∈ L, j < s * s := by
  rcases hs with rfl | rfl | rfl <;> decide +kernel
theorem lineP_form (s : Nat) (hs : s = 2 ∨ s = 3 ∨ s = 4) : ∀ i, i < 8 → ∀ L ∈ lineP s, ∃ L' ∈ lineP s, (compP L (formAt s i)).isPerm L' = true := by
  rcases hs with rfl | rfl | rfl <;> decide +kernel
theorem fits_form1 (s : Nat) (hs : s = 2 ∨ s = 3 ∨ s = 4) (g : List Int) (i : Nat) (hi : i < 8) (h : fitsG s g = true) : fitsG s (pickL (formAt s i) g) = true := by
  obtain ⟨h1, h2⟩ := formP_table s hs
  unfold fitsG at h ⊢
  simp only [List.all_eq_true, decide_eq_true_eq] at h ⊢
  intro L hL
  obtain ⟨L', hL', hp⟩ := lineP_form s hs i hi L hL
  rw [pickL_comp _ _ _ (by rw [(h1 i hi).1]; exact lineP_lt s hs L hL)]
  have hp := List.isPerm_iff.1 hp
  have h3 := h L' hL'
  have : (posG (pickL (compP L (formAt s i)) g)).Perm (posG (pickL L' g)) := (hp.map _).filter _
  exact this.nodup_iff.2 h3
theorem fits_form (s : Nat) (hs : s = 2 ∨ s = 3 ∨ s = 4) (g : List Int) (hg : g.length = s * s) (i : Nat) (hi : i < 8) : fitsG s (pickL (formAt s i) g) = fitsG s g := by
  obtain ⟨h1, h2⟩ := formP_table s hs
  obtain ⟨i1, i2, i3, i4, i5, i6⟩ := inv_mul i hi
  rw [Bool.eq_iff_iff]
  refine ⟨fun h => ?_, fits_form1 s hs g i hi⟩
  have h3 := fits_form1 s hs _ _ i3 h
  rw [pickL_comp _ _ _ (by rw [(h1 i hi).1]; exact (h1 _ i3).2), h2 _ i3 i hi, i1, formP_zero, ← hg, pickL_range] at h3
  exact h3
theorem posG_map (f : Int → Int) (l : List Int) (h : ∀ v ∈ l, (f v > 0 ↔ v > 0)) : posG (l.map f) = (posG l).map f := by
  induction l with
  | nil => rfl
  | cons x l ih =>
    have ih := ih (fun v hv => h v (by simp [hv]))
    have hx := h x (by simp)
    unfold posG at ih ⊢
    simp only [List.map_cons, List.filter_cons]
    by_cases c : x > 0
    · simp only [c, hx.2 c, decide_true, if_true, List.map_cons]; rw [ih]
    · simp only [c, mt hx.1 c, decide_false]; simpa using ih
theorem nodup_map_iff (f : Int → Int) : ∀ (l : List Int), (∀ v ∈ l, ∀ u ∈ l, f v = f u → v = u) → ((l.map f).Nodup ↔ l.Nodup)
  | [], _ => by simp
  | x :: l, h => by
    simp only [List.map_cons, List.nodup_cons]
    rw [nodup_map_iff f l (fun v hv u hu => h v (by simp [hv]) u (by simp [hu]))]
    have : f x ∈ l.map f ↔ x ∈ l := by
      constructor
      · intro hm
        obtain ⟨y, hy, e⟩ := List.mem_map.1 hm
        exact (h y (by simp [hy]) x (by simp) e) ▸ hy
      · exact List.mem_map_of_mem
    rw [this]
theorem fits_names (s : Nat) (hs : s = 2 ∨ s = 3 ∨ s = 4) (g : List Int) (hg : g.length = s * s) (f : Int → Int) (hf : Names f g) : fitsG s (g.map f) = fitsG s g := by
  unfold fitsG
  have : ∀ L ∈ lineP s, decide ((posG (pickL L (g.map f))).Nodup) = decide ((posG (pickL L g)).Nodup) := by
    intro L hL
    apply decide_eq_decide.2
    have hb : ∀ j ∈ L, j < g.length := by rw [hg]; exact lineP_lt s hs L hL
    have hN := hf.sub (pickL_mem L g hb)
    rw [pickL_map _ _ _ hb, posG_map f _ hN.pos]
    apply nodup_map_iff
    intro v hv u hu e
    simp only [posG, List.mem_filter, decide_eq_true_eq] at hv hu
    exact hN.inj v hv.1 u hu.1 hv.2 hu.2 e
  rw [Bool.eq_iff_iff]
  simp only [List.all_eq_true]
  exact ⟨fun h L hL => by rw [← this L hL]; exact h L hL, fun h L hL => by rw [this L hL]; exact h L hL⟩
theorem fits_ren (s : Nat) (hs : s = 2 ∨ s = 3 ∨ s = 4) (g : List Int) (hg : g.length = s * s) : fitsG s (renG g) = fitsG s g := fits_names s hs g hg _ (nmG_names g)
/-! Fitting grids, cell by cell; how many a search finds. -/
theorem posG_pairs (L : List Nat) (g : List Int) : (posG (pickL L g)).Nodup ↔ L.Pairwise (fun i j => g.getD i 0 > 0 → g.getD i 0 ≠ g.getD j 0) := by
  unfold posG pickL List.Nodup
  rw [List.pairwise_filter, List.pairwise_map]
  constructor
  · intro h
    refine h.imp ?_
    intro a b h2 h3 h4
    exact h2 (decide_eq_true h3) (decide_eq_true (h4 ▸ h3)) h4
  · intro h
    refine h.imp ?_
    intro a b h2 h3 _
    exact h2 (of_decide_eq_true h3)
theorem range_pairs (n : Nat) (R : Nat → Nat → Prop) : (List.range n).Pairwise R ↔ ∀ j, j < n → ∀ i, i < j → R i j := by
  constructor
  · intro h j hj i hi
    have := List.pairwise_iff_getElem.1 h i j (by simp; omega) (by simpa using hj) hi
    simpa using this
  · intro h
    refine List.Pairwise.imp_of_mem ?_ (List.pairwise_lt_range (n := n))
    intro a b ha hb hab
    exact h b (List.mem_range.1 hb) a hab
def sameL (n a b : Nat) : Bool := a / n == b / n || a % n == b % n
theorem lines_pairs (n : Nat) (hn : n = 2 ∨ n = 3 ∨ n = 4) (R : Nat → Nat → Prop) : (∀ L ∈ lineP n, L.Pairwise R) ↔ ∀ b, b < n * n → ∀ a, a < b → sameL n a b = true → R a b := by
  constructor
  · intro h b hb a hab hs
    simp only [sameL, Bool.or_eq_true, beq_iff_eq] at hs
    rcases hs with hs | hs
    · have h1 := h ((List.range n).map fun i => (a / n) * n + i) (List.mem_append_left _ (List.mem_map.2 ⟨a / n, by rw [List.mem_range]; rcases hn with rfl | rfl | rfl <;> omega, rfl⟩))
      rw [List.pairwise_map, range_pairs] at h1
      have h2 := h1 (b % n) (by rcases hn with rfl | rfl | rfl <;> omega) (a % n) (by rcases hn with rfl | rfl | rfl <;> omega)
      have e1 : a / n * n + a % n = a := by rcases hn with rfl | rfl | rfl <;> omega
      have e2 : a / n * n + b % n = b := by rw [hs]; rcases hn with rfl | rfl | rfl <;> omega
      rw [e1, e2] at h2; exact h2
    · have h1 := h ((List.range n).map fun i => i * n + (a % n)) (List.mem_append_right _ (List.mem_map.2 ⟨a % n, by rw [List.mem_range]; rcases hn with rfl | rfl | rfl <;> omega, rfl⟩))
      rw [List.pairwise_map, range_pairs] at h1
      have h2 := h1 (b / n) (by rcases hn with rfl | rfl | rfl <;> omega) (a / n) (by rcases hn with rfl | rfl | rfl <;> omega)
      have e1 : a / n * n + a % n = a := by rcases hn with rfl | rfl | rfl <;> omega
      have e2 : b / n * n + a % n = b := by rw [hs]; rcases hn with rfl | rfl | rfl <;> omega
      rw [e1, e2] at h2; exact h2
  · intro h L hL
    rcases List.mem_append.1 hL with hL | hL
    · obtain ⟨l, hl, rfl⟩ := List.mem_map.1 hL
      rw [List.mem_range] at hl
      rw [List.pairwise_map, range_pairs]
      intro j hj i hi
      refine h _ ?_ _ (by omega) ?_
      · rcases hn with rfl | rfl | rfl <;> omega
      · simp only [sameL, Bool.or_eq_true, beq_iff_eq]; left
        rcases hn with rfl | rfl | rfl <;> omega
    · obtain ⟨l, hl, rfl⟩ := List.mem_map.1 hL
      rw [List.mem_range] at hl
      rw [List.pairwise_map, range_pairs]
      intro j hj i hi
      refine h _ ?_ _ ?_ ?_
      · rcases hn with rfl | rfl | rfl <;> omega
      · rcases hn with rfl | rfl | rfl <;> omega
      · simp only [sameL, Bool.or_eq_true, beq_iff_eq]; right
        rcases hn with rfl | rfl | rfl <;> omega
theorem fitsG_iff (n : Nat) (hn : n = 2 ∨ n = 3 ∨ n = 4) (g : List Int) : fitsG n g = true ↔ ∀ b, b < n * n → ∀ a, a < b → sameL n a b = true → (g.getD a 0 > 0 → g.getD a 0 ≠ g.getD b 0) := by
  rw [← lines_pairs n hn]
  unfold fitsG
  simp only [List.all_eq_true, decide_eq_true_eq]
  exact ⟨fun h L hL => (posG_pairs L g).1 (h L hL), fun h L hL => (posG_pairs L g).2 (h L hL)⟩
/-- The cells in front of a cell that lie in its lines. -/
def lineTab (n : Nat) : List (List Nat) := (List.range (n * n)).map fun k => (List.range k).filter fun j => sameL n j k
def cntL (n : Nat) : List (List Nat) → List Nat → Nat
  | [], _ => 1
  | js :: rest, q => ((List.range n).map fun v => if js.all (fun j => q.getD j 0 != v + 1) = true then cntL n rest (q ++ [v + 1]) else 0).sum
/-- The grid that begins with these values; the other cells are empty. -/
def gridQ (n : Nat) (q : List Nat) : List Int := q.map (fun (v : Nat) => (v : Int)) ++ List.replicate (n * n - q.length) 0
theorem gridQ_len (n : Nat) (q : List Nat) (h : q.length ≤ n * n) : (gridQ n q).length = n * n := by simp [gridQ]; omega
theorem gridQ_get (n : Nat) (q : List Nat) (i : Nat) : (gridQ n q).getD i 0 = ((q.getD i 0 : Nat) : Int) := by
  unfold gridQ
  simp only [List.getD_eq_getElem?_getD]
  by_cases c : i < q.length
  · rw [List.getElem?_append_left (by simpa using c), List.getElem?_map, List.getElem?_eq_getElem c]; rfl
  · rw [List.getElem?_append_right (by simp; omega), List.getElem?_replicate, List.getElem?_eq_none (by omega)]
    split <;> rfl
theorem gridQ_set (n : Nat) (q : List Nat) (v : Nat) (h : q.length < n * n) : (gridQ n q).set q.length (v : Int) = gridQ n (q ++ [v]) := by
  unfold gridQ
  obtain ⟨m, hm⟩ : ∃ m, n * n - q.length = m + 1 := ⟨n * n - q.length - 1, by omega⟩
  have e : n * n - (q ++ [v]).length = m := by rw [List.length_append, List.length_singleton]; omega
  rw [hm, e, List.replicate_succ, List.set_append_right _ _ (by simp)]
  simp
theorem gridQ_vals (n : Nat) (q : List Nat) (h : ∀ v ∈ q, 1 ≤ v ∧ v ≤ n) : ∀ v ∈ gridQ n q, 0 ≤ v ∧ v ≤ (n : Int) := by
  intro v hv
  rcases List.mem_append.1 hv with hv | hv
  · obtain ⟨u, hu, rfl⟩ := List.mem_map.1 hv
    have := h u hu; omega
  · have := (List.mem_replicate.1 hv).2; omega
theorem fits_step (n : Nat) (hn : n = 2 ∨ n = 3 ∨ n = 4) (q : List Nat) (v : Nat) (hq : ∀ u ∈ q, 1 ≤ u ∧ u ≤ n) (hk : q.length < n * n) (hv : 1 ≤ v) (hf : fitsG n (gridQ n q) = true) :
    fitsG n (gridQ n (q ++ [v])) = true ↔ (((List.range q.length).filter fun j => sameL n j q.length).all fun j => q.getD j 0 != v) = true := by
  rw [fitsG_iff n hn] at hf ⊢
  simp only [gridQ_get] at hf ⊢
  have g1 : ∀ i, i < q.length → (q ++ [v]).getD i 0 = q.getD i 0 := fun i hi => by
    simp only [List.getD_eq_getElem?_getD, List.getElem?_append_left hi]
  have g2 : (q ++ [v]).getD q.length 0 = v := by simp [List.getD_eq_getElem?_getD]
  have g3 : ∀ i, q.length < i → (q ++ [v]).getD i 0 = 0 := fun i hi => by
    simp only [List.getD_eq_getElem?_getD]; rw [List.getElem?_eq_none (by simp; omega)]; rfl
  simp only [List.all_eq_true, List.mem_filter, List.mem_range, bne_iff_ne, and_imp]
  constructor
  · intro h j hj hs
    have := h q.length hk j hj hs
    rw [g1 j hj, g2] at this
    have hp : 1 ≤ q.getD j 0 := by
      rw [List.getD_eq_getElem?_getD, List.getElem?_eq_getElem hj]; exact (hq _ (List.getElem_mem hj)).1
    intro e
    exact this (by omega) (by rw [e])
  · intro h b hb a hab hs hp
    rcases Nat.lt_trichotomy b q.length with c | c | c
    · rw [g1 a (by omega), g1 b c] at *
      exact hf b hb a hab hs hp
    · subst c
      rw [g1 a hab, g2] at *
      intro e; exact h a hab hs (by omega)
    · rw [g3 b c]; omega
theorem lineTab_drop (n k : Nat) (h : k < n * n) : (lineTab n).drop k = ((List.range k).filter fun j => sameL n j k) :: (lineTab n).drop (k + 1) := by
  unfold lineTab
  rw [List.drop_eq_getElem_cons (by simpa using h)]; simp
theorem cnt_all : cntL 2 (lineTab 2) [] = 2 ∧ cntL 3 (lineTab 3) [] = 12 ∧ cntL 4 (lineTab 4) [] = 576 := by decide +kernel
theorem fits_empty (n : Nat) (hn : n = 2 ∨ n = 3 ∨ n = 4) : fitsG n (gridQ n []) = true := by
  rcases hn with rfl | rfl | rfl <;> decide +kernel
/-- A valid grid. -/
def gridB (g : List Int) (s : Int) : Bool := decide ((2 ≤ s ∧ s ≤ 4) ∧ (g.length : Int) = s * s ∧ ∀ v ∈ g, 0 ≤ v ∧ v ≤ s)
theorem gridB_true {g : List Int} {s : Int} (h : gridB g s = true) : (2 ≤ s ∧ s ≤ 4) ∧ (g.length : Int) = s * s ∧ ∀ v ∈ g, 0 ≤ v ∧ v ≤ s := of_decide_eq_true h
theorem gridB_mul {s : Int} (h0 : 2 ≤ s) (h1 : s ≤ 4) : wrap64 (s * s) = s * s ∧ 4 ≤ s * s ∧ s * s ≤ 16 := by
  have : s = 2 ∨ s = 3 ∨ s = 4 := by omega
  rcases this with rfl | rfl | rfl <;> decide +kernel
theorem pick_take (p : List Nat) (g : List Int) (m : Nat) (h : m < p.length) : (pickL p g).take m ++ [rd g ((p.getD m 0 : Nat) : Int)] = (pickL p g).take (m + 1) := by
  have h2 : m < (pickL p g).length := by rw [pickL_length]; exact h
  rw [List.take_add_one, List.getElem?_eq_getElem h2]
  simp [pickL, rd, List.getD_eq_getElem?_getD, h]
theorem pick_all (p : List Nat) (g : List Int) (m : Nat) (h : p.length ≤ m) : (pickL p g).take m = pickL p g := List.take_of_length_le (by rw [pickL_length]; exact h)
theorem turnP_len (n : Nat) : (turnP n).length = n * n := by simp [turnP]
theorem mirrorP_len (n : Nat) : (mirrorP n).length = n * n := by simp [mirrorP]
theorem gridB_n {g : List Int} {s : Int} (h : gridB g s = true) : ∃ n : Nat, s = n ∧ (n = 2 ∨ n = 3 ∨ n = 4) ∧ g.length = n * n := by
  obtain ⟨h1, h2, h3⟩ := gridB_true h
  obtain ⟨n, rfl⟩ := Int.eq_ofNat_of_zero_le (by omega : 0 ≤ s)
  refine ⟨n, rfl, by omega, ?_⟩
  have : ((g.length : Nat) : Int) = ((n * n : Nat) : Int) := by rw [h2]; simp
  exact Int.ofNat.inj this
theorem gridB_mk {g : List Int} {n : Nat} (hn : n = 2 ∨ n = 3 ∨ n = 4) (hl : g.length = n * n) (hv : ∀ v ∈ g, 0 ≤ v ∧ v ≤ (n : Int)) : gridB g n = true :=
  decide_eq_true ⟨by omega, by rw [hl]; simp, hv⟩
theorem gridB_form {g : List Int} {n : Nat} (h : gridB g n = true) (i : Nat) (hi : i < 8) : gridB (pickL (formAt n i) g) n = true := by
  obtain ⟨m, e, hm, hl⟩ := gridB_n h
  obtain rfl : n = m := by omega
  obtain ⟨h1, h2, h3⟩ := gridB_true h
  refine gridB_mk hm (by rw [pickL_length]; exact ((formP_table n hm).1 i hi).1) (fun v hv => h3 v (pickL_mem _ g (fun j hj => ?_) v hv))
  rw [hl]; exact ((formP_table n hm).1 i hi).2 j hj
theorem formAt_one (n : Nat) : formAt n 1 = turnP n := rfl
theorem formAt_four (n : Nat) : formAt n 4 = mirrorP n := rfl
/-- The turned grid, or nothing; the mirrored one. -/
def turnV (g : List Int) (s : Int) : List Int := if gridB g s = true then pickL (turnP s.toNat) g else []
def mirrorV (g : List Int) (s : Int) : List Int := if gridB g s = true then pickL (mirrorP s.toNat) g else []
theorem turnV_form {g : List Int} {n : Nat} (h : gridB g n = true) (i : Nat) (hi : i < 8) : turnV (pickL (formAt n i) g) n = pickL (formAt n (mulFn 1 i)) g := by
  obtain ⟨m, e, hm, hl⟩ := gridB_n h
  obtain rfl : n = m := by omega
  unfold turnV
  rw [if_pos (gridB_form h i hi), show ((n : Int)).toNat = n from rfl, ← formAt_one]
  obtain ⟨h1, h2⟩ := formP_table n hm
  rw [pickL_comp _ _ _ (by rw [(h1 i hi).1]; exact (h1 1 (by omega)).2), h2 1 (by omega) i hi]
def lineZ (n i : Nat) : List Int := ((lineP n).getD i []).map (fun (j : Nat) => (j : Int))
/-- A number twice in what is left. -/
def dupL (d : List Int) : List Int → Bool
  | [] => false
  | v :: vs => if v > 0 ∧ v ∈ d then true else dupL (v :: d) vs
theorem dupL_false : ∀ (vs d : List Int), dupL d vs = false ↔ (∀ v ∈ vs, v > 0 → v ∉ d) ∧ (posG vs).Nodup
  | [], d => by simp [dupL, posG]
  | v :: vs, d => by
    simp only [dupL]
    by_cases c : v > 0 ∧ v ∈ d
    · rw [if_pos c]
      simp only [Bool.true_eq_false, false_iff]
      exact fun h => h.1 v (by simp) c.1 c.2
    · rw [if_neg c, dupL_false vs (v :: d)]
      by_cases c1 : v > 0
      · have hd : v ∉ d := fun h => c ⟨c1, h⟩
        have e : posG (v :: vs) = v :: posG vs := by simp [posG, c1]
        rw [e, List.nodup_cons]
        constructor
        · rintro ⟨h1, h2⟩
          refine ⟨fun u hu hp => ?_, fun hm => ?_, h2⟩
          · rcases List.mem_cons.1 hu with rfl | hu
            · exact hd
            · exact fun h => h1 u hu hp (by simp [h])
          · simp only [posG, List.mem_filter, decide_eq_true_eq] at hm
            exact h1 v hm.1 hm.2 (by simp)
        · rintro ⟨h1, h2, h3⟩
          refine ⟨fun u hu hp => ?_, h3⟩
          simp only [List.mem_cons, not_or]
          refine ⟨?_, h1 u (by simp [hu]) hp⟩
          rintro rfl
          exact h2 (by simp only [posG, List.mem_filter, decide_eq_true_eq]; exact ⟨hu, hp⟩)
      · have e : posG (v :: vs) = posG vs := by simp [posG, c1]
        rw [e]
        constructor
        · rintro ⟨h1, h2⟩
          refine ⟨fun u hu hp => ?_, h2⟩
          rcases List.mem_cons.1 hu with rfl | hu
          · exact absurd hp c1
          · exact fun h => h1 u hu hp (by simp [h])
        · rintro ⟨h1, h2⟩
          refine ⟨fun u hu hp => ?_, h2⟩
          simp only [List.mem_cons, not_or]
          refine ⟨?_, h1 u (by simp [hu]) hp⟩
          rintro rfl; exact absurd hp c1
theorem dupL_nodup (vs : List Int) : dupL [] vs = !decide ((posG vs).Nodup) := by
  have h := dupL_false vs []
  cases c : dupL [] vs with
  | false => have := (h.1 c).2; simp [this]
  | true =>
    have : ¬ (posG vs).Nodup := fun h2 => by rw [h.2 ⟨by simp, h2⟩] at c; cases c
    simp [this]
theorem lineP_len (n : Nat) : (lineP n).length = 2 * n := by simp [lineP]; omega
theorem lineP_shape (n : Nat) (hn : n = 2 ∨ n = 3 ∨ n = 4) : ∀ i, i < 2 * n → ((lineP n).getD i []).length = n := by
  rcases hn with rfl | rfl | rfl <;> decide +kernel
/-- The places of line i. -/
def lineAt (n i : Nat) : List Nat := (lineP n).getD i []
theorem lineAt_lt (n : Nat) (hn : n = 2 ∨ n = 3 ∨ n = 4) (i : Nat) (hi : i < 2 * n) : ∀ j ∈ lineAt n i, j < n * n := by
  intro j hj
  have : i < (lineP n).length := by rw [lineP_len]; exact hi
  refine lineP_lt n hn (lineAt n i) ?_ j hj
  unfold lineAt
  rw [List.getD_eq_getElem?_getD, List.getElem?_eq_getElem this]; exact List.getElem_mem this
theorem any_from {α : Type} (l : List α) (f : α → Bool) (z : α) (i : Nat) (h : i < l.length) : (l.drop i).any f = (f (l.getD i z) || (l.drop (i + 1)).any f) := by
  rw [List.drop_eq_getElem_cons h, List.any_cons, List.getD_eq_getElem?_getD, List.getElem?_eq_getElem h]; rfl
theorem fitsG_any (n : Nat) (g : List Int) : fitsG n g = !((lineP n).any fun L => dupL [] (pickL L g)) := by
  unfold fitsG
  rw [List.not_any_eq_all_not]
  congr 1
  funext L
  rw [dupL_nodup]; simp
theorem pick_drop (p : List Nat) (g : List Int) (j : Nat) (h : j < p.length) : (pickL p g).drop j = rd g ((p.getD j 0 : Nat) : Int) :: (pickL p g).drop (j + 1) := by
  have h2 : j < (pickL p g).length := by rw [pickL_length]; exact h
  rw [List.drop_eq_getElem_cons h2]
  simp [pickL, rd, List.getD_eq_getElem?_getD, h]
theorem lt5 (n v : Nat) (hn : n = 2 ∨ n = 3 ∨ n = 4) (h : (v : Int) ≤ (n : Int)) : v < 5 := by omega
theorem wsucc (j : Nat) (h : j ≤ 100000) : wrap64 ((j : Int) + 1) = ((j + 1 : Nat) : Int) := by rw [w64 (by omega) (by omega)]; omega
theorem jlt {n j e : Nat} (h : n = j + (e + 1)) : j < n := by omega
theorem jnx {n j e : Nat} (h : n = j + (e + 1)) : n = (j + 1) + e := by omega
theorem jnl {n j : Nat} (h : n = j + 0) : ¬ j < n := by omega
theorem nle4 {n : Nat} (h : n = 2 ∨ n = 3 ∨ n = 4) : n ≤ 4 := by omega
theorem ile {i n : Nat} (h : n = 2 ∨ n = 3 ∨ n = 4) (hi : i < 2 * n) : i ≤ 100000 := by omega
theorem jle {j n : Nat} (h : n = 2 ∨ n = 3 ∨ n = 4) (hj : j < n) : j ≤ 100000 := by omega
theorem spec_lc (n : Nat) (hn : n = 2 ∨ n = 3 ∨ n = 4) : ∀ i : Nat, i < 2 * n → spec_LineCells.f 40 (n : Int) (i : Int) = some (lineZ n i) := by
  rcases hn with rfl | rfl | rfl <;> decide +kernel
theorem spec_lc_ev (n : Nat) (hn : n = 2 ∨ n = 3 ∨ n = 4) (i : Nat) (hi : i < 2 * n) : Ev (fun k => spec_LineCells.f k (n : Int) (i : Int)) (lineZ n i) :=
  Ev.of (fun k => spec_LineCells.mono _ _ k) (spec_lc n hn i hi)
theorem mask_or : ∀ m : Nat, m < 32 → ∀ v : Nat, v < 5 → Go.bits .or .i64 (m : Int) (shl .i64 1 (v : Int)) = ((m ||| 2 ^ v : Nat) : Int) ∧ (m ||| 2 ^ v) < 32 ∧ ∀ u : Nat, u < 5 → (Int.tmod (shr .i64 ((m ||| 2 ^ v : Nat) : Int) (u : Int)) 2 = 1 ↔ (u = v ∨ Int.tmod (shr .i64 (m : Int) (u : Int)) 2 = 1)) := by decide +kernel
theorem mask_zero : ∀ u : Nat, u < 5 → ¬ Int.tmod (shr .i64 0 (u : Int)) 2 = 1 := by decide +kernel
theorem clash_l1 (g : List Int) (n : Nat) (hn : n = 2 ∨ n = 3 ∨ n = 4) (hg : g.length = n * n) (hv : ∀ v ∈ g, 0 ≤ v ∧ v ≤ (n : Int)) (i : Nat) (hi : i < 2 * n) {r : Bool} (hr : Ev (fun k => spec_l2Clash.l0 k g n ((i + 1 : Nat) : Int)) r) :
    ∀ (e j m : Nat) (d : List Int), n = j + e → m < 32 → (∀ u : Nat, u < 5 → (Int.tmod (shr .i64 (m : Int) (u : Int)) 2 = 1 ↔ (u : Int) ∈ d)) → Ev (fun k => spec_l2Clash.l1 k g n i (lineZ n i) (m : Int) j) (dupL d ((pickL (lineAt n i) g).drop j) || r) := by
  have hlen : (lineAt n i).length = n := lineP_shape n hn i hi
  have hzl : (lineZ n i).length = n := by unfold lineZ; rw [List.length_map]; exact hlen
  have hw0 : wrap64 ((i : Int) + 1) = ((i + 1 : Nat) : Int) := wsucc i (ile hn hi)
  intro e
  induction e with
  | zero =>
    intro j m d hj hm hd
    have p0 : ¬ ((j : Int) < ((lineZ n i).length : Int)) := fun h => jnl hj (by rw [hzl] at h; exact Int.ofNat_lt.1 h)
    have p1 : (pickL (lineAt n i) g).length ≤ j := by rw [pickL_length, hlen]; exact Nat.le_of_not_lt (jnl hj)
    refine Ev.step (f := fun k => spec_l2Clash.l0 k g n ((i + 1 : Nat) : Int)) (fun k => by rw [spec_l2Clash.l1]; rw [if_neg p0, hw0]) (hr.eq ?_)
    rw [List.drop_eq_nil_of_le p1]; rfl
  | succ e ih =>
    intro j m d hj hm hd
    have hlt : j < (lineAt n i).length := by rw [hlen]; exact jlt hj
    have hw : wrap64 ((j : Int) + 1) = ((j + 1 : Nat) : Int) := wsucc j (jle hn (jlt hj))
    have p1 : (j : Int) < ((lineZ n i).length : Int) := by rw [hzl]; exact Int.ofNat_lt.2 (jlt hj)
    have p2 : (0 : Int) ≤ (j : Int) := Int.natCast_nonneg j
    have je : n = (j + 1) + e := jnx hj
    have hc : rd (lineZ n i) (j : Int) = (((lineAt n i).getD j 0 : Nat) : Int) := by
      unfold lineZ rd
      simp only [Int.toNat_natCast, List.getD_eq_getElem?_getD, List.getElem?_map]
      show ((lineAt n i)[j]?.map fun (j : Nat) => (j : Int)).getD 0 = _
      rw [List.getElem?_eq_getElem hlt]; rfl
    have hcl : (lineAt n i).getD j 0 < n * n := by
      refine lineAt_lt n hn i hi _ ?_
      rw [List.getD_eq_getElem?_getD, List.getElem?_eq_getElem hlt]; exact List.getElem_mem hlt
    rw [pick_drop _ _ _ hlt]
    have hvv := hv _ (rd_mem g (((lineAt n i).getD j 0 : Nat) : Int) (Int.natCast_nonneg _) (by rw [hg]; exact Int.ofNat_lt.2 hcl))
    generalize hcc : (((lineAt n i).getD j 0 : Nat) : Int) = c at hc hvv
    have hcl2 : c < (g.length : Int) := by rw [← hcc, hg]; exact Int.ofNat_lt.2 hcl
    have hc0 : 0 ≤ c := by rw [← hcc]; exact Int.natCast_nonneg _
    obtain ⟨v, hvn⟩ := Int.eq_ofNat_of_zero_le hvv.1
    rw [hvn] at hvv ⊢
    have hv5 : v < 5 := lt5 n v hn hvv.2
    have p3 : (0 : Int) ≤ (v : Int) := hvv.1
    have p4 : (v : Int) < 5 := Int.ofNat_lt.2 hv5
    obtain ⟨o1, o2, o3⟩ := mask_or m hm v hv5
    have nx := ih (j + 1) (m ||| 2 ^ v) ((v : Int) :: d) je o2 (fun u hu => by
      rw [o3 u hu, hd u hu, List.mem_cons]
      exact or_congr ⟨fun h => by rw [h], fun h => Int.ofNat.inj h⟩ Iff.rfl)
    rw [← o1] at nx
    by_cases c1 : (v : Int) > 0
    · by_cases c2 : (v : Int) ∈ d
      · have e2 : dupL d ((v : Int) :: (pickL (lineAt n i) g).drop (j + 1)) = true := by simp only [dupL]; rw [if_pos ⟨c1, c2⟩]
        rw [e2]
        refine Ev.step (f := fun _ => some true) (fun k => ?_) ((Ev.now _).eq (by simp))
        rw [spec_l2Clash.l1]; rw [if_pos p1, if_pos p2, hc, if_pos hc0, if_pos hcl2, hvn, if_pos c1, if_pos p3, if_pos ((hd v hv5).2 c2)]
      · have e2 : dupL d ((v : Int) :: (pickL (lineAt n i) g).drop (j + 1)) = dupL ((v : Int) :: d) ((pickL (lineAt n i) g).drop (j + 1)) := by simp only [dupL]; rw [if_neg (fun h => c2 h.2)]
        rw [e2]
        refine Ev.step (fun k => ?_) nx
        rw [spec_l2Clash.l1]; rw [if_pos p1, if_pos p2, hc, if_pos hc0, if_pos hcl2, hvn, if_pos c1, if_pos p3, if_neg (fun h => c2 ((hd v hv5).1 h)), hw]
    · have e2 : dupL d ((v : Int) :: (pickL (lineAt n i) g).drop (j + 1)) = dupL ((v : Int) :: d) ((pickL (lineAt n i) g).drop (j + 1)) := by simp only [dupL]; rw [if_neg (fun h => c1 h.1)]
      rw [e2]
      refine Ev.step (fun k => ?_) nx
      rw [spec_l2Clash.l1]; rw [if_pos p1, if_pos p2, hc, if_pos hc0, if_pos hcl2, hvn, if_neg c1, if_pos p3, hw]
theorem clash_l0 (g : List Int) (n : Nat) (hn : n = 2 ∨ n = 3 ∨ n = 4) (hg : g.length = n * n) (hv : ∀ v ∈ g, 0 ≤ v ∧ v ≤ (n : Int)) :
    ∀ (e i : Nat), 2 * n = i + e → Ev (fun k => spec_l2Clash.l0 k g n i) (((lineP n).drop i).any fun L => dupL [] (pickL L g)) := by
  have hw2 : wrap64 (2 * (n : Int)) = ((2 * n : Nat) : Int) := by rw [w64 (by omega) (by omega)]; omega
  intro e
  induction e with
  | zero =>
    intro i hi
    refine Ev.step (f := fun _ => some false) (fun k => by rw [spec_l2Clash.l0]; rw [hw2, if_neg (by omega)]) ((Ev.now _).eq ?_)
    rw [List.drop_eq_nil_of_le (by rw [lineP_len]; omega)]; rfl
  | succ e ih =>
    intro i hi
    refine Ev.step (fun k => by rw [spec_l2Clash.l0, hw2, if_pos (by omega)]) (Ev.bind (spec_lc_ev n hn i (by omega)) ?_)
    rw [any_from _ _ [] i (by rw [lineP_len]; omega)]
    exact clash_l1 g n hn hg hv i (by omega) (ih (i + 1) (by omega)) n 0 0 [] (by omega) (by omega) (fun u hu => by simp only [List.not_mem_nil, iff_false]; exact mask_zero u hu)
theorem clash_ev (g : List Int) (n : Nat) (hn : n = 2 ∨ n = 3 ∨ n = 4) (hg : g.length = n * n) (hv : ∀ v ∈ g, 0 ≤ v ∧ v ≤ (n : Int)) : Ev (fun k => spec_l2Clash.f k g n) (!fitsG n g) := by
  unfold spec_l2Clash.f
  refine (clash_l0 g n hn hg hv (2 * n) 0 (by omega)).eq ?_
  rw [fitsG_any]; simp
/-- What a search from a beginning tells: the grid, or how many are left. -/
def FoundOr (n c q : Nat) (z : List Int × Int) : Prop := (q < c ∧ z.1.length = n * n ∧ ∀ v ∈ z.1, 0 ≤ v ∧ v ≤ (n : Int)) ∨ (c ≤ q ∧ z = ([], ((q - c : Nat) : Int)))
def sumFrom (n i : Nat) (js : List Nat) (rest : List (List Nat)) (q : List Nat) : Nat := (((List.range n).drop i).map fun v => if js.all (fun j => q.getD j 0 != v + 1) = true then cntL n rest (q ++ [v + 1]) else 0).sum
theorem sumFrom_end (n : Nat) (js : List Nat) (rest : List (List Nat)) (q : List Nat) : sumFrom n n js rest q = 0 := by
  unfold sumFrom; rw [List.drop_eq_nil_of_le (by simp)]; rfl
theorem sumFrom_step (n i : Nat) (h : i < n) (js : List Nat) (rest : List (List Nat)) (q : List Nat) : sumFrom n i js rest q = (if js.all (fun j => q.getD j 0 != i + 1) = true then cntL n rest (q ++ [i + 1]) else 0) + sumFrom n (i + 1) js rest q := by
  unfold sumFrom; rw [List.drop_eq_getElem_cons (by simpa using h)]; simp
theorem len16 (n : Nat) (hn : n = 2 ∨ n = 3 ∨ n = 4) : n * n ≤ 16 := by rcases hn with rfl | rfl | rfl <;> decide
theorem vnext (i : Nat) (h : i ≤ 100000) : wrap64 (((i + 1 : Nat) : Int) + 1) = ((i + 1 + 1 : Nat) : Int) := by rw [w64 (by omega) (by omega)]; omega
theorem search_ev (n : Nat) (hn : n = 2 ∨ n = 3 ∨ n = 4) : ∀ (d k : Nat) (q : List Nat) (left : Nat), n * n = k + d → q.length = k → (∀ u ∈ q, 1 ≤ u ∧ u ≤ n) → left ≤ 1000000 → fitsG n (gridQ n q) = true →
    ∃ z, Ev (fun kk => spec_l2Search.f kk (gridQ n q) n (k : Int) (left : Int)) z ∧ FoundOr n (cntL n ((lineTab n).drop k) q) left z := by
  have h16 := len16 n hn
  intro d
  induction d with
  | zero =>
    intro k q left hk hq hu hl hf
    have hlen := gridQ_len n q (by omega)
    have hc : cntL n ((lineTab n).drop k) q = 1 := by rw [List.drop_eq_nil_of_le (by simp [lineTab]; omega)]; rfl
    rw [hc]
    by_cases c : left = 0
    · refine ⟨_, Ev.step (f := fun _ => some (gridQ n q, (left : Int))) (fun kk => by rw [spec_l2Search.f]; rw [if_pos (by omega), if_pos (by omega)]) (Ev.now _), Or.inl ⟨by omega, hlen, gridQ_vals n q hu⟩⟩
    · refine ⟨_, Ev.step (f := fun _ => some ([], wrap64 ((left : Int) - 1))) (fun kk => by rw [spec_l2Search.f]; rw [if_pos (by omega), if_neg (by omega)]) (Ev.now _), Or.inr ⟨by omega, ?_⟩⟩
      rw [w64 (by omega) (by omega)]; congr 1; omega
  | succ d ih =>
    intro k q left hk hq hu hl hf
    have hlen := gridQ_len n q (by omega)
    have hkn : k < n * n := by omega
    have hc : cntL n ((lineTab n).drop k) q = sumFrom n 0 ((List.range k).filter fun j => sameL n j k) ((lineTab n).drop (k + 1)) q := by
      rw [lineTab_drop n k hkn]; unfold sumFrom; rw [List.drop_zero]; rfl
    rw [hc]
    have hk1 : wrap64 ((k : Int) + 1) = ((k + 1 : Nat) : Int) := wsucc k (by omega)
    have loop : ∀ (e i left : Nat), n = i + e → left ≤ 1000000 → ∃ z, Ev (fun kk => spec_l2Search.l0 kk (gridQ n q) n (k : Int) (left : Int) ((i + 1 : Nat) : Int)) z ∧ FoundOr n (sumFrom n i ((List.range k).filter fun j => sameL n j k) ((lineTab n).drop (k + 1)) q) left z := by
      intro e
      induction e with
      | zero =>
        intro i left hi hl
        obtain rfl : n = i := by omega
        rw [sumFrom_end]
        refine ⟨_, Ev.step (f := fun _ => some ([], (left : Int))) (fun kk => by rw [spec_l2Search.l0]; rw [if_neg (by omega)]) (Ev.now _), Or.inr ⟨by omega, by simp⟩⟩
      | succ e ihe =>
        intro i left hi hl
        have hin : i < n := by omega
        rw [sumFrom_step n i hin]
        have hset : (gridQ n q).set ((k : Int)).toNat ((i + 1 : Nat) : Int) = gridQ n (q ++ [i + 1]) := by rw [Int.toNat_natCast, ← hq]; exact gridQ_set n q (i + 1) (by omega)
        have hu2 : ∀ u ∈ q ++ [i + 1], 1 ≤ u ∧ u ≤ n := fun u hm => by
          rcases List.mem_append.1 hm with hm | hm
          · exact hu u hm
          · simp at hm; omega
        have hl2 : (q ++ [i + 1]).length = k + 1 := by simp [hq]
        have hlen2 := gridQ_len n (q ++ [i + 1]) (by omega)
        have cl := clash_ev (gridQ n (q ++ [i + 1])) n hn hlen2 (gridQ_vals n _ hu2)
        have fs := fits_step n hn q (i + 1) hu (by omega) (by omega) hf
        rw [hq] at fs
        have t1 : ((i + 1 : Nat) : Int) ≤ (n : Int) := Int.ofNat_le.2 hin
        have t2 : (gridQ n q).length < 4398046511104 := by omega
        have t3 : (0 : Int) ≤ (k : Int) := Int.natCast_nonneg k
        have t4 : (k : Int) < ((gridQ n q).length : Int) := by rw [hlen]; exact Int.ofNat_lt.2 hkn
        have hnx := vnext i (by omega)
        by_cases c : fitsG n (gridQ n (q ++ [i + 1])) = true
        · rw [if_pos (fs.1 c)]
          obtain ⟨z, hz, hfo⟩ := ih (k + 1) (q ++ [i + 1]) left (by omega) hl2 hu2 hl c
          rcases hfo with ⟨h1, h2, h3⟩ | ⟨h1, h2⟩
          · refine ⟨z, Ev.step (fun kk => by rw [spec_l2Search.l0, if_pos t1, if_pos t2, if_pos t3, if_pos t4, hset, hk1]) (Ev.bind cl (Ev.ifn (show ¬ ((!fitsG n (gridQ n (q ++ [i + 1]))) = true) by rw [c]; decide) (Ev.bind hz (Ev.ifp (show 0 < z.1.length by rw [h2]; omega) (Ev.now _))))), Or.inl ⟨by omega, h2, h3⟩⟩
          · subst h2
            obtain ⟨z2, hz2, hfo2⟩ := ihe (i + 1) (left - cntL n ((lineTab n).drop (k + 1)) (q ++ [i + 1])) (by omega) (by omega)
            refine ⟨z2, Ev.step (fun kk => by rw [spec_l2Search.l0, if_pos t1, if_pos t2, if_pos t3, if_pos t4, hset, hk1, hnx]) (Ev.bind cl (Ev.ifn (show ¬ ((!fitsG n (gridQ n (q ++ [i + 1]))) = true) by rw [c]; decide) (Ev.bind hz (Ev.ifn (show ¬ 0 < ([] : List Int).length by simp) hz2)))), ?_⟩
            rcases hfo2 with ⟨g1, g2⟩ | ⟨g1, g2⟩
            · exact Or.inl ⟨by omega, g2⟩
            · exact Or.inr ⟨by omega, by rw [g2]; congr 2; omega⟩
        · rw [if_neg (fun h => c (fs.2 h)), Nat.zero_add]
          obtain ⟨z2, hz2, hfo2⟩ := ihe (i + 1) left (by omega) hl
          exact ⟨z2, Ev.step (fun kk => by rw [spec_l2Search.l0, if_pos t1, if_pos t2, if_pos t3, if_pos t4, hset, hk1, hnx]) (Ev.bind cl (Ev.ifp (show (!fitsG n (gridQ n (q ++ [i + 1]))) = true by rw [Bool.eq_false_iff.mpr c]; rfl) hz2)), hfo2⟩
    obtain ⟨z, hz, hfo⟩ := loop n 0 left (by omega) hl
    exact ⟨z, Ev.step (f := fun kk => spec_l2Search.l0 kk (gridQ n q) n (k : Int) (left : Int) ((0 + 1 : Nat) : Int)) (fun kk => by rw [spec_l2Search.f]; rw [if_neg (by omega)]; rfl) hz, hfo⟩
/-- A number below the number of all squares has its square. -/
theorem number_ev (n : Nat) (hn : n = 2 ∨ n = 3 ∨ n = 4) (q : Nat) (hq : q < cntL n (lineTab n) []) : ∃ g, Ev (fun k => spec_SquareNumber.f k n q) g ∧ g.length = n * n ∧ ∀ v ∈ g, 0 ≤ v ∧ v ≤ (n : Int) := by
  have h16 := len16 n hn
  have hm : wrap64 ((n : Int) * n) = ((n * n : Nat) : Int) := by rcases hn with rfl | rfl | rfl <;> decide +kernel
  have hq6 : q ≤ 1000000 := by
    obtain ⟨c2, c3, c4⟩ := cnt_all
    rcases hn with rfl | rfl | rfl <;> omega
  obtain ⟨z, hz, hfo⟩ := search_ev n hn (n * n) 0 [] q (by omega) rfl (by simp) hq6 (fits_empty n hn)
  rw [List.drop_zero] at hfo
  rcases hfo with ⟨_, h2, h3⟩ | ⟨h1, _⟩
  · refine ⟨z.1, ?_, h2, h3⟩
    unfold spec_SquareNumber.f
    refine Ev.bindc (l1In_f _ _ _) (Ev.ifp (by simp; omega) (Ev.ifn (by omega) ?_))
    rw [hm]
    refine Ev.ifp (by omega) (Ev.ifp (by omega) (Ev.bind (a := z) ?_ (Ev.ifp (by omega) (Ev.now _))))
    have e : gridQ n [] = List.replicate ((n * n : Nat) : Int).toNat 0 := by simp only [gridQ, List.map_nil, List.nil_append, List.length_nil, Nat.sub_zero, Int.toNat_natCast]
    rw [e] at hz; exact hz
  · omega
theorem size_any {b : List Int} (hb : Byts b) {p : Int} (hp : 0 ≤ p) (hp1 : p ≤ 900000) (a : Int) (ha : a ≤ 9223372036854775807) : ∃ s q, Ev (fun k => spec_l20Size.f k b p a) (s, q) ∧ p ≤ q ∧ q ≤ p + 2 ∧ (a ≤ 0 → s = 2 ∨ s = 3 ∨ s = 4) := by
  unfold spec_l20Size.f
  by_cases c : a ≤ 0
  · obtain ⟨r, e, h0, h1, _⟩ := pick_any hb hp (by omega) 5 (by omega)
    have h1 := h1 (by omega)
    refine ⟨rd [2, 3, 3, 4, 4] r, p + 1, Ev.bind (a := (false, p)) ?_ (Ev.ifn (by simp) (Ev.bindc rfl (Ev.bind e (Ev.ifp h0 (Ev.ifp (by simp; omega) (Ev.now _)))))), by omega, by omega, fun _ => ?_⟩
    · unfold spec_l20Rd_odd.f
      exact Ev.ifn (by omega) (Ev.now _)
    · have : r = 0 ∨ r = 1 ∨ r = 2 ∨ r = 3 ∨ r = 4 := by omega
      rcases this with rfl | rfl | rfl | rfl | rfl <;> simp [rd]
  · obtain ⟨o, q, e, hq1, hq2⟩ := odd_any hb hp (by omega) a ha
    cases o with
    | true =>
      obtain ⟨r, e2, h0, h1, _⟩ := pick_any hb (p := q) (by omega) (by omega) 3 (by omega)
      have h1 := h1 (by omega)
      exact ⟨_, _, Ev.bind e (Ev.ifp rfl (Ev.bindc rfl (Ev.bind e2 (Ev.ifp h0 (Ev.ifp (by simp; omega) (Ev.now _)))))), by omega, by omega, fun h => absurd h c⟩
    | false =>
      obtain ⟨r, e2, h0, h1, _⟩ := pick_any hb (p := q) (by omega) (by omega) 5 (by omega)
      have h1 := h1 (by omega)
      exact ⟨_, _, Ev.bind e (Ev.ifn (by simp) (Ev.bindc rfl (Ev.bind e2 (Ev.ifp h0 (Ev.ifp (by simp; omega) (Ev.now _)))))), by omega, by omega, fun h => absurd h c⟩
theorem solved_any {b : List Int} (hb : Byts b) {p : Int} (hp : 0 ≤ p) (hp1 : p ≤ 900000) (n : Nat) (hn : n = 2 ∨ n = 3 ∨ n = 4) : ∃ g q, Ev (fun k => spec_l20Solved.f k b p n) (g, q) ∧ p ≤ q ∧ q ≤ p + 2 ∧ g.length = n * n := by
  obtain ⟨r1, e1, h10, h11, _⟩ := pick_any hb hp (by omega) 256 (by omega)
  have h11 := h11 (by omega)
  obtain ⟨r2, e2, h20, h21, _⟩ := pick_any hb (p := p + 1) (by omega) (by omega) 3 (by omega)
  have h21 := h21 (by omega)
  have hw : wrap64 (wrap64 (r1 * 3) + r2) = r1 * 3 + r2 := by rw [w64 (x := r1 * 3) (by omega) (by omega), w64 (by omega) (by omega)]
  obtain ⟨m, hm⟩ := Int.eq_ofNat_of_zero_le (show 0 ≤ r1 * 3 + r2 by omega)
  have hs : ∃ M : Nat, rd [2, 12, 576] (wrap64 ((n : Int) - 2)) = (M : Int) ∧ 0 < M ∧ cntL n (lineTab n) [] = M ∧ 0 ≤ wrap64 ((n : Int) - 2) ∧ wrap64 ((n : Int) - 2) < 3 := by
    obtain ⟨c2, c3, c4⟩ := cnt_all
    rcases hn with rfl | rfl | rfl
    · exact ⟨2, by decide +kernel, by omega, c2, by decide +kernel, by decide +kernel⟩
    · exact ⟨12, by decide +kernel, by omega, c3, by decide +kernel, by decide +kernel⟩
    · exact ⟨576, by decide +kernel, by omega, c4, by decide +kernel, by decide +kernel⟩
  obtain ⟨M, hM, hM0, hM1, hM2, hM3⟩ := hs
  have ht : Int.tmod (wrap64 (wrap64 (r1 * 3) + r2)) (M : Int) = ((m % M : Nat) : Int) := by rw [hw, hm]; rfl
  obtain ⟨g, hg, hg1, hg2⟩ := number_ev n hn (m % M) (by rw [hM1]; exact Nat.mod_lt _ hM0)
  unfold spec_l20Solved.f
  refine ⟨g, p + 1 + 1, Ev.bindc rfl (Ev.ifp hM2 (Ev.ifp hM3 (Ev.bind e1 (Ev.bind e2 (Ev.ifn (by rw [hM]; omega) ?_))))), by omega, by omega, hg1⟩
  rw [hM, ht]
  exact Ev.bind hg (Ev.now _)
theorem grid_tail {b : List Int} (hb : Byts b) (a : Int) (ha : a ≤ 9223372036854775807) (s : Int) (hs0 : 2 ≤ s) (hs1 : s ≤ 4) (m : Nat) (hm0 : 0 < m) (hm : m ≤ 16) : ∀ (d : Nat) (x p : Int) (g : List Int), g.length = m → x ≤ 1 + (d : Int) → 0 ≤ x → d ≤ 10 → 0 ≤ p → p ≤ 800000 + 100 * (10 - (d : Int)) → ∃ r : List Int × Int × Int, Ev (fun k => spec_l20Grid.l1 k a s g x b p) r ∧ r.1.length ≤ 16 := by
  intro d
  induction d with
  | zero =>
    intro x p g hg hx hx0 hd hp hp1
    obtain ⟨o, q, e, hq1, hq2⟩ := odd_any hb hp (by omega) a ha
    suffices h : ∃ r : List Int × Int × Int, Ev (fun k => (if o = true then ((spec_l20Rd_pick.f k b q 3).bind fun bt211 => (if bt211.1 = 0 then ((spec_l20Rd_pick.f k b bt211.2 (g.length : Int)).bind fun bt213 => ((some (([(-1), wrap64 (s + 1)] : List Int) : List Int)).bind fun y215 => ((spec_l20Rd_pick.f k b bt213.2 2).bind fun bt218 => (if 0 ≤ bt218.1 then (if bt218.1 < (y215.length : Int) then (if 0 ≤ bt213.1 then (if bt213.1 < (g.length : Int) then (some ((g.set (bt213.1 : Int).toNat (rd y215 bt218.1)), s, bt218.2)) else (none)) else (none)) else (none)) else (none))))) else (if bt211.1 = 1 then (if 1 ≤ (g.length : Int) then (some ((g.drop (1 : Int).toNat), s, bt211.2)) else (none)) else ((spec_l20Size.f k b bt211.2 1).bind fun bt225 => (some (g, bt225.1, bt225.2)))))) else (some (g, s, q)))) r ∧ r.1.length ≤ 16 by
      obtain ⟨r, hr, hl⟩ := h
      exact ⟨r, Ev.step (fun k => by rw [spec_l20Grid.l1, if_neg (by omega)]) (Ev.bind e hr), hl⟩
    cases o with
    | false => exact ⟨_, Ev.ifn (by simp) (Ev.now _), by simp only; omega⟩
    | true =>
      obtain ⟨r, e2, h0, h1, _⟩ := pick_any hb (p := q) (by omega) (by omega) 3 (by omega)
      have h1 := h1 (by omega)
      by_cases c0 : r = 0
      · obtain ⟨r3, e3, h30, h31, _⟩ := pick_any hb (p := q + 1) (by omega) (by omega) (g.length : Int) (by omega)
        have h31 := h31 (by omega)
        obtain ⟨r4, e4, h40, h41, _⟩ := pick_any hb (p := q + 1 + 1) (by omega) (by omega) 2 (by omega)
        have h41 := h41 (by omega)
        exact ⟨_, Ev.ifp rfl (Ev.bind e2 (Ev.ifp c0 (Ev.bind e3 (Ev.bindc rfl (Ev.bind e4 (Ev.ifp h40 (Ev.ifp (by simp; omega) (Ev.ifp h30 (Ev.ifp h31 (Ev.now _)))))))))), by simp only [List.length_set]; omega⟩
      · by_cases c1 : r = 1
        · exact ⟨_, Ev.ifp rfl (Ev.bind e2 (Ev.ifn c0 (Ev.ifp c1 (Ev.ifp (by omega) (Ev.now _))))), by simp only [List.length_drop]; omega⟩
        · obtain ⟨s2, q2, e3, _, _, _⟩ := size_any hb (p := q + 1) (by omega) (by omega) 1 (by omega)
          exact ⟨_, Ev.ifp rfl (Ev.bind e2 (Ev.ifn c0 (Ev.ifn c1 (Ev.bind e3 (Ev.now _))))), by simp only; omega⟩
  | succ d ih =>
    intro x p g hg hx hx0 hd hp hp1
    by_cases c : x > 1
    · obtain ⟨r3, e3, h30, h31, _⟩ := pick_any hb hp (by omega) (g.length : Int) (by omega)
      have h31 := h31 (by omega)
      have hw : wrap64 (s + 1) = s + 1 := w64 (by omega) (by omega)
      have hw1 : wrap64 (x - 1) = x - 1 := w64 (by omega) (by omega)
      obtain ⟨r4, e4, h40, h41, _⟩ := pick_any hb (p := p + 1) (by omega) (by omega) (s + 1) (by omega)
      obtain ⟨r, hr, hl⟩ := ih (x - 1) (p + 1 + 1) (g.set r3.toNat r4) (by simp [hg]) (by omega) (by omega) (by omega) (by omega) (by omega)
      exact ⟨r, Ev.step (fun k => by rw [spec_l20Grid.l1, if_pos c, hw, hw1]) (Ev.bind e3 (Ev.bind e4 (Ev.ifp h30 (Ev.ifp h31 hr)))), hl⟩
    · exact ih x p g hg (by omega) hx0 (by omega) hp (by omega)
theorem grid_l0 {b : List Int} (hb : Byts b) (a : Int) (ha : a ≤ 9223372036854775807) (s : Int) (hs0 : 2 ≤ s) (hs1 : s ≤ 4) (m : Nat) (hm0 : 0 < m) (hm : m ≤ 16) (h : Int) : ∀ (d i : Nat) (p : Int) (g : List Int), g.length = m → m = i + d → 0 ≤ p → p + d ≤ 700000 → ∃ r : List Int × Int × Int, Ev (fun k => spec_l20Grid.l0 k a s g h i b p) r ∧ r.1.length ≤ 16 := by
  intro d
  induction d with
  | zero =>
    intro i p g hg hi hp hp1
    obtain ⟨x, e, h0, h1, _⟩ := pick_any hb hp (by omega) 3 (by omega)
    have h1 := h1 (by omega)
    obtain ⟨r, hr, hl⟩ := grid_tail hb a ha s hs0 hs1 m hm0 hm 2 x (p + 1) g hg (by omega) h0 (by omega) (by omega) (by omega)
    exact ⟨r, Ev.step (fun k => by rw [spec_l20Grid.l0, if_neg (by omega)]) (Ev.bind e hr), hl⟩
  | succ d ih =>
    intro i p g hg hi hp hp1
    have hw : wrap64 ((i : Int) + 1) = ((i + 1 : Nat) : Int) := by rw [w64 (by omega) (by omega)]; omega
    obtain ⟨x, e, h0, h1, _⟩ := pick_any hb hp (by omega) 5 (by omega)
    by_cases c : x < h
    · obtain ⟨r, hr, hl⟩ := ih (i + 1) (p + 1) (g.set i 0) (by simp [hg]) (by omega) (by omega) (by omega)
      exact ⟨r, Ev.step (fun k => by rw [spec_l20Grid.l0, if_pos (by omega), hw, Int.toNat_natCast]) (Ev.bind e (Ev.ifp c (Ev.ifp (show (0 : Int) ≤ (i : Int) from Int.natCast_nonneg i) hr))), hl⟩
    · obtain ⟨r, hr, hl⟩ := ih (i + 1) (p + 1) g hg (by omega) (by omega) (by omega)
      exact ⟨r, Ev.step (fun k => by rw [spec_l20Grid.l0, if_pos (by omega), hw]) (Ev.bind e (Ev.ifn c hr)), hl⟩
theorem grid_any {b : List Int} (hb : Byts b) (a : Int) (ha : a ≤ 9223372036854775807) : ∃ r : List Int × Int × Int, Ev (fun k => spec_l20Grid.f k b 0 a) r ∧ r.1.length ≤ 16 := by
  obtain ⟨s, q, e, hq1, hq2, hs⟩ := size_any hb (p := 0) (by omega) (by omega) 0 (by omega)
  have hs := hs (by omega)
  obtain ⟨n, rfl⟩ := Int.eq_ofNat_of_zero_le (show 0 ≤ s by omega)
  have hn : n = 2 ∨ n = 3 ∨ n = 4 := by omega
  obtain ⟨g, q2, e2, hq3, hq4, hg⟩ := solved_any hb (p := q) (by omega) (by omega) n hn
  obtain ⟨h, e3, h0, h1, _⟩ := pick_any hb (p := q2) (by omega) (by omega) 5 (by omega)
  have hnn : 0 < n * n ∧ n * n ≤ 16 := by rcases hn with rfl | rfl | rfl <;> decide
  obtain ⟨r, hr, hl⟩ := grid_l0 hb a ha (n : Int) (by omega) (by omega) (n * n) hnn.1 hnn.2 h (n * n) 0 (q2 + 1) g hg (by omega) (by omega) (by omega)
  unfold spec_l20Grid.f
  exact ⟨r, Ev.bind e (Ev.bind e2 (Ev.bind e3 hr)), hl⟩
theorem sizeOk_f (s : Int) : impl_sizeOk.f s = some (decide (2 ≤ s ∧ s ≤ 4)) := by
  unfold impl_sizeOk.f
  by_cases h : s ≥ 2
  · rw [if_pos h]; simp; omega
  · rw [if_neg h]; simp; omega
theorem impl_gv_l (g : List Int) (s : Int) (hn : g.length ≤ 35184372088832) : ∀ (d i : Nat), g.length = i + d → Ev (fun k => impl_GridValid.l0 k s g (g.length : Int) i) (decide (∀ v ∈ g.drop i, 0 ≤ v ∧ v ≤ s)) := by
  intro d
  induction d with
  | zero =>
    intro i hi
    refine Ev.step (f := fun _ => some true) (fun k => by rw [impl_GridValid.l0]; rw [if_neg (by omega)]) ((Ev.now _).eq ?_)
    rw [List.drop_eq_nil_of_le (by omega)]; simp
  | succ d ih =>
    intro i hi
    have hlt : i < g.length := by omega
    have hw : wrap64 ((i : Int) + 1) = ((i + 1 : Nat) : Int) := by rw [w64 (by omega) (by omega)]; omega
    refine Ev.step (f := fun k => if g[i] < 0 then some false else if g[i] > s then some false else impl_GridValid.l0 k s g (g.length : Int) ((i + 1 : Nat) : Int)) (fun k => by rw [impl_GridValid.l0]; rw [if_pos (by omega), if_pos (by omega), if_pos (by omega), rd_nat g i hlt, hw]) ?_
    rw [List.drop_eq_getElem_cons hlt]
    by_cases c : 0 ≤ g[i] ∧ g[i] ≤ s
    · refine Ev.ifn (by omega) (Ev.ifn (by omega) ((ih (i + 1) (by omega)).eq ?_))
      rw [Bool.eq_iff_iff]; simp only [decide_eq_true_eq, List.mem_cons, forall_eq_or_imp, c, true_and, and_self]
    · by_cases c2 : g[i] < 0
      · refine Ev.ifp c2 ((Ev.now _).eq ?_)
        rw [Bool.eq_iff_iff]; simp only [Bool.false_eq_true, decide_eq_true_eq, false_iff]; exact fun h => c (h _ (List.mem_cons_self ..))
      · refine Ev.ifn c2 (Ev.ifp (by omega) ((Ev.now _).eq ?_))
        rw [Bool.eq_iff_iff]; simp only [Bool.false_eq_true, decide_eq_true_eq, false_iff]; exact fun h => c (h _ (List.mem_cons_self ..))
theorem impl_gv (g : List Int) (s : Int) (hn : g.length ≤ 35184372088832) : Ev (fun k => impl_GridValid.f k g s) (gridB g s) := by
  unfold impl_GridValid.f
  refine Ev.bindc (sizeOk_f s) ?_
  have e0 : ∀ (b : Bool), ¬ (b = true) → false = b := by intro b; cases b <;> simp
  by_cases c : 2 ≤ s ∧ s ≤ 4
  · refine Ev.ifp (by simp [c]) ?_
    have hm := gridB_mul c.1 c.2
    by_cases c2 : (g.length : Int) = s * s
    · refine Ev.step (f := fun k => impl_GridValid.l0 k s g (g.length : Int) 0) (fun k => by rw [impl_GridValid.j0]; rw [if_neg (by simp [hm.1, c2])]) ?_
      refine (impl_gv_l g s hn g.length 0 (by omega)).eq ?_
      unfold gridB; rw [Bool.eq_iff_iff]; simp [c, c2]
    · refine Ev.step (f := fun k => some false) (fun k => by rw [impl_GridValid.j0]; rw [if_pos (by simp [hm.1, c2])]) ((Ev.now _).eq (e0 _ ?_))
      unfold gridB; simp [c2]
  · refine Ev.ifn (by simpa using c) (Ev.step (f := fun k => some false) (fun k => by rw [impl_GridValid.j0]; rw [if_pos rfl]) ((Ev.now _).eq (e0 _ ?_)))
    unfold gridB; simp; intro h1 h2; exact absurd ⟨h1, h2⟩ c

theorem impl_turn_ix (n : Nat) (hn : n = 2 ∨ n = 3 ∨ n = 4) : ∀ r, r < n → ∀ c, c < n → wrap64 (wrap64 (wrap64 (wrap64 ((n : Int) - 1) - (c : Int)) * (n : Int)) + (r : Int)) = (((turnP n).getD (r * n + c) 0 : Nat) : Int) ∧ (turnP n).getD (r * n + c) 0 < n * n := by
  rcases hn with rfl | rfl | rfl <;> decide +kernel
theorem impl_turn_l (g : List Int) (n : Nat) (hn : n = 2 ∨ n = 3 ∨ n = 4) (hg : g.length = n * n) : ∀ (e r : Nat), n = r + e → Ev (fun k => impl_GridTurn.l0 k g n ((pickL (turnP n) g).take (r * n)) n r) (pickL (turnP n) g) := by
  intro e
  induction e with
  | zero =>
    intro r hr
    have hrn : r = n := by omega
    subst hrn
    refine Ev.step (f := fun _ => some ((pickL (turnP r) g).take (r * r))) (fun k => by rw [impl_GridTurn.l0]; rw [if_neg (by omega)]) ((Ev.now _).eq ?_)
    exact pick_all _ _ _ (by rw [turnP_len]; omega)
  | succ e ih =>
    intro r hr
    have hw : wrap64 ((r : Int) + 1) = ((r + 1 : Nat) : Int) := by rw [w64 (by omega) (by omega)]; omega
    have h1 : ∀ (d c : Nat), n = c + d → Ev (fun k => impl_GridTurn.l1 k g n ((pickL (turnP n) g).take (r * n + c)) r n r n c) (pickL (turnP n) g) := by
      intro d
      induction d with
      | zero =>
        intro c hc
        have hcn : c = n := by omega
        refine Ev.step (f := fun k => impl_GridTurn.l0 k g n ((pickL (turnP n) g).take (r * n + c)) n ((r + 1 : Nat) : Int)) (fun k => by rw [impl_GridTurn.l1]; rw [if_neg (by omega), hw]) ?_
        have := ih (r + 1) (by omega)
        rw [Nat.succ_mul] at this
        rw [hcn]; exact this
      | succ d ihd =>
        intro c hc
        have hwc : wrap64 ((c : Int) + 1) = ((c + 1 : Nat) : Int) := by rw [w64 (by omega) (by omega)]; omega
        obtain ⟨i1, i2⟩ := impl_turn_ix n hn r (by omega) c (by omega)
        have hm : r * n + c < n * n := by
          have : r * n + n ≤ n * n := by rw [← Nat.succ_mul]; exact Nat.mul_le_mul_right _ (by omega)
          omega
        have hnn : n * n ≤ 16 := by rcases hn with rfl | rfl | rfl <;> decide
        refine Ev.step (f := fun k => impl_GridTurn.l1 k g n ((pickL (turnP n) g).take (r * n + (c + 1))) r n r n ((c + 1 : Nat) : Int)) (fun k => ?_) (ihd (c + 1) (by omega))
        rw [impl_GridTurn.l1]
        rw [if_pos (by omega), i1, if_pos (by omega), if_pos (by omega), if_pos (by rw [List.length_take, pickL_length, turnP_len]; omega), hwc, pick_take _ _ _ (by rw [turnP_len]; exact hm)]
        rfl
    refine Ev.step (f := fun k => impl_GridTurn.l1 k g n ((pickL (turnP n) g).take (r * n)) r n r n 0) (fun k => by rw [impl_GridTurn.l0]; rw [if_pos (by omega)]) ?_
    exact h1 n 0 (by omega)
theorem impl_turn (g : List Int) (s : Int) (hl : g.length ≤ 35184372088832) : Ev (fun k => impl_GridTurn.f k g s) (turnV g s) := by
  unfold impl_GridTurn.f turnV
  refine Ev.bind (impl_gv g s hl) ?_
  by_cases c : gridB g s = true
  · rw [if_pos c]
    obtain ⟨n, rfl, hn, hg⟩ := gridB_n c
    refine Ev.ifp c (Ev.ifp (by omega) (Ev.ifp (by omega) ?_))
    have := impl_turn_l g n hn hg n 0 (by omega)
    simpa using this
  · rw [if_neg c]; exact Ev.ifn c (Ev.now _)

theorem impl_mirror_ix (n : Nat) (hn : n = 2 ∨ n = 3 ∨ n = 4) : ∀ r, r < n → ∀ c, c < n → wrap64 (wrap64 (wrap64 (wrap64 ((r : Int) * (n : Int)) + (n : Int)) - 1) - (c : Int)) = (((mirrorP n).getD (r * n + c) 0 : Nat) : Int) ∧ (mirrorP n).getD (r * n + c) 0 < n * n := by
  rcases hn with rfl | rfl | rfl <;> decide +kernel
theorem impl_mirror_l (g : List Int) (n : Nat) (hn : n = 2 ∨ n = 3 ∨ n = 4) (hg : g.length = n * n) : ∀ (e r : Nat), n = r + e → Ev (fun k => impl_GridMirror.l0 k g n ((pickL (mirrorP n) g).take (r * n)) n r) (pickL (mirrorP n) g) := by
  intro e
  induction e with
  | zero =>
    intro r hr
    have hrn : r = n := by omega
    subst hrn
    refine Ev.step (f := fun _ => some ((pickL (mirrorP r) g).take (r * r))) (fun k => by rw [impl_GridMirror.l0]; rw [if_neg (by omega)]) ((Ev.now _).eq ?_)
    exact pick_all _ _ _ (by rw [mirrorP_len]; omega)
  | succ e ih =>
    intro r hr
    have hw : wrap64 ((r : Int) + 1) = ((r + 1 : Nat) : Int) := by rw [w64 (by omega) (by omega)]; omega
    have h1 : ∀ (d c : Nat), n = c + d → Ev (fun k => impl_GridMirror.l1 k g n ((pickL (mirrorP n) g).take (r * n + c)) r n r n c) (pickL (mirrorP n) g) := by
      intro d
      induction d with
      | zero =>
        intro c hc
        have hcn : c = n := by omega
        refine Ev.step (f := fun k => impl_GridMirror.l0 k g n ((pickL (mirrorP n) g).take (r * n + c)) n ((r + 1 : Nat) : Int)) (fun k => by rw [impl_GridMirror.l1]; rw [if_neg (by omega), hw]) ?_
        have := ih (r + 1) (by omega)
        rw [Nat.succ_mul] at this
        rw [hcn]; exact this
      | succ d ihd =>
        intro c hc
        have hwc : wrap64 ((c : Int) + 1) = ((c + 1 : Nat) : Int) := by rw [w64 (by omega) (by omega)]; omega
        obtain ⟨i1, i2⟩ := impl_mirror_ix n hn r (by omega) c (by omega)
        have hm : r * n + c < n * n := by
          have : r * n + n ≤ n * n := by rw [← Nat.succ_mul]; exact Nat.mul_le_mul_right _ (by omega)
          omega
        have hnn : n * n ≤ 16 := by rcases hn with rfl | rfl | rfl <;> decide
        refine Ev.step (f := fun k => impl_GridMirror.l1 k g n ((pickL (mirrorP n) g).take (r * n + (c + 1))) r n r n ((c + 1 : Nat) : Int)) (fun k => ?_) (ihd (c + 1) (by omega))
        rw [impl_GridMirror.l1]
        rw [if_pos (by omega), i1, if_pos (by omega), if_pos (by omega), if_pos (by rw [List.length_take, pickL_length, mirrorP_len]; omega), hwc, pick_take _ _ _ (by rw [mirrorP_len]; exact hm)]
        rfl
    refine Ev.step (f := fun k => impl_GridMirror.l1 k g n ((pickL (mirrorP n) g).take (r * n)) r n r n 0) (fun k => by rw [impl_GridMirror.l0]; rw [if_pos (by omega)]) ?_
    exact h1 n 0 (by omega)
theorem impl_mirror (g : List Int) (s : Int) (hl : g.length ≤ 35184372088832) : Ev (fun k => impl_GridMirror.f k g s) (mirrorV g s) := by
  unfold impl_GridMirror.f mirrorV
  refine Ev.bind (impl_gv g s hl) ?_
  by_cases c : gridB g s = true
  · rw [if_pos c]
    obtain ⟨n, rfl, hn, hg⟩ := gridB_n c
    refine Ev.ifp c (Ev.ifp (by omega) (Ev.ifp (by omega) ?_))
    have := impl_mirror_l g n hn hg n 0 (by omega)
    simpa using this
  · rw [if_neg c]; exact Ev.ifn c (Ev.now _)
/-- The eight forms, or nothing. -/
def formsV (g : List Int) (s : Int) : List (List Int) := if gridB g s = true then formsG s.toNat g else []
theorem formsG_list (n : Nat) (g : List Int) : formsG n g = [pickL (formAt n 0) g, pickL (formAt n 1) g, pickL (formAt n 2) g, pickL (formAt n 3) g, pickL (formAt n 4) g, pickL (formAt n 5) g, pickL (formAt n 6) g, pickL (formAt n 7) g] := rfl
theorem form0 {g : List Int} {n : Nat} (hg : g.length = n * n) : pickL (formAt n 0) g = g := by rw [formP_zero, ← hg, pickL_range]
theorem impl_forms_step (g : List Int) (n : Nat) (h : gridB g n = true) (i : Nat) (hi : i < 8) (j : Nat) (hj : j < 4) (out x18 : List (List Int)) (hl : out.length ≤ 100) (x20 : Int) {r : List (List Int)}
    (hr : Ev (fun k => impl_GridForms.l1 k n (out ++ [pickL (formAt n i) g]) (pickL (formAt n (mulFn 1 i)) g) x18 (x18.length : Int) x20 ((j + 1 : Nat) : Int)) r) :
    Ev (fun k => impl_GridForms.l1 k n out (pickL (formAt n i) g) x18 (x18.length : Int) x20 j) r := by
  have hw : wrap64 ((j : Int) + 1) = ((j + 1 : Nat) : Int) := by rw [w64 (by omega) (by omega)]; omega
  obtain ⟨m, e, hm, hlg⟩ := gridB_n h
  obtain rfl : n = m := by omega
  have hnn : n * n ≤ 16 := by rcases hm with rfl | rfl | rfl <;> decide
  refine Ev.step (f := fun k => (impl_GridTurn.f k (pickL (formAt n i) g) n).bind fun t => impl_GridForms.l1 k n (out ++ [pickL (formAt n i) g]) t x18 (x18.length : Int) x20 ((j + 1 : Nat) : Int)) (fun k => by rw [impl_GridForms.l1]; rw [if_pos (by omega), if_pos (by omega), hw]) ?_
  refine Ev.bind (impl_turn _ n (by rw [pickL_length, ((formP_table n hm).1 i hi).1]; omega)) ?_
  rw [turnV_form h i hi]
  exact hr
theorem impl_forms (g : List Int) (s : Int) (hl : g.length ≤ 17592186044415) : Ev (fun k => impl_GridForms.f k g s) (formsV g s) := by
  unfold impl_GridForms.f formsV
  refine Ev.bind (impl_gv g s (by omega)) ?_
  by_cases c : gridB g s = true
  rotate_left
  · rw [if_neg c]; exact Ev.ifn c (Ev.now _)
  rw [if_pos c]
  refine Ev.ifp c ?_
  have hc : slices_Clone_int_int.f g = some g := by
    show (if ([] : List Int).length + g.length < 17592186044416 then (some (([] : List Int) ++ g)) else none) = some g
    rw [if_pos (by simp; omega)]; rfl
  refine Ev.bindc hc (Ev.bind (impl_mirror g s (by omega)) ?_)
  obtain ⟨n, rfl, hn, hg⟩ := gridB_n c
  have hm : mirrorV g n = pickL (formAt n 4) g := by unfold mirrorV; rw [if_pos c]; rfl
  rw [hm]
  show Ev (fun k => impl_GridForms.l0 k n [] [g, pickL (formAt n 4) g] (([g, pickL (formAt n 4) g] : List (List Int)).length : Int) 0) _
  have hl2 : (([g, pickL (formAt n 4) g] : List (List Int)).length : Int) = 2 := rfl
  have w1 : wrap64 (0 + 1) = 1 := by decide +kernel
  have w2 : wrap64 (1 + 1) = 2 := by decide +kernel
  have e0 : (rd_L1 [g, pickL (formAt n 4) g] 0) = pickL (formAt n 0) g := by rw [form0 hg]; rfl
  have e1 : (rd_L1 [g, pickL (formAt n 4) g] 1) = pickL (formAt n 4) g := rfl
  refine Ev.step (f := fun k => impl_GridForms.l1 k n [] (pickL (formAt n 0) g) [g, pickL (formAt n 4) g] (([g, pickL (formAt n 4) g] : List (List Int)).length : Int) 0 ((0 : Nat) : Int)) (fun k => by rw [impl_GridForms.l0]; rw [if_pos (by rw [hl2]; omega), if_pos (by omega), if_pos (by rw [hl2]; omega), e0]; rfl) ?_
  refine impl_forms_step g n c 0 (by omega) 0 (by omega) _ _ (by simp) _ ?_
  refine impl_forms_step g n c 1 (by omega) 1 (by omega) _ _ (by simp) _ ?_
  refine impl_forms_step g n c 2 (by omega) 2 (by omega) _ _ (by simp) _ ?_
  refine impl_forms_step g n c 3 (by omega) 3 (by omega) _ _ (by simp) _ ?_
  refine Ev.step (fun k => by rw [impl_GridForms.l1, if_neg (by omega), w1]) ?_
  refine Ev.step (f := fun k => impl_GridForms.l1 k n ([] ++ [pickL (formAt n 0) g] ++ [pickL (formAt n 1) g] ++ [pickL (formAt n 2) g] ++ [pickL (formAt n 3) g]) (pickL (formAt n 4) g) [g, pickL (formAt n 4) g] (([g, pickL (formAt n 4) g] : List (List Int)).length : Int) 1 ((0 : Nat) : Int)) (fun k => by rw [impl_GridForms.l0]; rw [if_pos (by rw [hl2]; omega), if_pos (by omega), if_pos (by rw [hl2]; omega), e1]; rfl) ?_
  refine impl_forms_step g n c 4 (by omega) 0 (by omega) _ _ (by simp) _ ?_
  refine impl_forms_step g n c 5 (by omega) 1 (by omega) _ _ (by simp) _ ?_
  refine impl_forms_step g n c 6 (by omega) 2 (by omega) _ _ (by simp) _ ?_
  refine impl_forms_step g n c 7 (by omega) 3 (by omega) _ _ (by simp) _ ?_
  refine Ev.step (fun k => by rw [impl_GridForms.l1, if_neg (by omega), w2]) ?_
  exact (Ev.step (f := fun k => some _) (fun k => by rw [impl_GridForms.l0]; rw [if_neg (by rw [hl2]; omega)]; rfl) (Ev.now _)).eq rfl
theorem formsV_len (g : List Int) (s : Int) : (formsV g s).length ≤ 8 := by unfold formsV; split <;> simp [formsG, formP]
theorem spec_gv_l (g : List Int) (s : Int) (hn : g.length ≤ 35184372088832) : ∀ (d i : Nat), g.length = i + d → Ev (fun k => spec_GridValid.l0 k g s i) (decide ((∀ v ∈ g.drop i, 0 ≤ v ∧ v ≤ s) ∧ (2 ≤ s ∧ s ≤ 4) ∧ (g.length : Int) = s * s)) := by
  intro d
  induction d with
  | zero =>
    intro i hi
    refine Ev.step (f := fun _ => (spec_l1In.f s 2 4).bind fun t => (if t = true then (some ((g.length : Int) == (wrap64 (s * s)))) else (some false))) (fun k => by rw [spec_GridValid.l0]; rw [if_neg (by omega)]) ?_
    refine Ev.bindc (l1In_f s 2 4) ?_
    rw [List.drop_eq_nil_of_le (by omega)]
    by_cases c : 2 ≤ s ∧ s ≤ 4
    · refine Ev.ifp (by simp [c]) ((Ev.now _).eq ?_)
      rw [(gridB_mul c.1 c.2).1, Bool.eq_iff_iff]; simp [c]
    · refine Ev.ifn (by simpa using c) ((Ev.now _).eq ?_)
      rw [Bool.eq_iff_iff]; simp only [Bool.false_eq_true, decide_eq_true_eq, false_iff]; exact fun h => c h.2.1
  | succ d ih =>
    intro i hi
    have hlt : i < g.length := by omega
    have hw : wrap64 ((i : Int) + 1) = ((i + 1 : Nat) : Int) := by rw [w64 (by omega) (by omega)]; omega
    refine Ev.step (f := fun k => (spec_l1In.f g[i] 0 s).bind fun t => (if t = true then (spec_GridValid.l0 k g s ((i + 1 : Nat) : Int)) else (some false))) (fun k => by rw [spec_GridValid.l0]; rw [if_pos (by omega), if_pos (by omega), rd_nat g i hlt, hw]) ?_
    refine Ev.bindc (l1In_f _ _ _) ?_
    rw [List.drop_eq_getElem_cons hlt]
    by_cases c : 0 ≤ g[i] ∧ g[i] ≤ s
    · refine Ev.ifp (by simp [c]) ((ih (i + 1) (by omega)).eq ?_)
      rw [Bool.eq_iff_iff]; simp only [decide_eq_true_eq, List.mem_cons, forall_eq_or_imp, c, true_and, and_self]
    · refine Ev.ifn (by simpa using c) ((Ev.now _).eq ?_)
      rw [Bool.eq_iff_iff]; simp only [Bool.false_eq_true, decide_eq_true_eq, false_iff]; exact fun h => c (h.1 _ (List.mem_cons_self ..))
theorem spec_gv (g : List Int) (s : Int) (hn : g.length ≤ 35184372088832) : Ev (fun k => spec_GridValid.f k g s) (gridB g s) := by
  unfold spec_GridValid.f
  refine (spec_gv_l g s hn g.length 0 (by omega)).eq ?_
  unfold gridB
  rw [Bool.eq_iff_iff]; simp only [decide_eq_true_eq, List.drop_zero]
  exact ⟨fun h => ⟨h.2.1, h.2.2, h.1⟩, fun h => ⟨h.2.2, h.1, h.2.1⟩⟩

theorem spec_turn_ix (n : Nat) (hn : n = 2 ∨ n = 3 ∨ n = 4) : ∀ m, m < n * n → wrap64 (wrap64 (wrap64 (wrap64 ((n : Int) - 1) - Int.tmod (m : Int) (n : Int)) * (n : Int)) + wrap64 (Int.tdiv (m : Int) (n : Int))) = (((turnP n).getD m 0 : Nat) : Int) ∧ (turnP n).getD m 0 < n * n := by
  rcases hn with rfl | rfl | rfl <;> decide +kernel
theorem spec_turn_l (g : List Int) (n : Nat) (hn : n = 2 ∨ n = 3 ∨ n = 4) (hg : g.length = n * n) (hv : gridB g n = true) : ∀ (e m : Nat), n * n = m + e → Ev (fun k => spec_GridTurn.l0 k g n ((pickL (turnP n) g).take m) m) (pickL (turnP n) g) := by
  intro e
  have hnn : n * n ≤ 16 := by rcases hn with rfl | rfl | rfl <;> decide
  induction e with
  | zero =>
    intro m hm
    refine Ev.step (f := fun _ => some ((pickL (turnP n) g).take m)) (fun k => by rw [spec_GridTurn.l0]; rw [if_neg (by omega)]) ((Ev.now _).eq ?_)
    exact pick_all _ _ _ (by rw [turnP_len]; omega)
  | succ e ih =>
    intro m hm
    have hw : wrap64 ((m : Int) + 1) = ((m + 1 : Nat) : Int) := by rw [w64 (by omega) (by omega)]; omega
    obtain ⟨i1, i2⟩ := spec_turn_ix n hn m (by omega)
    refine Ev.step (fun k => by rw [spec_GridTurn.l0, if_pos (by omega)]) ?_
    refine Ev.bind (spec_gv g n (by omega)) (Ev.ifp hv (Ev.ifn (by omega) ?_))
    refine Ev.congr (fun k => by rw [i1, if_pos (by omega), if_pos (by omega), if_pos (by rw [List.length_take, pickL_length, turnP_len]; omega), hw, pick_take _ _ _ (by rw [turnP_len]; omega)]) (ih (m + 1) (by omega))
theorem spec_turn (g : List Int) (s : Int) (hl : g.length ≤ 35184372088832) : Ev (fun k => spec_GridTurn.f k g s) (turnV g s) := by
  unfold spec_GridTurn.f turnV
  by_cases c : gridB g s = true
  · rw [if_pos c]
    obtain ⟨n, rfl, hn, hg⟩ := gridB_n c
    have := spec_turn_l g n hn hg c (n * n) 0 (by omega)
    simpa using this
  · rw [if_neg c]
    by_cases c2 : 0 < g.length
    · refine Ev.step (fun k => by rw [spec_GridTurn.l0, if_pos (by omega)]) ?_
      exact Ev.bind (spec_gv g s hl) (Ev.ifn c (Ev.now _))
    · exact Ev.step (f := fun _ => some []) (fun k => by rw [spec_GridTurn.l0]; rw [if_neg (by omega)]) (Ev.now _)

theorem spec_mirror_ix (n : Nat) (hn : n = 2 ∨ n = 3 ∨ n = 4) : ∀ m, m < n * n → wrap64 (wrap64 (wrap64 (wrap64 (wrap64 (Int.tdiv (m : Int) (n : Int)) * (n : Int)) + (n : Int)) - 1) - Int.tmod (m : Int) (n : Int)) = (((mirrorP n).getD m 0 : Nat) : Int) ∧ (mirrorP n).getD m 0 < n * n := by
  rcases hn with rfl | rfl | rfl <;> decide +kernel
theorem spec_mirror_l (g : List Int) (n : Nat) (hn : n = 2 ∨ n = 3 ∨ n = 4) (hg : g.length = n * n) (hv : gridB g n = true) : ∀ (e m : Nat), n * n = m + e → Ev (fun k => spec_GridMirror.l0 k g n ((pickL (mirrorP n) g).take m) m) (pickL (mirrorP n) g) := by
  intro e
  have hnn : n * n ≤ 16 := by rcases hn with rfl | rfl | rfl <;> decide
  induction e with
  | zero =>
    intro m hm
    refine Ev.step (f := fun _ => some ((pickL (mirrorP n) g).take m)) (fun k => by rw [spec_GridMirror.l0]; rw [if_neg (by omega)]) ((Ev.now _).eq ?_)
    exact pick_all _ _ _ (by rw [mirrorP_len]; omega)
  | succ e ih =>
    intro m hm
    have hw : wrap64 ((m : Int) + 1) = ((m + 1 : Nat) : Int) := by rw [w64 (by omega) (by omega)]; omega
    obtain ⟨i1, i2⟩ := spec_mirror_ix n hn m (by omega)
    refine Ev.step (fun k => by rw [spec_GridMirror.l0, if_pos (by omega)]) ?_
    refine Ev.bind (spec_gv g n (by omega)) (Ev.ifp hv (Ev.ifn (by omega) ?_))
    refine Ev.congr (fun k => by rw [i1, if_pos (by omega), if_pos (by omega), if_pos (by rw [List.length_take, pickL_length, mirrorP_len]; omega), hw, pick_take _ _ _ (by rw [mirrorP_len]; omega)]) (ih (m + 1) (by omega))
theorem spec_mirror (g : List Int) (s : Int) (hl : g.length ≤ 35184372088832) : Ev (fun k => spec_GridMirror.f k g s) (mirrorV g s) := by
  unfold spec_GridMirror.f mirrorV
  by_cases c : gridB g s = true
  · rw [if_pos c]
    obtain ⟨n, rfl, hn, hg⟩ := gridB_n c
    have := spec_mirror_l g n hn hg c (n * n) 0 (by omega)
    simpa using this
  · rw [if_neg c]
    by_cases c2 : 0 < g.length
    · refine Ev.step (fun k => by rw [spec_GridMirror.l0, if_pos (by omega)]) ?_
      exact Ev.bind (spec_gv g s hl) (Ev.ifn c (Ev.now _))
    · exact Ev.step (f := fun _ => some []) (fun k => by rw [spec_GridMirror.l0]; rw [if_neg (by omega)]) (Ev.now _)
theorem spec_forms_step (g : List Int) (n : Nat) (h : gridB g n = true) (i : Nat) (hi : i < 8) (j : Nat) (hj : j < 8) (hj4 : j ≠ 4) (out : List (List Int)) (hl : out.length ≤ 100) {r : List (List Int)}
    (hr : Ev (fun k => spec_GridForms.l0 k g n (out ++ [pickL (formAt n i) g]) (pickL (formAt n (mulFn 1 i)) g) ((j + 1 : Nat) : Int)) r) :
    Ev (fun k => spec_GridForms.l0 k g n out (pickL (formAt n i) g) j) r := by
  have hw : wrap64 ((j : Int) + 1) = ((j + 1 : Nat) : Int) := by rw [w64 (by omega) (by omega)]; omega
  obtain ⟨m, e, hm, hlg⟩ := gridB_n h
  obtain rfl : n = m := by omega
  have hnn : n * n ≤ 16 := by rcases hm with rfl | rfl | rfl <;> decide
  refine Ev.step (f := fun k => (spec_GridTurn.f k (pickL (formAt n i) g) n).bind fun t => spec_GridForms.l0 k g n (out ++ [pickL (formAt n i) g]) t ((j + 1 : Nat) : Int)) (fun k => by rw [spec_GridForms.l0]; rw [if_pos (by omega), if_neg (by omega), if_pos (by omega), hw]) ?_
  refine Ev.bind (spec_turn _ n (by rw [pickL_length, ((formP_table n hm).1 i hi).1]; omega)) ?_
  rw [turnV_form h i hi]
  exact hr
theorem spec_forms (g : List Int) (s : Int) (hl : g.length ≤ 4398046511103) : Ev (fun k => spec_GridForms.f k g s) (formsV g s) := by
  unfold spec_GridForms.f formsV
  refine Ev.bind (spec_gv g s (by omega)) ?_
  by_cases c : gridB g s = true
  rotate_left
  · rw [if_neg c]; exact Ev.ifn c (Ev.now _)
  rw [if_pos c]
  refine Ev.ifp c (Ev.ifp (by omega) ?_)
  obtain ⟨n, rfl, hn, hg⟩ := gridB_n c
  have hnn : n * n ≤ 16 := by rcases hn with rfl | rfl | rfl <;> decide
  have hm : mirrorV g n = pickL (formAt n 4) g := by unfold mirrorV; rw [if_pos c]; rfl
  show Ev (fun k => spec_GridForms.l0 k g n [] g ((0 : Nat) : Int)) _
  rw [show (fun k => spec_GridForms.l0 k g n [] g ((0 : Nat) : Int)) = (fun k => spec_GridForms.l0 k g n [] (pickL (formAt n 0) g) ((0 : Nat) : Int)) by rw [form0 hg]]
  refine spec_forms_step g n c 0 (by omega) 0 (by omega) (by omega) _ (by simp) ?_
  refine spec_forms_step g n c 1 (by omega) 1 (by omega) (by omega) _ (by simp) ?_
  refine spec_forms_step g n c 2 (by omega) 2 (by omega) (by omega) _ (by simp) ?_
  refine spec_forms_step g n c 3 (by omega) 3 (by omega) (by omega) _ (by simp) ?_
  have w5 : wrap64 ((((3 + 1 : Nat) : Nat) : Int) + 1) = ((4 + 1 : Nat) : Int) := by decide +kernel
  refine Ev.step (fun k => by rw [spec_GridForms.l0, if_pos (by omega), if_pos (by omega), w5]) ?_
  refine Ev.bind (spec_mirror g n (by omega)) ?_
  refine Ev.ifp (by simp) ?_
  rw [hm]
  refine Ev.bind (spec_turn _ n (by rw [pickL_length, ((formP_table n hn).1 4 (by omega)).1]; omega)) ?_
  rw [turnV_form c 4 (by omega)]
  refine spec_forms_step g n c 5 (by omega) 5 (by omega) (by omega) _ (by simp) ?_
  refine spec_forms_step g n c 6 (by omega) 6 (by omega) (by omega) _ (by simp) ?_
  refine spec_forms_step g n c 7 (by omega) 7 (by omega) (by omega) _ (by simp) ?_
  exact (Ev.step (f := fun k => some _) (fun k => by rw [spec_GridForms.l0]; rw [if_neg (by omega)]; rfl) (Ev.now _)).eq rfl
theorem impl_lc (n : Nat) (hn : n = 2 ∨ n = 3 ∨ n = 4) : ∀ i : Nat, i < 2 * n → impl_LineCells.f 40 (n : Int) (i : Int) = some (lineZ n i) := by
  rcases hn with rfl | rfl | rfl <;> decide +kernel
theorem impl_lc_ev (n : Nat) (hn : n = 2 ∨ n = 3 ∨ n = 4) (i : Nat) (hi : i < 2 * n) : Ev (fun k => impl_LineCells.f k (n : Int) (i : Int)) (lineZ n i) :=
  Ev.of (fun k => impl_LineCells.mono _ _ k) (impl_lc n hn i hi)
theorem fits_l1 (g : List Int) (n : Nat) (hn : n = 2 ∨ n = 3 ∨ n = 4) (hg : g.length = n * n) (hv : ∀ v ∈ g, 0 ≤ v ∧ v ≤ (n : Int)) (i : Nat) (hi : i < 2 * n) (q : Int) {r : Bool} (hr : Ev (fun k => impl_SquareFits.l0 k g n q ((i + 1 : Nat) : Int)) r) :
    ∀ (e j : Nat) (s : List Bool) (d : List Int), n = j + e → s.length = 5 → (∀ u : Nat, u < 5 → (rdOf false s (u : Int) = true ↔ (u : Int) ∈ d)) → Ev (fun k => impl_SquareFits.l1 k g n q i (lineZ n i) s j) (!(dupL d ((pickL (lineAt n i) g).drop j)) && r) := by
  have hlen : (lineAt n i).length = n := lineP_shape n hn i hi
  have hzl : (lineZ n i).length = n := by unfold lineZ; rw [List.length_map]; exact hlen
  have hw0 : wrap64 ((i : Int) + 1) = ((i + 1 : Nat) : Int) := wsucc i (ile hn hi)
  intro e
  induction e with
  | zero =>
    intro j s d hj hs hd
    have p0 : ¬ ((j : Int) < ((lineZ n i).length : Int)) := fun h => jnl hj (by rw [hzl] at h; exact Int.ofNat_lt.1 h)
    have p1 : (pickL (lineAt n i) g).length ≤ j := by rw [pickL_length, hlen]; exact Nat.le_of_not_lt (jnl hj)
    refine Ev.step (f := fun k => impl_SquareFits.l0 k g n q ((i + 1 : Nat) : Int)) (fun k => by rw [impl_SquareFits.l1]; rw [if_neg p0, hw0]) (hr.eq ?_)
    rw [List.drop_eq_nil_of_le p1]; rfl
  | succ e ih =>
    intro j s d hj hs hd
    have hlt : j < (lineAt n i).length := by rw [hlen]; exact jlt hj
    have hw : wrap64 ((j : Int) + 1) = ((j + 1 : Nat) : Int) := wsucc j (jle hn (jlt hj))
    have p1 : (j : Int) < ((lineZ n i).length : Int) := by rw [hzl]; exact Int.ofNat_lt.2 (jlt hj)
    have p2 : (0 : Int) ≤ (j : Int) := Int.natCast_nonneg j
    have je : n = (j + 1) + e := jnx hj
    have hc : rd (lineZ n i) (j : Int) = (((lineAt n i).getD j 0 : Nat) : Int) := by
      unfold lineZ rd
      simp only [Int.toNat_natCast, List.getD_eq_getElem?_getD, List.getElem?_map]
      show ((lineAt n i)[j]?.map fun (j : Nat) => (j : Int)).getD 0 = _
      rw [List.getElem?_eq_getElem hlt]; rfl
    have hcl : (lineAt n i).getD j 0 < n * n := by
      refine lineAt_lt n hn i hi _ ?_
      rw [List.getD_eq_getElem?_getD, List.getElem?_eq_getElem hlt]; exact List.getElem_mem hlt
    rw [pick_drop _ _ _ hlt]
    have hvv := hv _ (rd_mem g (((lineAt n i).getD j 0 : Nat) : Int) (Int.natCast_nonneg _) (by rw [hg]; exact Int.ofNat_lt.2 hcl))
    generalize hcc : (((lineAt n i).getD j 0 : Nat) : Int) = c at hc hvv
    have hcl2 : c < (g.length : Int) := by rw [← hcc, hg]; exact Int.ofNat_lt.2 hcl
    have hc0 : 0 ≤ c := by rw [← hcc]; exact Int.natCast_nonneg _
    obtain ⟨v, hvn⟩ := Int.eq_ofNat_of_zero_le hvv.1
    rw [hvn] at hvv ⊢
    have hv5 : v < 5 := lt5 n v hn hvv.2
    have p3 : (0 : Int) ≤ (v : Int) := hvv.1
    have p4 : (v : Int) < 5 := Int.ofNat_lt.2 hv5
    have nx := ih (j + 1) (s.set v true) ((v : Int) :: d) je (by rw [List.length_set]; exact hs) (fun u hu => by
      rw [List.mem_cons, ← hd u hu]
      simp only [rdOf, Int.toNat_natCast, List.getD_eq_getElem?_getD, List.getElem?_set]
      by_cases c : v = u
      · subst c; rw [if_pos rfl, if_pos (by rw [hs]; exact hv5)]; simp
      · rw [if_neg c]
        exact ⟨fun h => Or.inr h, fun h => h.elim (fun h => absurd (Int.ofNat.inj h).symm c) id⟩)
    by_cases c1 : (v : Int) > 0
    · by_cases c2 : (v : Int) ∈ d
      · have e2 : dupL d ((v : Int) :: (pickL (lineAt n i) g).drop (j + 1)) = true := by simp only [dupL]; rw [if_pos ⟨c1, c2⟩]
        rw [e2]
        refine Ev.step (f := fun _ => some false) (fun k => ?_) ((Ev.now _).eq (by simp))
        rw [impl_SquareFits.l1]; rw [if_pos p1, if_pos p2, hc, if_pos hc0, if_pos hcl2, hvn, if_pos p3, if_pos p4, if_pos c1, if_pos ((hd v hv5).2 c2)]
      · have e2 : dupL d ((v : Int) :: (pickL (lineAt n i) g).drop (j + 1)) = dupL ((v : Int) :: d) ((pickL (lineAt n i) g).drop (j + 1)) := by simp only [dupL]; rw [if_neg (fun h => c2 h.2)]
        rw [e2]
        refine Ev.step (fun k => ?_) nx
        rw [impl_SquareFits.l1]; rw [if_pos p1, if_pos p2, hc, if_pos hc0, if_pos hcl2, hvn, if_pos p3, if_pos p4, if_pos c1, if_neg (fun h => c2 ((hd v hv5).1 h)), hw, Int.toNat_natCast]
    · have e2 : dupL d ((v : Int) :: (pickL (lineAt n i) g).drop (j + 1)) = dupL ((v : Int) :: d) ((pickL (lineAt n i) g).drop (j + 1)) := by simp only [dupL]; rw [if_neg (fun h => c1 h.1)]
      rw [e2]
      refine Ev.step (fun k => ?_) nx
      rw [impl_SquareFits.l1]; rw [if_pos p1, if_pos p2, hc, if_pos hc0, if_pos hcl2, hvn, if_pos p3, if_pos p4, if_neg c1, hw, Int.toNat_natCast]
theorem fits_l0 (g : List Int) (n : Nat) (hn : n = 2 ∨ n = 3 ∨ n = 4) (hg : g.length = n * n) (hv : ∀ v ∈ g, 0 ≤ v ∧ v ≤ (n : Int)) :
    ∀ (e i : Nat), 2 * n = i + e → Ev (fun k => impl_SquareFits.l0 k g n ((2 * n : Nat) : Int) i) (!(((lineP n).drop i).any fun L => dupL [] (pickL L g))) := by
  intro e
  induction e with
  | zero =>
    intro i hi
    refine Ev.step (f := fun _ => some true) (fun k => by rw [impl_SquareFits.l0]; rw [if_neg (by omega)]) ((Ev.now _).eq ?_)
    rw [List.drop_eq_nil_of_le (by rw [lineP_len]; omega)]; rfl
  | succ e ih =>
    intro i hi
    refine Ev.step (fun k => by rw [impl_SquareFits.l0, if_pos (by omega)]) (Ev.bind (impl_lc_ev n hn i (by omega)) ?_)
    rw [any_from _ _ [] i (by rw [lineP_len]; omega), Bool.not_or]
    exact fits_l1 g n hn hg hv i (by omega) _ (ih (i + 1) (by omega)) n 0 [false, false, false, false, false] [] (by omega) rfl (fun u hu => by
      have : u = 0 ∨ u = 1 ∨ u = 2 ∨ u = 3 ∨ u = 4 := by omega
      rcases this with rfl | rfl | rfl | rfl | rfl <;> simp [rdOf])
/-- Whether a grid fits. -/
def fitsV (g : List Int) (s : Int) : Bool := gridB g s && fitsG s.toNat g
theorem impl_fits (g : List Int) (s : Int) (hl : g.length ≤ 35184372088832) : Ev (fun k => impl_SquareFits.f k g s) (fitsV g s) := by
  unfold impl_SquareFits.f fitsV
  refine Ev.bind (impl_gv g s hl) ?_
  by_cases c : gridB g s = true
  · obtain ⟨n, rfl, hn, hg⟩ := gridB_n c
    have hw2 : wrap64 (2 * (n : Int)) = ((2 * n : Nat) : Int) := by rw [w64 (by omega) (by omega)]; omega
    refine Ev.ifp c ?_
    rw [hw2]
    refine (fits_l0 g n hn hg (gridB_true c).2.2 (2 * n) 0 (by omega)).eq ?_
    rw [c, Int.toNat_natCast, fitsG_any]; simp
  · refine Ev.ifn c ((Ev.now _).eq ?_)
    rw [Bool.eq_false_iff.mpr c]; rfl
theorem forms_val (n : Nat) (hn : n = 2 ∨ n = 3 ∨ n = 4) (g : List Int) (v : gridB g n = true) : ∀ x ∈ formsV g n, fitsV x n = fitsV g n ∧ x.length ≤ 16 := by
  intro x hx
  obtain ⟨m, e, _, hl⟩ := gridB_n v
  obtain rfl : n = m := by omega
  have hnn : n * n ≤ 16 := by rcases hn with rfl | rfl | rfl <;> decide
  unfold formsV at hx
  rw [if_pos v, Int.toNat_natCast] at hx
  obtain ⟨p, hp, rfl⟩ := List.mem_map.1 hx
  obtain ⟨i, hi, e0⟩ := List.mem_iff_getElem.1 hp
  have hi8 : i < 8 := by simpa [formP] using hi
  have e : p = formAt n i := by rw [← e0, formAt, List.getD_eq_getElem?_getD, List.getElem?_eq_getElem hi]; rfl
  rw [e]
  refine ⟨?_, by rw [pickL_length, ((formP_table n hn).1 i hi8).1]; exact hnn⟩
  unfold fitsV
  rw [v, gridB_form v i hi8, Int.toNat_natCast, fits_form n hn g hl i hi8]
theorem rd_L1_nat (t : List (List Int)) (i : Nat) (h : i < t.length) : rd_L1 t (i : Int) = t[i] := by
  simp [rd_L1, List.getD_eq_getElem?_getD, h]
theorem forms_loop (n : Nat) (g : List Int) (hg : g.length ≤ 16) (t : List (List Int)) (ht : t.length = 8) (h0 : rd_L1 t 0 = g) (hok : ∀ x ∈ t, fitsV x n = fitsV g n ∧ x.length ≤ 16) : ∀ (d i : Nat), t.length = i + d → Ev (fun k => laws_FnGridForms.l0 k g n t t i) true := by
  intro d
  induction d with
  | zero =>
    intro i hi
    refine Ev.step (fun k => by rw [laws_FnGridForms.l0, if_neg (by omega), if_pos (by omega), if_pos (by omega)]) ?_
    rw [h0]
    exact Ev.bind (sameInts_self g (by omega)) (Ev.now _)
  | succ d ih =>
    intro i hi
    have hlt : i < t.length := by omega
    have hw : wrap64 ((i : Int) + 1) = ((i + 1 : Nat) : Int) := by rw [w64 (by omega) (by omega)]; omega
    obtain ⟨h1, h2⟩ := hok _ (List.getElem_mem hlt)
    have i1 := impl_fits t[i] n (by omega)
    rw [h1] at i1
    refine Ev.step (fun k => by rw [laws_FnGridForms.l0, if_pos (by omega), if_pos (by omega), if_pos (by omega), rd_L1_nat t i hlt, hw]) ?_
    exact Ev.bind (sameInts_self _ (by omega)) (Ev.ifp rfl (Ev.bind i1 (Ev.bind (impl_fits g n (by omega)) (Ev.ifn (by simp) (ih (i + 1) (by omega))))))
theorem FnGridForms : laws_FnGridForms.Pure := by
  intro l hm hl hx
  apply Ev.rounds
  unfold laws_FnGridForms.f
  by_cases c : (l.length : Int) > 1048576
  · exact Ev.ifp c (Ev.now _)
  refine Ev.ifn c ?_
  obtain ⟨b, e, hB⟩ := open_ok l hm hx
  obtain ⟨r, hr, hg⟩ := grid_any hB 9 (by omega)
  have hd : Ev (fun k => spec_DrawGridForms.f k l) (r.1, r.2.1) := by
    unfold spec_DrawGridForms.f
    exact Ev.bindc e (Ev.bind hr (Ev.now _))
  generalize r.1 = g at hd hg
  generalize r.2.1 = s at hd
  clear hr r hB e b
  refine Ev.bind hd ?_
  show Ev (fun k => (impl_GridForms.f k g s).bind _) _
  refine Ev.bind (impl_forms g s (by omega)) (Ev.bind (spec_forms g s (by omega)) (Ev.ifp rfl ?_))
  by_cases v : gridB g s = true
  · obtain ⟨n, rfl, hn, hgl⟩ := gridB_n v
    have h8 : (formsV g n).length = 8 := by unfold formsV; rw [if_pos v]; simp [formsG, formP]
    refine Ev.ifn (by omega) ?_
    refine forms_loop n g hg _ h8 ?_ (forms_val n hn g v) _ 0 (by rw [Nat.zero_add])
    unfold formsV; rw [if_pos v, Int.toNat_natCast, formsG_list, form0 hgl]; rfl
  · have hv : formsV g s = [] := by unfold formsV; rw [if_neg v]
    rw [hv]
    exact Ev.ifp (by simp) (Ev.bind alive_ev (Ev.now _))

end Go.Proofs.Ytniinbnpdnajjaa.Pure
