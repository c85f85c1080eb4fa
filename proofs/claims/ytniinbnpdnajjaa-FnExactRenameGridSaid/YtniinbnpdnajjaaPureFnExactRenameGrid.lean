/- For every grid and size RenameGrid of the program returns the same grid as RenameGrid of the reference, in memory of its own, and leaves its argument as it was. No conditions beyond the arguments being ints. -/
import Derived.Test.YtniinbnpdnajjaaPFnExactRenameGridx2
namespace Go.Proofs.Ytniinbnpdnajjaa.Pure
open Go.RowKit Go.Proofs.Ytniinbnpdnajjaa.PFnExactRenameGrid Go.Proofs.YtniinbnpdnajjaaW.PrintWords Go.Proofs.YtniinbnpdnajjaaW.PrintLast Go.Proofs.YtniinbnpdnajjaaW.PrintMore
set_option linter.unusedVariables false
set_option linter.unusedSimpArgs false
/-! Ev: small steps. -/
theorem _root_.Go.Proofs.YtniinbnpdnajjaaW.PrintWords.Ev.ifp {α : Type} {c : Prop} [Decidable c] {g f : Nat → Option α} {r : α} (hc : c) (h : Ev g r) : Ev (fun k => if c then g k else f k) r :=
  Ev.congr (fun _ => if_pos hc) h
theorem _root_.Go.Proofs.YtniinbnpdnajjaaW.PrintWords.Ev.ifn {α : Type} {c : Prop} [Decidable c] {g f : Nat → Option α} {r : α} (hc : ¬ c) (h : Ev f r) : Ev (fun k => if c then g k else f k) r :=
  Ev.congr (fun _ => if_neg hc) h
theorem _root_.Go.Proofs.YtniinbnpdnajjaaW.PrintWords.Ev.bindc {α β : Type} {o : Option α} {f : Nat → α → Option β} {a : α} {r : β} (h : o = some a) (k : Ev (fun n => f n a) r) : Ev (fun n => o.bind (f n)) r := by
  subst h; exact k
theorem _root_.Go.Proofs.YtniinbnpdnajjaaW.PrintWords.Ev.eq {α : Type} {g : Nat → Option α} {r r' : α} (h : Ev g r) (e : r = r') : Ev g r' := e ▸ h
theorem _root_.Go.Proofs.YtniinbnpdnajjaaW.PrintWords.Ev.cst {α : Type} {o : Option α} {r : α} (h : o = some r) : Ev (fun _ => o) r := ⟨0, fun _ _ => h⟩
theorem w64 {x : Int} (h0 : -9223372036854775808 ≤ x) (h1 : x ≤ 9223372036854775807) : wrap64 x = x := by unfold wrap64; omega
theorem wf_i64 {x : Int} (h : (Lit.int .i64 x).wf = true) : -9223372036854775808 ≤ x ∧ x ≤ 9223372036854775807 := by
  have h2 : (decide (IntKind.i64.min ≤ x) && decide (x ≤ IntKind.i64.max)) = true := h
  simp [IntKind.min, IntKind.max, IntKind.bits, IntKind.signed] at h2
  exact h2
theorem wf_u8 {x : Int} (h : (Lit.int .u8 x).wf = true) : 0 ≤ x ∧ x ≤ 255 := by
  have h2 : (decide (IntKind.u8.min ≤ x) && decide (x ≤ IntKind.u8.max)) = true := h
  simp [IntKind.min, IntKind.max, IntKind.bits, IntKind.signed] at h2
  omega
theorem rd_nat (xs : List Int) (i : Nat) (h : i < xs.length) : rd xs (i : Int) = xs[i] := by
  simp [rd, List.getD_eq_getElem?_getD, h]
theorem rd_mem (xs : List Int) (i : Int) (h0 : 0 ≤ i) (h : i < xs.length) : rd xs i ∈ xs := by
  obtain ⟨n, rfl⟩ := Int.eq_ofNat_of_zero_le h0
  rw [rd_nat xs n (by omega)]; exact List.getElem_mem _
theorem toIntS_l (xs : List Int) (hn : xs.length ≤ 35184372088832) : ∀ (d : Nat) (ys : List Int) (i : Nat), ys.length = xs.length → xs.length = i + d →
    Ev (fun k => laws_toIntS.l0 k xs ys i) (ys.take i ++ xs.drop i) := by
  intro d
  induction d with
  | zero =>
    intro ys i hy hi
    refine Ev.step (f := fun _ => some ys) (fun k => ?_) ((Ev.now _).eq ?_)
    · rw [laws_toIntS.l0]; rw [if_neg (by omega)]
    · rw [List.drop_eq_nil_of_le (by omega), List.take_of_length_le (by omega)]; simp
  | succ d ih =>
    intro ys i hy hi
    have hw : wrap64 ((i : Int) + 1) = ((i + 1 : Nat) : Int) := by rw [w64 (by omega) (by omega)]; omega
    have hlt : i < xs.length := by omega
    refine Ev.step (f := fun k => laws_toIntS.l0 k xs (ys.set i xs[i]) ((i + 1 : Nat) : Int)) (fun k => ?_) ((ih (ys.set i xs[i]) (i + 1) (by simp [hy]) (by omega)).eq ?_)
    · rw [laws_toIntS.l0]; rw [if_pos (by omega), if_pos (by omega), if_pos (by omega), rd_nat xs i hlt, hw]; simp
    · rw [List.take_add_one, List.take_set_of_le (Nat.le_refl i), List.drop_eq_getElem_cons hlt]
      simp [show i < ys.length by omega]
theorem toIntS_ev (xs : List Int) (hn : xs.length ≤ 35184372088832) : Ev (fun k => laws_toIntS.f k xs) xs := by
  unfold laws_toIntS.f
  refine Ev.ifp (by omega) (Ev.ifp (by omega) ?_)
  have h := toIntS_l xs hn xs.length (List.replicate xs.length 0) 0 (by simp) (by omega)
  simpa using h
theorem eqIntS_l (a b : List Int) (h : a.length = b.length) (hl : a.length ≤ 140737488351232) : ∀ (d i : Nat), a.length = i + d → Ev (fun k => laws_eqIntS.l0 k a b i) (decide (a.drop i = b.drop i)) := by
  intro d
  induction d with
  | zero =>
    intro i hi
    refine Ev.step (f := fun _ => some (decide (a.drop i = b.drop i))) (fun k => ?_) (Ev.now _)
    rw [laws_eqIntS.l0]; rw [if_neg (by omega), List.drop_eq_nil_of_le (by omega), List.drop_eq_nil_of_le (by omega)]; simp
  | succ d ih =>
    intro i hi
    have ha : i < a.length := by omega
    have hb : i < b.length := by omega
    have hw : wrap64 ((i : Int) + 1) = ((i + 1 : Nat) : Int) := by rw [w64 (by omega) (by omega)]; omega
    by_cases c : a[i] = b[i]
    · refine Ev.step (f := fun k => laws_eqIntS.l0 k a b ((i + 1 : Nat) : Int)) (fun k => ?_) ((ih (i + 1) (by omega)).eq ?_)
      · rw [laws_eqIntS.l0]; rw [if_pos (by omega), if_pos (by omega), if_pos (by omega), rd_nat a i ha, rd_nat b i hb, if_pos c, hw]
      · rw [List.drop_eq_getElem_cons ha, List.drop_eq_getElem_cons hb, c]; simp only [List.cons.injEq, true_and]
    · refine Ev.step (f := fun k => some false) (fun k => ?_) ((Ev.now _).eq ?_)
      · rw [laws_eqIntS.l0]; rw [if_pos (by omega), if_pos (by omega), if_pos (by omega), rd_nat a i ha, rd_nat b i hb, if_neg c]
      · rw [List.drop_eq_getElem_cons ha, List.drop_eq_getElem_cons hb]; simp only [List.cons.injEq, c, false_and, decide_false]
theorem eqIntS_ev (a b : List Int) (hl : a.length ≤ 140737488351232) : Ev (fun k => laws_eqIntS.f k a b) (decide (a = b)) := by
  unfold laws_eqIntS.f
  by_cases h : a.length = b.length
  · exact Ev.ifp (by omega) ((eqIntS_l a b h hl a.length 0 (by omega)).eq (by simp))
  · refine Ev.ifn (by omega) ((Ev.now false).eq ?_)
    symm; simp; intro e; exact h (by rw [e])
theorem eqIntS_self (a : List Int) (hl : a.length ≤ 140737488351232) : Ev (fun k => laws_eqIntS.f k a a) true := (eqIntS_ev a a hl).eq (by simp)
/-- k, k + 1, .. -/
def upFrom (k : Int) : Nat → List Int
  | 0 => []
  | n + 1 => k :: upFrom (k + 1) n
theorem upFrom_length (n : Nat) : ∀ k, (upFrom k n).length = n := by
  induction n with
  | zero => intro k; rfl
  | succ n ih => intro k; simp [upFrom, ih]
theorem upFrom_get (n : Nat) : ∀ (k : Int) (i : Nat) (h : i < (upFrom k n).length), (upFrom k n)[i] = k + i := by
  induction n with
  | zero => intro k i h; simp [upFrom] at h
  | succ n ih =>
    intro k i h
    cases i with
    | zero => simp [upFrom]
    | succ i => simp only [upFrom, List.getElem_cons_succ]; rw [ih]; omega
theorem markIntS_l (n : Nat) : ∀ (d : Nat) (xs : List Int) (q : Int) (i : Nat), xs.length = n → n = i + d → 0 ≤ q → q + d ≤ 9223372036854775806 → n ≤ 140737488351232 →
    Ev (fun k => laws_markIntS.l0 k xs q i) (q + d, xs.take i ++ upFrom q d) := by
  intro d
  induction d with
  | zero =>
    intro xs q i hx hi h0 h1 hn
    refine Ev.step (f := fun _ => some (q, xs)) (fun k => ?_) ((Ev.now _).eq ?_)
    · rw [laws_markIntS.l0]; rw [if_neg (by omega)]
    · simp [upFrom]; exact (List.take_of_length_le (by omega)).symm
  | succ d ih =>
    intro xs q i hx hi h0 h1 hn
    have hw : wrap64 ((i : Int) + 1) = ((i + 1 : Nat) : Int) := by rw [w64 (by omega) (by omega)]; omega
    have hq : wrap64 (q + 1) = q + 1 := w64 (by omega) (by omega)
    refine Ev.step (f := fun k => laws_markIntS.l0 k (xs.set i q) (q + 1) ((i + 1 : Nat) : Int)) (fun k => ?_) ((ih (xs.set i q) (q + 1) (i + 1) (by simp [hx]) (by omega) (by omega) (by omega) hn).eq ?_)
    · rw [laws_markIntS.l0]; rw [if_pos (by omega), if_pos (by omega), hw, hq]; simp
    · refine Prod.ext (by simp; omega) ?_
      simp only [upFrom]
      rw [List.take_add_one, List.take_set_of_le (Nat.le_refl i)]
      simp [show i < xs.length by omega]
theorem markIntS_ev (xs : List Int) (q : Int) (h0 : 0 ≤ q) (h1 : q ≤ 1000000000) (hn : xs.length ≤ 140737488351232) :
    Ev (fun k => laws_markIntS.f k xs q) (q + xs.length, upFrom q xs.length) := by
  unfold laws_markIntS.f
  exact (markIntS_l xs.length xs.length xs q 0 rfl (by omega) h0 (by omega) hn).eq (by simp)
theorem heldIntS_l (q0 : Int) (h0 : 0 ≤ q0) (h1 : q0 ≤ 1000000000) (n : Nat) (hn : n ≤ 140737488351232) : ∀ (d i : Nat), n = i + d →
    Ev (fun k => laws_heldIntS.l0 k (upFrom q0 n) (q0 + i) i) (q0 + n) := by
  intro d
  induction d with
  | zero =>
    intro i hi
    refine Ev.step (f := fun _ => some (q0 + i)) (fun k => ?_) ((Ev.now _).eq (by omega))
    rw [laws_heldIntS.l0]; rw [upFrom_length, if_neg (by omega)]
  | succ d ih =>
    intro i hi
    have hw : wrap64 ((i : Int) + 1) = ((i + 1 : Nat) : Int) := by rw [w64 (by omega) (by omega)]; omega
    have hq : wrap64 (q0 + i + 1) = q0 + ((i + 1 : Nat) : Int) := by rw [w64 (by omega) (by omega)]; omega
    refine Ev.step (f := fun k => laws_heldIntS.l0 k (upFrom q0 n) (q0 + ((i + 1 : Nat) : Int)) ((i + 1 : Nat) : Int)) (fun k => ?_) (ih (i + 1) (by omega))
    rw [laws_heldIntS.l0]
    rw [upFrom_length, if_pos (by omega), if_pos (by omega), rd_nat _ i (by rw [upFrom_length]; omega), upFrom_get, if_pos rfl, hw, hq]
theorem heldIntS_ev (q : Int) (h0 : 0 ≤ q) (h1 : q ≤ 1000000000) (n : Nat) (hn : n ≤ 140737488351232) :
    Ev (fun k => laws_heldIntS.f k (upFrom q n) q) (q + n) := by
  unfold laws_heldIntS.f
  have h := heldIntS_l q h0 h1 n hn n 0 (by omega)
  simpa using h
/-! Forms of grids, plainly. -/
/-- The grid read at these places. -/
def pickL (p : List Nat) (g : List Int) : List Int := p.map fun j => g.getD j 0
def turnP (s : Nat) : List Nat := (List.range (s * s)).map fun k => (s - 1 - k % s) * s + k / s
def mirrorP (s : Nat) : List Nat := (List.range (s * s)).map fun k => k / s * s + (s - 1 - k % s)
/-- Places: first p, then q's own. -/
def compP (p q : List Nat) : List Nat := p.map fun j => q.getD j 0
/-- The eight forms' places. -/
def formP (s : Nat) : List (List Nat) :=
  let t := turnP s
  let e := List.range (s * s)
  let m := mirrorP s
  [e, t, compP t t, compP t (compP t t), m, compP t m, compP t (compP t m), compP t (compP t (compP t m))]
theorem pickL_comp (p q : List Nat) (g : List Int) (h : ∀ j ∈ p, j < q.length) : pickL p (pickL q g) = pickL (compP p q) g := by
  unfold pickL compP
  rw [List.map_map]
  apply List.map_congr_left
  intro j hj
  have := h j hj
  simp [List.getD_eq_getElem?_getD, this]
theorem pickL_range (g : List Int) : pickL (List.range g.length) g = g := by
  unfold pickL
  apply List.ext_getElem (by simp)
  intro i h1 h2
  simp [List.getD_eq_getElem?_getD, h2]
theorem pickL_length (p : List Nat) (g : List Int) : (pickL p g).length = p.length := by simp [pickL]
theorem pickL_map (p : List Nat) (g : List Int) (f : Int → Int) (h : ∀ j ∈ p, j < g.length) : pickL p (g.map f) = (pickL p g).map f := by
  unfold pickL
  rw [List.map_map]
  apply List.map_congr_left
  intro j hj
  have := h j hj
  simp [List.getD_eq_getElem?_getD, this]
theorem pickL_mem (p : List Nat) (g : List Int) (h : ∀ j ∈ p, j < g.length) : ∀ v ∈ pickL p g, v ∈ g := by
  intro v hv
  obtain ⟨j, hj, rfl⟩ := List.mem_map.1 hv
  have := h j hj
  simp [List.getD_eq_getElem?_getD, this]
/-! renaming -/
def firstsG (d : List Int) : List Int → List Int
  | [] => d
  | v :: g => firstsG (if v > 0 ∧ v ∉ d then d ++ [v] else d) g
def nmG (d : List Int) (v : Int) : Int := if v > 0 then (d.idxOf v : Int) + 1 else 0
def renG (g : List Int) : List Int := g.map (nmG (firstsG [] g))
theorem firstsG_mono (g : List Int) : ∀ d v, v ∈ d → v ∈ firstsG d g := by
  induction g with
  | nil => intro d v h; exact h
  | cons x g ih =>
    intro d v h
    refine ih _ v ?_
    split <;> simp [h]
theorem firstsG_all (g : List Int) : ∀ d v, v ∈ g → v > 0 → v ∈ firstsG d g := by
  induction g with
  | nil => intro d v h; cases h
  | cons x g ih =>
    intro d v h hv
    rcases List.mem_cons.1 h with rfl | h
    · refine firstsG_mono g _ v ?_
      by_cases c : v ∈ d
      · simp [c]
      · simp [c, hv]
    · exact ih _ v h hv
theorem firstsG_pos (g : List Int) : ∀ d, (∀ v ∈ d, v > 0) → ∀ v ∈ firstsG d g, v > 0 := by
  induction g with
  | nil => intro d h; exact h
  | cons x g ih =>
    intro d h
    refine ih _ ?_
    split
    · rename_i c
      intro v hv
      rcases List.mem_append.1 hv with hv | hv
      · exact h v hv
      · simp at hv; omega
    · exact h
theorem firstsG_sub (g : List Int) : ∀ d v, v ∈ firstsG d g → v ∈ d ∨ (v ∈ g ∧ v > 0) := by
  induction g with
  | nil => intro d v h; exact Or.inl h
  | cons x g ih =>
    intro d v h
    rcases ih _ v h with h | ⟨h, h2⟩
    · split at h
      · rename_i c
        rcases List.mem_append.1 h with h | h
        · exact Or.inl h
        · simp at h; subst h; exact Or.inr ⟨by simp, c.1⟩
      · exact Or.inl h
    · exact Or.inr ⟨by simp [h], h2⟩
/-- A change of names. -/
structure Names (f : Int → Int) (g : List Int) : Prop where
  pos : ∀ v ∈ g, (f v > 0 ↔ v > 0)
  inj : ∀ v ∈ g, ∀ u ∈ g, v > 0 → u > 0 → f v = f u → v = u
theorem Names.sub {f : Int → Int} {g g' : List Int} (h : Names f g) (hs : ∀ v ∈ g', v ∈ g) : Names f g' :=
  ⟨fun v hv => h.pos v (hs v hv), fun v hv u hu => h.inj v (hs v hv) u (hs u hu)⟩
theorem firstsG_map (f : Int → Int) (g : List Int) : ∀ (d G : List Int), Names f G → (∀ v ∈ d, v ∈ G ∧ v > 0) → (∀ v ∈ g, v ∈ G) → firstsG (d.map f) (g.map f) = (firstsG d g).map f := by
  induction g with
  | nil => intro d G hN hd hg; rfl
  | cons x g ih =>
    intro d G hN hd hg
    have hx : x ∈ G := hg x (by simp)
    have hg' : ∀ v ∈ g, v ∈ G := fun v hv => hg v (by simp [hv])
    show firstsG (if f x > 0 ∧ f x ∉ d.map f then d.map f ++ [f x] else d.map f) (g.map f) = (firstsG (if x > 0 ∧ x ∉ d then d ++ [x] else d) g).map f
    by_cases c : x > 0 ∧ x ∉ d
    · have hfx : f x ∉ d.map f := by
        intro hm
        obtain ⟨y, hy, e⟩ := List.mem_map.1 hm
        have := hN.inj y (hd y hy).1 x hx (hd y hy).2 c.1 e
        exact c.2 (this ▸ hy)
      rw [if_pos ⟨(hN.pos x hx).2 c.1, hfx⟩, if_pos c]
      have := ih (d ++ [x]) G hN (by
        intro v hv
        rcases List.mem_append.1 hv with hv | hv
        · exact hd v hv
        · simp at hv; subst hv; exact ⟨hx, c.1⟩) hg'
      rw [List.map_append] at this
      exact this
    · have hc' : ¬ (f x > 0 ∧ f x ∉ d.map f) := by
        rintro ⟨h1, h2⟩
        apply c
        refine ⟨(hN.pos x hx).1 h1, fun hm => h2 (List.mem_map_of_mem hm)⟩
      rw [if_neg hc', if_neg c]
      exact ih d G hN hd hg'
theorem idxOf_map (f : Int → Int) (v : Int) : ∀ (d : List Int), (∀ u ∈ d, f u = f v → u = v) → (d.map f).idxOf (f v) = d.idxOf v := by
  intro d
  induction d with
  | nil => intro _; rfl
  | cons x d ih =>
    intro h
    simp only [List.map_cons, List.idxOf_cons]
    by_cases c : x = v
    · subst c; simp
    · have : f x ≠ f v := fun e => c (h x (by simp) e)
      simp only [beq_eq_false_iff_ne.2 c, beq_eq_false_iff_ne.2 this, cond_false]
      rw [ih (fun u hu => h u (by simp [hu]))]
theorem renG_map (f : Int → Int) (g : List Int) (h : Names f g) : renG (g.map f) = renG g := by
  unfold renG
  have e : firstsG [] (g.map f) = (firstsG [] g).map f := by
    have := firstsG_map f g [] g h (by simp) (fun v hv => hv)
    simpa using this
  rw [e, List.map_map]
  apply List.map_congr_left
  intro v hv
  show nmG _ (f v) = nmG _ v
  unfold nmG
  by_cases c : v > 0
  · rw [if_pos ((h.pos v hv).2 c), if_pos c, idxOf_map]
    intro u hu e
    rcases firstsG_sub g [] u hu with hu | ⟨hu, hu2⟩
    · cases hu
    · exact h.inj u hu v hv hu2 c e
  · rw [if_neg c, if_neg (fun h' => c ((h.pos v hv).1 h'))]
theorem nmG_names (g : List Int) : Names (nmG (firstsG [] g)) g := by
  constructor
  · intro v hv
    unfold nmG
    by_cases c : v > 0
    · rw [if_pos c]; simp only [c, iff_true]; omega
    · rw [if_neg c]; omega
  · intro v hv u hu h1 h2 e
    unfold nmG at e
    rw [if_pos h1, if_pos h2] at e
    have a1 := List.idxOf_lt_length_of_mem (firstsG_all g [] v hv h1)
    have a2 := List.idxOf_lt_length_of_mem (firstsG_all g [] u hu h2)
    have e1 : (firstsG [] g).idxOf v = (firstsG [] g).idxOf u := by omega
    have b1 := List.getElem_idxOf a1
    have b2 := List.getElem_idxOf a2
    rw [← b1, ← b2]
    congr 1
theorem renG_ren (g : List Int) : renG (renG g) = renG g := renG_map _ g (nmG_names g)
theorem renG_pick (p : List Nat) (g : List Int) (h : ∀ j ∈ p, j < g.length) : renG (pickL p (renG g)) = renG (pickL p g) := by
  rw [show renG g = g.map (nmG (firstsG [] g)) from rfl, pickL_map p g _ h]
  exact renG_map _ _ ((nmG_names g).sub (pickL_mem p g h))
theorem l1In_f (a b c : Int) : spec_l1In.f a b c = some (decide (b ≤ a ∧ a ≤ c)) := by
  unfold spec_l1In.f
  by_cases h : a ≥ b
  · rw [if_pos h]; simp; omega
  · rw [if_neg h]; simp; omega
/-- A valid grid. -/
def gridB (g : List Int) (s : Int) : Bool := decide ((2 ≤ s ∧ s ≤ 4) ∧ (g.length : Int) = s * s ∧ ∀ v ∈ g, 0 ≤ v ∧ v ≤ s)
theorem gridB_true {g : List Int} {s : Int} (h : gridB g s = true) : (2 ≤ s ∧ s ≤ 4) ∧ (g.length : Int) = s * s ∧ ∀ v ∈ g, 0 ≤ v ∧ v ≤ s := of_decide_eq_true h
theorem gridB_mul {s : Int} (h0 : 2 ≤ s) (h1 : s ≤ 4) : wrap64 (s * s) = s * s ∧ 4 ≤ s * s ∧ s * s ≤ 16 := by
  have : s = 2 ∨ s = 3 ∨ s = 4 := by omega
  rcases this with rfl | rfl | rfl <;> decide +kernel
theorem spec_gv_l (g : List Int) (s : Int) (hn : g.length ≤ 35184372088832) : ∀ (d i : Nat), g.length = i + d → Ev (fun k => spec_GridValid.l0 k g s i) (decide ((∀ v ∈ g.drop i, 0 ≤ v ∧ v ≤ s) ∧ (2 ≤ s ∧ s ≤ 4) ∧ (g.length : Int) = s * s)) := by
  intro d
  induction d with
  | zero =>
    intro i hi
    refine Ev.step (f := fun _ => (spec_l1In.f s 2 4).bind fun t => (if t = true then (some ((g.length : Int) == (wrap64 (s * s)))) else (some false))) (fun k => by rw [spec_GridValid.l0]; rw [if_neg (by omega)]) ?_
    refine Ev.bindc (l1In_f s 2 4) ?_
    rw [List.drop_eq_nil_of_le (by omega)]
    by_cases c : 2 ≤ s ∧ s ≤ 4
    · refine Ev.ifp (by simp [c]) ((Ev.now _).eq ?_)
      rw [(gridB_mul c.1 c.2).1, Bool.eq_iff_iff]; simp [c]
    · refine Ev.ifn (by simpa using c) ((Ev.now _).eq ?_)
      rw [Bool.eq_iff_iff]; simp only [Bool.false_eq_true, decide_eq_true_eq, false_iff]; exact fun h => c h.2.1
  | succ d ih =>
    intro i hi
    have hlt : i < g.length := by omega
    have hw : wrap64 ((i : Int) + 1) = ((i + 1 : Nat) : Int) := by rw [w64 (by omega) (by omega)]; omega
    refine Ev.step (f := fun k => (spec_l1In.f g[i] 0 s).bind fun t => (if t = true then (spec_GridValid.l0 k g s ((i + 1 : Nat) : Int)) else (some false))) (fun k => by rw [spec_GridValid.l0]; rw [if_pos (by omega), if_pos (by omega), rd_nat g i hlt, hw]) ?_
    refine Ev.bindc (l1In_f _ _ _) ?_
    rw [List.drop_eq_getElem_cons hlt]
    by_cases c : 0 ≤ g[i] ∧ g[i] ≤ s
    · refine Ev.ifp (by simp [c]) ((ih (i + 1) (by omega)).eq ?_)
      rw [Bool.eq_iff_iff]; simp only [decide_eq_true_eq, List.mem_cons, forall_eq_or_imp, c, true_and, and_self]
    · refine Ev.ifn (by simpa using c) ((Ev.now _).eq ?_)
      rw [Bool.eq_iff_iff]; simp only [Bool.false_eq_true, decide_eq_true_eq, false_iff]; exact fun h => c (h.1 _ (List.mem_cons_self ..))
theorem spec_gv (g : List Int) (s : Int) (hn : g.length ≤ 35184372088832) : Ev (fun k => spec_GridValid.f k g s) (gridB g s) := by
  unfold spec_GridValid.f
  refine (spec_gv_l g s hn g.length 0 (by omega)).eq ?_
  unfold gridB
  rw [Bool.eq_iff_iff]; simp only [decide_eq_true_eq, List.drop_zero]
  exact ⟨fun h => ⟨h.2.1, h.2.2, h.1⟩, fun h => ⟨h.2.2, h.1, h.2.1⟩⟩
def stepG (d : List Int) (v : Int) : List Int := if v > 0 ∧ v ∉ d then d ++ [v] else d
theorem firstsG_tail (g : List Int) : ∀ d, ∃ t, firstsG d g = d ++ t := by
  induction g with
  | nil => intro d; exact ⟨[], by simp [firstsG]⟩
  | cons v g ih =>
    intro d
    obtain ⟨t, h⟩ := ih (stepG d v)
    show ∃ t, firstsG (stepG d v) g = d ++ t
    rw [h]; unfold stepG
    split
    · exact ⟨v :: t, by simp⟩
    · exact ⟨t, rfl⟩
theorem idxOf_app (v : Int) : ∀ (d t : List Int), v ∈ d → (d ++ t).idxOf v = d.idxOf v
  | [], t, h => by cases h
  | x :: d, t, h => by
    simp only [List.cons_append, List.idxOf_cons]
    by_cases c : x = v
    · subst c; simp
    · simp only [beq_eq_false_iff_ne.2 c, cond_false]
      rcases List.mem_cons.1 h with e | h
      · exact absurd e.symm c
      · rw [idxOf_app v d t h]
theorem nmG_stab (d g : List Int) (v : Int) (h : v > 0 → v ∈ d) : nmG (firstsG d g) v = nmG d v := by
  obtain ⟨t, e⟩ := firstsG_tail g d
  unfold nmG
  by_cases c : v > 0
  · rw [if_pos c, if_pos c, e, idxOf_app v d t (h c)]
  · rw [if_neg c, if_neg c]
theorem stepG_mem (d : List Int) (v : Int) : v > 0 → v ∈ stepG d v := by
  intro h
  unfold stepG
  by_cases c : v ∈ d
  · rw [if_neg (fun h2 => h2.2 c)]; exact c
  · rw [if_pos ⟨h, c⟩]; simp
/-- What the names' list holds. -/
def NamesOf (s : Int) (y d : List Int) : Prop := (y.length : Int) ≥ s + 1 ∧ ∀ v, 0 ≤ v → v ≤ s → rd y v = if v > 0 ∧ v ∈ d then (d.idxOf v : Int) + 1 else 0
theorem rd_set (y : List Int) (v u x : Int) (hv : 0 ≤ v) (hu : 0 ≤ u) (hl : v < y.length) : rd (y.set v.toNat x) u = if u = v then x else rd y u := by
  obtain ⟨n, rfl⟩ := Int.eq_ofNat_of_zero_le hv
  obtain ⟨m, rfl⟩ := Int.eq_ofNat_of_zero_le hu
  simp only [rd, Int.toNat_natCast, List.getD_eq_getElem?_getD, List.getElem?_set]
  by_cases c : n = m
  · subst c; rw [if_pos rfl, if_pos rfl, if_pos (by omega)]; rfl
  · rw [if_neg c, if_neg (by omega)]
theorem namesOf_set {s : Int} {y d : List Int} (h : NamesOf s y d) (v : Int) (hv : v > 0) (hs : v ≤ s) (hd : v ∉ d) : NamesOf s (y.set v.toNat (d.length + 1)) (stepG d v) := by
  refine ⟨by rw [List.length_set]; exact h.1, fun u h0 h1 => ?_⟩
  rw [rd_set y v u _ (by omega) h0 (by have := h.1; omega), show stepG d v = d ++ [v] from if_pos ⟨hv, hd⟩]
  by_cases c : u = v
  · subst c; rw [if_pos rfl, if_pos ⟨hv, by simp⟩, List.idxOf_append]; simp [hd]
  · rw [if_neg c, h.2 u h0 h1]
    by_cases c2 : u ∈ d
    · simp only [List.mem_append, c2, true_or]; rw [idxOf_app u d _ c2]
    · simp [c2, c]
theorem namesOf_get {s : Int} {y d : List Int} (h : NamesOf s y d) (v : Int) (hv : 0 ≤ v) (hs : v ≤ s) (hd : v > 0 → v ∈ d) : rd y v = nmG d v := by
  rw [h.2 v hv hs]
  unfold nmG
  by_cases c : v > 0
  · rw [if_pos ⟨c, hd c⟩, if_pos c]
  · rw [if_neg (fun h2 => c h2.1), if_neg c]
theorem namesOf_zero {s : Int} {y d : List Int} (h : NamesOf s y d) (v : Int) (hv : v > 0) (hs : v ≤ s) : rd y v = 0 ↔ v ∉ d := by
  rw [h.2 v (by omega) hs]
  by_cases c : v ∈ d
  · rw [if_pos ⟨hv, c⟩]; simp only [c, not_true_eq_false, iff_false]; omega
  · rw [if_neg (fun h2 => c h2.2)]; simp [c]
theorem namesOf_start (s : Int) (y : List Int) (h : (y.length : Int) ≥ s + 1) (hz : ∀ v, 0 ≤ v → v ≤ s → rd y v = 0) : NamesOf s y [] :=
  ⟨h, fun v h0 h1 => by rw [hz v h0 h1]; simp⟩
theorem firstsG_cons (d : List Int) (v : Int) (g : List Int) : firstsG d (v :: g) = firstsG (stepG d v) g := rfl
theorem stepG_len (d : List Int) (v : Int) : (stepG d v).length ≤ d.length + 1 := by unfold stepG; split <;> simp
theorem spec_names_l (g : List Int) (s : Int) (hg : ∀ v ∈ g, 0 ≤ v ∧ v ≤ s) (hn : g.length ≤ 100000) : ∀ (n i : Nat) (y d o : List Int), g.length = i + n → NamesOf s y d → d.length ≤ i → o.length = i →
    Ev (fun k => spec_l11Names.l0 k g y (d.length + 1 : Int) o i) (o ++ (g.drop i).map (nmG (firstsG d (g.drop i)))) := by
  intro n
  induction n with
  | zero =>
    intro i y d o hi hy hd ho
    refine Ev.step (f := fun _ => some o) (fun k => by rw [spec_l11Names.l0]; rw [if_neg (by omega)]) ((Ev.now _).eq ?_)
    rw [List.drop_eq_nil_of_le (by omega)]; simp
  | succ n ih =>
    intro i y d o hi hy hd ho
    have hlt : i < g.length := by omega
    have hw : wrap64 ((i : Int) + 1) = ((i + 1 : Nat) : Int) := by rw [w64 (by omega) (by omega)]; omega
    have hw2 : wrap64 ((d.length : Int) + 1 + 1) = ((d.length + 1 : Nat) : Int) + 1 := by rw [w64 (by omega) (by omega)]; omega
    have hv := hg _ (List.getElem_mem hlt)
    have hy1 := hy.1
    rw [List.drop_eq_getElem_cons hlt, firstsG_cons]
    have hr := rd_nat g i hlt
    generalize g[i] = v at hv hr
    have fin : ∀ (y' : List Int), NamesOf s y' (stepG d v) → rd y' v = nmG (stepG d v) v := fun y' h => namesOf_get h v hv.1 hv.2 (stepG_mem d v)
    have nx : ∀ (y' : List Int) (q : Int), NamesOf s y' (stepG d v) → q = ((stepG d v).length : Int) + 1 → Ev (fun k => spec_l11Names.l0 k g y' q (o ++ [rd y' v]) ((i + 1 : Nat) : Int)) (o ++ (v :: g.drop (i + 1)).map (nmG (firstsG (stepG d v) (g.drop (i + 1))))) := by
      intro y' q hy' hq
      subst hq
      have := stepG_len d v
      refine (ih (i + 1) y' (stepG d v) (o ++ [rd y' v]) (by omega) hy' (by omega) (by simp [ho])).eq ?_
      rw [List.map_cons, nmG_stab _ _ v (stepG_mem d v), fin y' hy', List.append_assoc]; rfl
    by_cases c : v > 0
    · by_cases c2 : v ∈ d
      · have hst : stepG d v = d := by unfold stepG; rw [if_neg (fun h2 => h2.2 c2)]
        refine Ev.step (f := fun k => spec_l11Names.l0 k g y (d.length + 1 : Int) (o ++ [rd y v]) ((i + 1 : Nat) : Int)) (fun k => ?_) (nx y _ (by rw [hst]; exact hy) (by rw [hst]))
        rw [spec_l11Names.l0]; rw [if_pos (by omega : (i : Int) < (g.length : Int)), if_pos (by omega : (0 : Int) ≤ (i : Int)), hr, if_pos c, if_pos hv.1, if_pos (by omega), if_neg (by rw [namesOf_zero hy v c hv.2]; exact fun h => h c2), if_pos (by omega), hw]
      · have hst : (stepG d v).length = d.length + 1 := by unfold stepG; rw [if_pos ⟨c, c2⟩]; simp
        refine Ev.step (f := fun k => spec_l11Names.l0 k g (y.set v.toNat (d.length + 1)) (((d.length + 1 : Nat) : Int) + 1) (o ++ [rd (y.set v.toNat (d.length + 1)) v]) ((i + 1 : Nat) : Int)) (fun k => ?_) (nx _ _ (namesOf_set hy v c hv.2 c2) (by rw [hst]))
        rw [spec_l11Names.l0]; rw [if_pos (by omega : (i : Int) < (g.length : Int)), if_pos (by omega : (0 : Int) ≤ (i : Int)), hr, if_pos c, if_pos hv.1, if_pos (by omega), if_pos ((namesOf_zero hy v c hv.2).2 c2), Option.bind_some, if_pos (by omega), hw, hw2]
    · have hst : stepG d v = d := by unfold stepG; rw [if_neg (fun h2 => c h2.1)]
      refine Ev.step (f := fun k => spec_l11Names.l0 k g y (d.length + 1 : Int) (o ++ [rd y v]) ((i + 1 : Nat) : Int)) (fun k => ?_) (nx y _ (by rw [hst]; exact hy) (by rw [hst]))
      rw [spec_l11Names.l0]; rw [if_pos (by omega : (i : Int) < (g.length : Int)), if_pos (by omega : (0 : Int) ≤ (i : Int)), hr, if_neg c, if_pos hv.1, if_pos (by omega), if_pos (by omega), hw]
theorem spec_ren (g : List Int) (s : Int) (h : gridB g s = true) : Ev (fun k => spec_l11Names.f k g s) (renG g) := by
  obtain ⟨h1, h2, h3⟩ := gridB_true h
  have hm := gridB_mul h1.1 h1.2
  have hw : wrap64 (s + 1) = s + 1 := w64 (by omega) (by omega)
  unfold spec_l11Names.f
  rw [hw]
  refine Ev.ifp (by omega) (Ev.ifp (by omega) ?_)
  have := spec_names_l g s h3 (by omega) g.length 0 (List.replicate (s + 1).toNat 0) [] [] (by omega) (namesOf_start s _ (by rw [List.length_replicate]; omega) (fun v h0 h1 => by
    simp only [rd, List.getD_eq_getElem?_getD, List.getElem?_replicate]; rw [if_pos (by omega)]; rfl)) (by simp) rfl
  simpa [renG] using this
/-- The renamed grid, or nothing. -/
def renV (g : List Int) (s : Int) : List Int := if gridB g s = true then renG g else []
theorem spec_rename (g : List Int) (s : Int) (hn : g.length ≤ 35184372088832) : Ev (fun k => spec_RenameGrid.f k g s) (renV g s) := by
  unfold spec_RenameGrid.f renV
  refine Ev.bind (spec_gv g s hn) ?_
  by_cases c : gridB g s = true
  · rw [if_pos c]; refine Ev.ifp c (Ev.bind (spec_ren g s c) (Ev.now _))
  · rw [if_neg c]; exact Ev.ifn c (Ev.now _)
theorem sizeOk_f (s : Int) : impl_sizeOk.f s = some (decide (2 ≤ s ∧ s ≤ 4)) := by
  unfold impl_sizeOk.f
  by_cases h : s ≥ 2
  · rw [if_pos h]; simp; omega
  · rw [if_neg h]; simp; omega
theorem impl_gv_l (g : List Int) (s : Int) (hn : g.length ≤ 35184372088832) : ∀ (d i : Nat), g.length = i + d → Ev (fun k => impl_GridValid.l0 k s g (g.length : Int) i) (decide (∀ v ∈ g.drop i, 0 ≤ v ∧ v ≤ s)) := by
  intro d
  induction d with
  | zero =>
    intro i hi
    refine Ev.step (f := fun _ => some true) (fun k => by rw [impl_GridValid.l0]; rw [if_neg (by omega)]) ((Ev.now _).eq ?_)
    rw [List.drop_eq_nil_of_le (by omega)]; simp
  | succ d ih =>
    intro i hi
    have hlt : i < g.length := by omega
    have hw : wrap64 ((i : Int) + 1) = ((i + 1 : Nat) : Int) := by rw [w64 (by omega) (by omega)]; omega
    refine Ev.step (f := fun k => if g[i] < 0 then some false else if g[i] > s then some false else impl_GridValid.l0 k s g (g.length : Int) ((i + 1 : Nat) : Int)) (fun k => by rw [impl_GridValid.l0]; rw [if_pos (by omega), if_pos (by omega), if_pos (by omega), rd_nat g i hlt, hw]) ?_
    rw [List.drop_eq_getElem_cons hlt]
    by_cases c : 0 ≤ g[i] ∧ g[i] ≤ s
    · refine Ev.ifn (by omega) (Ev.ifn (by omega) ((ih (i + 1) (by omega)).eq ?_))
      rw [Bool.eq_iff_iff]; simp only [decide_eq_true_eq, List.mem_cons, forall_eq_or_imp, c, true_and, and_self]
    · by_cases c2 : g[i] < 0
      · refine Ev.ifp c2 ((Ev.now _).eq ?_)
        rw [Bool.eq_iff_iff]; simp only [Bool.false_eq_true, decide_eq_true_eq, false_iff]; exact fun h => c (h _ (List.mem_cons_self ..))
      · refine Ev.ifn c2 (Ev.ifp (by omega) ((Ev.now _).eq ?_))
        rw [Bool.eq_iff_iff]; simp only [Bool.false_eq_true, decide_eq_true_eq, false_iff]; exact fun h => c (h _ (List.mem_cons_self ..))
theorem impl_gv (g : List Int) (s : Int) (hn : g.length ≤ 35184372088832) : Ev (fun k => impl_GridValid.f k g s) (gridB g s) := by
  unfold impl_GridValid.f
  refine Ev.bindc (sizeOk_f s) ?_
  have e0 : ∀ (b : Bool), ¬ (b = true) → false = b := by intro b; cases b <;> simp
  by_cases c : 2 ≤ s ∧ s ≤ 4
  · refine Ev.ifp (by simp [c]) ?_
    have hm := gridB_mul c.1 c.2
    by_cases c2 : (g.length : Int) = s * s
    · refine Ev.step (f := fun k => impl_GridValid.l0 k s g (g.length : Int) 0) (fun k => by rw [impl_GridValid.j0]; rw [if_neg (by simp [hm.1, c2])]) ?_
      refine (impl_gv_l g s hn g.length 0 (by omega)).eq ?_
      unfold gridB; rw [Bool.eq_iff_iff]; simp [c, c2]
    · refine Ev.step (f := fun k => some false) (fun k => by rw [impl_GridValid.j0]; rw [if_pos (by simp [hm.1, c2])]) ((Ev.now _).eq (e0 _ ?_))
      unfold gridB; simp [c2]
  · refine Ev.ifn (by simpa using c) (Ev.step (f := fun k => some false) (fun k => by rw [impl_GridValid.j0]; rw [if_pos rfl]) ((Ev.now _).eq (e0 _ ?_)))
    unfold gridB; simp; intro h1 h2; exact absurd ⟨h1, h2⟩ c
theorem impl_names_l (g : List Int) (s : Int) (hs : s ≤ 4) (hg : ∀ v ∈ g, 0 ≤ v ∧ v ≤ s) (hn : g.length ≤ 100000) : ∀ (n i : Nat) (y d o : List Int), g.length = i + n → NamesOf s y d → d.length ≤ i → o.length = g.length →
    Ev (fun k => impl_RenameGrid.l0 k g y (d.length : Int) o i) (o.take i ++ (g.drop i).map (nmG (firstsG d (g.drop i)))) := by
  intro n
  induction n with
  | zero =>
    intro i y d o hi hy hd ho
    refine Ev.step (f := fun _ => some o) (fun k => by rw [impl_RenameGrid.l0]; rw [if_neg (by omega)]) ((Ev.now _).eq ?_)
    rw [List.drop_eq_nil_of_le (by omega), List.take_of_length_le (by omega)]; simp
  | succ n ih =>
    intro i y d o hi hy hd ho
    have hlt : i < g.length := by omega
    have hw : wrap64 ((i : Int) + 1) = ((i + 1 : Nat) : Int) := by rw [w64 (by omega) (by omega)]; omega
    have hw2 : wrap64 ((d.length : Int) + 1) = ((d.length + 1 : Nat) : Int) := by rw [w64 (by omega) (by omega)]; omega
    have hv := hg _ (List.getElem_mem hlt)
    have hy1 := hy.1
    rw [List.drop_eq_getElem_cons hlt, firstsG_cons]
    have hr := rd_nat g i hlt
    generalize g[i] = v at hv hr
    have nx : ∀ (y' : List Int) (q z : Int), NamesOf s y' (stepG d v) → q = ((stepG d v).length : Int) → z = nmG (stepG d v) v → Ev (fun k => impl_RenameGrid.l0 k g y' q (o.set i z) ((i + 1 : Nat) : Int)) (o.take i ++ (v :: g.drop (i + 1)).map (nmG (firstsG (stepG d v) (g.drop (i + 1))))) := by
      intro y' q z hy' hq hz
      subst hq
      have := stepG_len d v
      refine (ih (i + 1) y' (stepG d v) (o.set i z) (by omega) hy' (by omega) (by simp [ho])).eq ?_
      rw [List.map_cons, nmG_stab _ _ v (stepG_mem d v), ← hz, List.take_add_one, List.take_set_of_le (Nat.le_refl i)]
      simp [show i < o.length by omega]
    have it : (i : Int).toNat = i := by omega
    by_cases c : v > 0
    · by_cases c2 : v ∈ d
      · have hst : stepG d v = d := by unfold stepG; rw [if_neg (fun h2 => h2.2 c2)]
        refine Ev.step (f := fun k => impl_RenameGrid.l0 k g y (d.length : Int) (o.set i (rd y v)) ((i + 1 : Nat) : Int)) (fun k => ?_) (nx y _ _ (by rw [hst]; exact hy) (by rw [hst]) (by rw [hst]; exact namesOf_get hy v hv.1 hv.2 (fun _ => c2)))
        rw [impl_RenameGrid.l0]; rw [if_pos (by omega : (i : Int) < (g.length : Int)), if_pos (by omega : (0 : Int) ≤ (i : Int)), hr, if_pos hv.1, if_pos (by omega), if_pos (by omega), if_pos c, if_neg (by rw [namesOf_zero hy v c hv.2]; exact fun h => h c2), hw, it]
      · have hst : (stepG d v).length = d.length + 1 := by unfold stepG; rw [if_pos ⟨c, c2⟩]; simp
        have hy' := namesOf_set hy v c hv.2 c2
        refine Ev.step (f := fun k => impl_RenameGrid.l0 k g (y.set v.toNat ((d.length + 1 : Nat) : Int)) ((d.length + 1 : Nat) : Int) (o.set i ((d.length + 1 : Nat) : Int)) ((i + 1 : Nat) : Int)) (fun k => ?_) (nx _ _ _ hy' (by rw [hst]) (by
          rw [← namesOf_get hy' v hv.1 hv.2 (stepG_mem d v), rd_set _ _ _ _ hv.1 hv.1 (by omega), if_pos rfl]; omega))
        rw [impl_RenameGrid.l0]; rw [if_pos (by omega : (i : Int) < (g.length : Int)), if_pos (by omega : (0 : Int) ≤ (i : Int)), hr, if_pos hv.1, if_pos (by omega), if_pos (by omega), if_pos c, if_pos ((namesOf_zero hy v c hv.2).2 c2), hw, hw2, it]
    · have hst : stepG d v = d := by unfold stepG; rw [if_neg (fun h2 => c h2.1)]
      refine Ev.step (f := fun k => impl_RenameGrid.l0 k g y (d.length : Int) (o.set i (rd y v)) ((i + 1 : Nat) : Int)) (fun k => ?_) (nx y _ _ (by rw [hst]; exact hy) (by rw [hst]) (by rw [hst]; exact namesOf_get hy v hv.1 hv.2 (fun h => absurd h c)))
      rw [impl_RenameGrid.l0]; rw [if_pos (by omega : (i : Int) < (g.length : Int)), if_pos (by omega : (0 : Int) ≤ (i : Int)), hr, if_pos hv.1, if_pos (by omega), if_pos (by omega), if_neg c, hw, it]
theorem impl_rename (g : List Int) (s : Int) (hn : g.length ≤ 35184372088832) : Ev (fun k => impl_RenameGrid.f k g s) (renV g s) := by
  unfold impl_RenameGrid.f renV
  refine Ev.bind (impl_gv g s hn) ?_
  by_cases c : gridB g s = true
  · rw [if_pos c]
    obtain ⟨h1, h2, h3⟩ := gridB_true c
    have hm := gridB_mul h1.1 h1.2
    refine Ev.ifp c (Ev.ifp (by omega) ?_)
    have := impl_names_l g s h1.2 h3 (by omega) g.length 0 [0, 0, 0, 0, 0] [] (List.replicate (g.length : Int).toNat 0) (by omega) (namesOf_start s _ (by simp; omega) (fun v h0 h1 => by
      have : v = 0 ∨ v = 1 ∨ v = 2 ∨ v = 3 ∨ v = 4 := by omega
      rcases this with rfl | rfl | rfl | rfl | rfl <;> rfl)) (by simp) (by simp)
    simpa [renG] using this
  · rw [if_neg c]; exact Ev.ifn c (Ev.now _)
theorem renV_length (g : List Int) (s : Int) : (renV g s).length ≤ g.length := by
  unfold renV; split
  · simp [renG]
  · simp
theorem FnExactRenameGrid : laws_FnExactRenameGrid.Pure := by
  intro g s hm hl hx hs
  apply Ev.rounds
  unfold laws_FnExactRenameGrid.f
  by_cases c : (g.length : Int) > 1048576
  · exact Ev.ifp c (Ev.now _)
  refine Ev.ifn c ?_
  have hn : g.length ≤ 1048576 := by omega
  have hr := renV_length g s
  have T := toIntS_ev g (by omega)
  have E := eqIntS_self (renV g s) (by omega)
  refine Ev.bind T (Ev.bind (spec_rename g s (by omega)) (Ev.bind T (Ev.bind (impl_rename g s (by omega)) (Ev.bind E (Ev.ifp rfl ?_)))))
  refine Ev.bind T (Ev.bind (eqIntS_self g (by omega)) (Ev.ifp rfl (Ev.bind (markIntS_ev g 1 (by omega) (by omega) (by omega)) ?_)))
  refine Ev.ifn (by show ¬ (1 + (g.length : Int) < 0); omega) (Ev.bind E ?_)
  refine Ev.step (fun k => by rw [laws_FnExactRenameGrid.j0]) ?_
  refine Ev.ifn (by simp) ?_
  refine Ev.bind (markIntS_ev (renV g s) 1 (by omega) (by omega) (by omega)) (Ev.bind (heldIntS_ev 1 (by omega) (by omega) _ (by omega)) ?_)
  refine Ev.ifn (by omega) (Ev.ifp rfl ?_)
  refine Ev.bind T (Ev.bind (impl_rename g s (by omega)) (Ev.bind E (Ev.ifp rfl ?_)))
  refine Ev.bind (heldIntS_ev 1 (by omega) (by omega) _ (by omega)) ?_
  exact Ev.ifn (by omega) (Ev.ifp rfl (Ev.now _))

end Go.Proofs.Ytniinbnpdnajjaa.Pure
