/- For every grid and size GridForms of the program returns the same grids as GridForms of the reference, all of them in memory of their own, and leaves its argument as it was. No conditions beyond the arguments being ints. -/
import Derived.Test.YtniinbnpdnajjaaPFnExactGridFormsx4
namespace Go.Proofs.Ytniinbnpdnajjaa.Pure
open Go.RowKit Go.Proofs.Ytniinbnpdnajjaa.PFnExactGridForms Go.Proofs.YtniinbnpdnajjaaW.PrintWords Go.Proofs.YtniinbnpdnajjaaW.PrintLast Go.Proofs.YtniinbnpdnajjaaW.PrintMore
set_option linter.unusedVariables false
set_option linter.unusedSimpArgs false
/-! Ev: small steps. -/
theorem _root_.Go.Proofs.YtniinbnpdnajjaaW.PrintWords.Ev.ifp {α : Type} {c : Prop} [Decidable c] {g f : Nat → Option α} {r : α} (hc : c) (h : Ev g r) : Ev (fun k => if c then g k else f k) r :=
  Ev.congr (fun _ => if_pos hc) h
theorem _root_.Go.Proofs.YtniinbnpdnajjaaW.PrintWords.Ev.ifn {α : Type} {c : Prop} [Decidable c] {g f : Nat → Option α} {r : α} (hc : ¬ c) (h : Ev f r) : Ev (fun k => if c then g k else f k) r :=
  Ev.congr (fun _ => if_neg hc) h
theorem _root_.Go.Proofs.YtniinbnpdnajjaaW.PrintWords.Ev.bindc {α β : Type} {o : Option α} {f : Nat → α → Option β} {a : α} {r : β} (h : o = some a) (k : Ev (fun n => f n a) r) : Ev (fun n => o.bind (f n)) r := by
  subst h; exact k
theorem _root_.Go.Proofs.YtniinbnpdnajjaaW.PrintWords.Ev.eq {α : Type} {g : Nat → Option α} {r r' : α} (h : Ev g r) (e : r = r') : Ev g r' := e ▸ h
theorem _root_.Go.Proofs.YtniinbnpdnajjaaW.PrintWords.Ev.cst {α : Type} {o : Option α} {r : α} (h : o = some r) : Ev (fun _ => o) r := ⟨0, fun _ _ => h⟩
theorem w64 {x : Int} (h0 : -9223372036854775808 ≤ x) (h1 : x ≤ 9223372036854775807) : wrap64 x = x := by unfold wrap64; omega
theorem wf_i64 {x : Int} (h : (Lit.int .i64 x).wf = true) : -9223372036854775808 ≤ x ∧ x ≤ 9223372036854775807 := by
  have h2 : (decide (IntKind.i64.min ≤ x) && decide (x ≤ IntKind.i64.max)) = true := h
  simp [IntKind.min, IntKind.max, IntKind.bits, IntKind.signed] at h2
  exact h2
theorem wf_u8 {x : Int} (h : (Lit.int .u8 x).wf = true) : 0 ≤ x ∧ x ≤ 255 := by
  have h2 : (decide (IntKind.u8.min ≤ x) && decide (x ≤ IntKind.u8.max)) = true := h
  simp [IntKind.min, IntKind.max, IntKind.bits, IntKind.signed] at h2
  omega
theorem rd_nat (xs : List Int) (i : Nat) (h : i < xs.length) : rd xs (i : Int) = xs[i] := by
  simp [rd, List.getD_eq_getElem?_getD, h]
theorem rd_mem (xs : List Int) (i : Int) (h0 : 0 ≤ i) (h : i < xs.length) : rd xs i ∈ xs := by
  obtain ⟨n, rfl⟩ := Int.eq_ofNat_of_zero_le h0
  rw [rd_nat xs n (by omega)]; exact List.getElem_mem _
theorem toIntS_l (xs : List Int) (hn : xs.length ≤ 35184372088832) : ∀ (d : Nat) (ys : List Int) (i : Nat), ys.length = xs.length → xs.length = i + d →
    Ev (fun k => laws_toIntS.l0 k xs ys i) (ys.take i ++ xs.drop i) := by
  intro d
  induction d with
  | zero =>
    intro ys i hy hi
    refine Ev.step (f := fun _ => some ys) (fun k => ?_) ((Ev.now _).eq ?_)
    · rw [laws_toIntS.l0]; rw [if_neg (by omega)]
    · rw [List.drop_eq_nil_of_le (by omega), List.take_of_length_le (by omega)]; simp
  | succ d ih =>
    intro ys i hy hi
    have hw : wrap64 ((i : Int) + 1) = ((i + 1 : Nat) : Int) := by rw [w64 (by omega) (by omega)]; omega
    have hlt : i < xs.length := by omega
    refine Ev.step (f := fun k => laws_toIntS.l0 k xs (ys.set i xs[i]) ((i + 1 : Nat) : Int)) (fun k => ?_) ((ih (ys.set i xs[i]) (i + 1) (by simp [hy]) (by omega)).eq ?_)
    · rw [laws_toIntS.l0]; rw [if_pos (by omega), if_pos (by omega), if_pos (by omega), rd_nat xs i hlt, hw]; simp
    · rw [List.take_add_one, List.take_set_of_le (Nat.le_refl i), List.drop_eq_getElem_cons hlt]
      simp [show i < ys.length by omega]
theorem toIntS_ev (xs : List Int) (hn : xs.length ≤ 35184372088832) : Ev (fun k => laws_toIntS.f k xs) xs := by
  unfold laws_toIntS.f
  refine Ev.ifp (by omega) (Ev.ifp (by omega) ?_)
  have h := toIntS_l xs hn xs.length (List.replicate xs.length 0) 0 (by simp) (by omega)
  simpa using h
theorem eqIntS_l (a b : List Int) (h : a.length = b.length) (hl : a.length ≤ 140737488351232) : ∀ (d i : Nat), a.length = i + d → Ev (fun k => laws_eqIntS.l0 k a b i) (decide (a.drop i = b.drop i)) := by
  intro d
  induction d with
  | zero =>
    intro i hi
    refine Ev.step (f := fun _ => some (decide (a.drop i = b.drop i))) (fun k => ?_) (Ev.now _)
    rw [laws_eqIntS.l0]; rw [if_neg (by omega), List.drop_eq_nil_of_le (by omega), List.drop_eq_nil_of_le (by omega)]; simp
  | succ d ih =>
    intro i hi
    have ha : i < a.length := by omega
    have hb : i < b.length := by omega
    have hw : wrap64 ((i : Int) + 1) = ((i + 1 : Nat) : Int) := by rw [w64 (by omega) (by omega)]; omega
    by_cases c : a[i] = b[i]
    · refine Ev.step (f := fun k => laws_eqIntS.l0 k a b ((i + 1 : Nat) : Int)) (fun k => ?_) ((ih (i + 1) (by omega)).eq ?_)
      · rw [laws_eqIntS.l0]; rw [if_pos (by omega), if_pos (by omega), if_pos (by omega), rd_nat a i ha, rd_nat b i hb, if_pos c, hw]
      · rw [List.drop_eq_getElem_cons ha, List.drop_eq_getElem_cons hb, c]; simp only [List.cons.injEq, true_and]
    · refine Ev.step (f := fun k => some false) (fun k => ?_) ((Ev.now _).eq ?_)
      · rw [laws_eqIntS.l0]; rw [if_pos (by omega), if_pos (by omega), if_pos (by omega), rd_nat a i ha, rd_nat b i hb, if_neg c]
      · rw [List.drop_eq_getElem_cons ha, List.drop_eq_getElem_cons hb]; simp only [List.cons.injEq, c, false_and, decide_false]
theorem eqIntS_ev (a b : List Int) (hl : a.length ≤ 140737488351232) : Ev (fun k => laws_eqIntS.f k a b) (decide (a = b)) := by
  unfold laws_eqIntS.f
  by_cases h : a.length = b.length
  · exact Ev.ifp (by omega) ((eqIntS_l a b h hl a.length 0 (by omega)).eq (by simp))
  · refine Ev.ifn (by omega) ((Ev.now false).eq ?_)
    symm; simp; intro e; exact h (by rw [e])
theorem eqIntS_self (a : List Int) (hl : a.length ≤ 140737488351232) : Ev (fun k => laws_eqIntS.f k a a) true := (eqIntS_ev a a hl).eq (by simp)
/-- k, k + 1, .. -/
def upFrom (k : Int) : Nat → List Int
  | 0 => []
  | n + 1 => k :: upFrom (k + 1) n
theorem upFrom_length (n : Nat) : ∀ k, (upFrom k n).length = n := by
  induction n with
  | zero => intro k; rfl
  | succ n ih => intro k; simp [upFrom, ih]
theorem upFrom_get (n : Nat) : ∀ (k : Int) (i : Nat) (h : i < (upFrom k n).length), (upFrom k n)[i] = k + i := by
  induction n with
  | zero => intro k i h; simp [upFrom] at h
  | succ n ih =>
    intro k i h
    cases i with
    | zero => simp [upFrom]
    | succ i => simp only [upFrom, List.getElem_cons_succ]; rw [ih]; omega
theorem markIntS_l (n : Nat) : ∀ (d : Nat) (xs : List Int) (q : Int) (i : Nat), xs.length = n → n = i + d → 0 ≤ q → q + d ≤ 9223372036854775806 → n ≤ 140737488351232 →
    Ev (fun k => laws_markIntS.l0 k xs q i) (q + d, xs.take i ++ upFrom q d) := by
  intro d
  induction d with
  | zero =>
    intro xs q i hx hi h0 h1 hn
    refine Ev.step (f := fun _ => some (q, xs)) (fun k => ?_) ((Ev.now _).eq ?_)
    · rw [laws_markIntS.l0]; rw [if_neg (by omega)]
    · simp [upFrom]; exact (List.take_of_length_le (by omega)).symm
  | succ d ih =>
    intro xs q i hx hi h0 h1 hn
    have hw : wrap64 ((i : Int) + 1) = ((i + 1 : Nat) : Int) := by rw [w64 (by omega) (by omega)]; omega
    have hq : wrap64 (q + 1) = q + 1 := w64 (by omega) (by omega)
    refine Ev.step (f := fun k => laws_markIntS.l0 k (xs.set i q) (q + 1) ((i + 1 : Nat) : Int)) (fun k => ?_) ((ih (xs.set i q) (q + 1) (i + 1) (by simp [hx]) (by omega) (by omega) (by omega) hn).eq ?_)
    · rw [laws_markIntS.l0]; rw [if_pos (by omega), if_pos (by omega), hw, hq]; simp
    · refine Prod.ext (by simp; omega) ?_
      simp only [upFrom]
      rw [List.take_add_one, List.take_set_of_le (Nat.le_refl i)]
      simp [show i < xs.length by omega]
theorem markIntS_ev (xs : List Int) (q : Int) (h0 : 0 ≤ q) (h1 : q ≤ 1000000000) (hn : xs.length ≤ 140737488351232) :
    Ev (fun k => laws_markIntS.f k xs q) (q + xs.length, upFrom q xs.length) := by
  unfold laws_markIntS.f
  exact (markIntS_l xs.length xs.length xs q 0 rfl (by omega) h0 (by omega) hn).eq (by simp)
theorem heldIntS_l (q0 : Int) (h0 : 0 ≤ q0) (h1 : q0 ≤ 1000000000) (n : Nat) (hn : n ≤ 140737488351232) : ∀ (d i : Nat), n = i + d →
    Ev (fun k => laws_heldIntS.l0 k (upFrom q0 n) (q0 + i) i) (q0 + n) := by
  intro d
  induction d with
  | zero =>
    intro i hi
    refine Ev.step (f := fun _ => some (q0 + i)) (fun k => ?_) ((Ev.now _).eq (by omega))
    rw [laws_heldIntS.l0]; rw [upFrom_length, if_neg (by omega)]
  | succ d ih =>
    intro i hi
    have hw : wrap64 ((i : Int) + 1) = ((i + 1 : Nat) : Int) := by rw [w64 (by omega) (by omega)]; omega
    have hq : wrap64 (q0 + i + 1) = q0 + ((i + 1 : Nat) : Int) := by rw [w64 (by omega) (by omega)]; omega
    refine Ev.step (f := fun k => laws_heldIntS.l0 k (upFrom q0 n) (q0 + ((i + 1 : Nat) : Int)) ((i + 1 : Nat) : Int)) (fun k => ?_) (ih (i + 1) (by omega))
    rw [laws_heldIntS.l0]
    rw [upFrom_length, if_pos (by omega), if_pos (by omega), rd_nat _ i (by rw [upFrom_length]; omega), upFrom_get, if_pos rfl, hw, hq]
theorem heldIntS_ev (q : Int) (h0 : 0 ≤ q) (h1 : q ≤ 1000000000) (n : Nat) (hn : n ≤ 140737488351232) :
    Ev (fun k => laws_heldIntS.f k (upFrom q n) q) (q + n) := by
  unfold laws_heldIntS.f
  have h := heldIntS_l q h0 h1 n hn n 0 (by omega)
  simpa using h
theorem rdL_nat (xs : List (List Int)) (i : Nat) (h : i < xs.length) : rd_L1 xs (i : Int) = xs[i] := by
  simp [rd_L1, List.getD_eq_getElem?_getD, h]
theorem eqIntSS_self_l (a : List (List Int)) (hr : ∀ x ∈ a, x.length ≤ 140737488351232) (hl : a.length ≤ 140737488351232) : ∀ (d i : Nat), a.length = i + d → Ev (fun k => laws_eqIntSS.l0 k a a i) true := by
  intro d
  induction d with
  | zero => intro i hi; exact Ev.step (fun k => by rw [laws_eqIntSS.l0]) (Ev.ifn (by omega) (Ev.now _))
  | succ d ih =>
    intro i hi
    have hw : wrap64 ((i : Int) + 1) = ((i + 1 : Nat) : Int) := by rw [w64 (by omega) (by omega)]; omega
    have hlt : i < a.length := by omega
    refine Ev.step (fun k => by rw [laws_eqIntSS.l0]) ?_
    rw [rdL_nat a i hlt, hw]
    exact Ev.ifp (by omega) (Ev.ifp (by omega) (Ev.ifp (by omega) (Ev.bind (eqIntS_self _ (hr _ (List.getElem_mem hlt))) (Ev.ifp rfl (ih (i + 1) (by omega))))))
theorem eqIntSS_self (a : List (List Int)) (hr : ∀ x ∈ a, x.length ≤ 140737488351232) (hl : a.length ≤ 140737488351232) : Ev (fun k => laws_eqIntSS.f k a a) true := by
  unfold laws_eqIntSS.f
  exact Ev.ifp rfl (eqIntSS_self_l a hr hl a.length 0 (by omega))
/-! Marked rows of rows. -/
def totM : List (List Int) → Nat
  | [] => 0
  | x :: l => x.length + totM l
def mkRows (q : Int) : List (List Int) → List (List Int)
  | [] => []
  | r :: rs => upFrom q r.length :: mkRows (q + r.length) rs
theorem mkRows_length (l : List (List Int)) : ∀ q, (mkRows q l).length = l.length := by
  induction l with
  | nil => intro q; rfl
  | cons r l ih => intro q; simp [mkRows, ih]
theorem totM_drop (l : List (List Int)) (i : Nat) (h : i < l.length) : totM (l.drop i) = l[i].length + totM (l.drop (i + 1)) := by
  rw [List.drop_eq_getElem_cons h]; rfl
theorem markIntSS_l (n : Nat) : ∀ (d : Nat) (l : List (List Int)) (q : Int) (i : Nat), l.length = n → n = i + d → n ≤ 1000 → (∀ r ∈ l, r.length ≤ 1000000) → 0 ≤ q → q + totM (l.drop i) ≤ 900000000 →
    Ev (fun k => laws_markIntSS.l0 k l q i) (q + totM (l.drop i), l.take i ++ mkRows q (l.drop i)) := by
  intro d
  induction d with
  | zero =>
    intro l q i hl hi hn hr h0 h1
    refine Ev.step (f := fun _ => some (q, l)) (fun k => by rw [laws_markIntSS.l0]; rw [if_neg (by omega)]) ((Ev.now _).eq ?_)
    rw [List.drop_eq_nil_of_le (by omega)]; simp [totM, mkRows]; exact (List.take_of_length_le (by omega)).symm
  | succ d ih =>
    intro l q i hl hi hn hr h0 h1
    have hlt : i < l.length := by omega
    have hw : wrap64 ((i : Int) + 1) = ((i + 1 : Nat) : Int) := by rw [w64 (by omega) (by omega)]; omega
    have ht := totM_drop l i hlt
    have hri := hr _ (List.getElem_mem hlt)
    have hg : l.getD ((i : Int)).toNat [] = l[i] := by simp [List.getD_eq_getElem?_getD, hlt]
    have m := markIntS_ev l[i] q h0 (by omega) (by omega)
    have hd : (l.set i (upFrom q l[i].length)).drop (i + 1) = l.drop (i + 1) := List.drop_set_of_lt (by omega)
    have nx := ih (l.set i (upFrom q l[i].length)) (q + l[i].length) (i + 1) (by simp [hl]) (by omega) hn (by
      intro r hr2
      rcases List.mem_or_eq_of_mem_set hr2 with h | h
      · exact hr r h
      · rw [h, upFrom_length]; exact hri) (by omega) (by rw [hd]; omega)
    rw [hd] at nx
    refine Ev.step (fun k => by rw [laws_markIntSS.l0, if_pos (by omega), if_pos (by omega), hg, hw, Int.toNat_natCast]) (Ev.bind m (nx.eq ?_))
    refine Prod.ext (by simp only; omega) ?_
    simp only
    rw [List.drop_eq_getElem_cons hlt, List.take_add_one, List.take_set_of_le (Nat.le_refl i)]
    simp [hlt, mkRows]
theorem markIntSS_ev (l : List (List Int)) (q : Int) (hn : l.length ≤ 1000) (hr : ∀ r ∈ l, r.length ≤ 1000000) (h0 : 0 ≤ q) (h1 : q + totM l ≤ 900000000) :
    Ev (fun k => laws_markIntSS.f k l q) (q + totM l, mkRows q l) := by
  unfold laws_markIntSS.f
  have := markIntSS_l l.length l.length l q 0 rfl (by omega) hn hr h0 (by simpa using h1)
  simpa using this
theorem mkRows_get (l : List (List Int)) : ∀ (q : Int) (i : Nat), i < l.length → rd_L1 (mkRows q l) (i : Int) = upFrom (q + totM (l.take i)) (l.getD i []).length := by
  induction l with
  | nil => intro q i h; simp at h
  | cons r l ih =>
    intro q i h
    cases i with
    | zero => simp [mkRows, rd_L1, totM]
    | succ i =>
      have := ih (q + r.length) i (by simpa using h)
      simp only [mkRows, rd_L1, Int.toNat_natCast, List.getD_cons_succ, List.take_succ_cons, totM] at this ⊢
      rw [this]; congr 1; omega
theorem totM_take (l : List (List Int)) (i : Nat) (h : i < l.length) : totM (l.take (i + 1)) = totM (l.take i) + (l.getD i []).length := by
  induction l generalizing i with
  | nil => simp at h
  | cons r l ih =>
    cases i with
    | zero => simp [totM]
    | succ i =>
      have := ih i (by simpa using h)
      simp only [List.take_succ_cons, totM, List.getD_cons_succ] at this ⊢
      omega
theorem totM_take_le (l : List (List Int)) (i : Nat) : totM (l.take i) ≤ totM l := by
  induction l generalizing i with
  | nil => simp
  | cons r l ih =>
    cases i with
    | zero => simp [totM]
    | succ i => have := ih i; simp only [List.take_succ_cons, totM]; omega
theorem heldIntSS_l (l : List (List Int)) (q : Int) (hn : l.length ≤ 1000) (hr : ∀ r ∈ l, r.length ≤ 1000000) (h0 : 0 ≤ q) (h1 : q + totM l ≤ 900000000) : ∀ (d i : Nat), l.length = i + d →
    Ev (fun k => laws_heldIntSS.l0 k (mkRows q l) (q + totM (l.take i)) i) (q + totM l) := by
  intro d
  induction d with
  | zero =>
    intro i hi
    refine Ev.step (f := fun _ => some (q + totM (l.take i))) (fun k => by rw [laws_heldIntSS.l0]; rw [if_neg (by rw [mkRows_length]; omega)]) ((Ev.now _).eq ?_)
    rw [List.take_of_length_le (by omega)]
  | succ d ih =>
    intro i hi
    have hlt : i < l.length := by omega
    have hw : wrap64 ((i : Int) + 1) = ((i + 1 : Nat) : Int) := by rw [w64 (by omega) (by omega)]; omega
    have hle := totM_take_le l i
    have hle2 := totM_take_le l (i + 1)
    have ht := totM_take l i hlt
    have hri : (l.getD i []).length ≤ 1000000 := by
      rw [List.getD_eq_getElem?_getD, List.getElem?_eq_getElem hlt]; exact hr _ (List.getElem_mem hlt)
    have hh := heldIntS_ev (q + totM (l.take i)) (by omega) (by omega) (l.getD i []).length (by omega)
    have nx := ih (i + 1) (by omega)
    refine Ev.step (fun k => by rw [laws_heldIntSS.l0, if_pos (by rw [mkRows_length]; omega), if_pos (by omega), mkRows_get l q i hlt, hw]) (Ev.bind hh (Ev.ifn (show ¬ (q + (totM (l.take i) : Int) + ((l.getD i []).length : Int) < 0) by omega) ?_))
    rw [ht] at nx
    have e : q + (totM (l.take i) : Int) + ((l.getD i []).length : Int) = q + ((totM (l.take i) + (l.getD i []).length : Nat) : Int) := by omega
    rw [e]; exact nx
theorem heldIntSS_ev (l : List (List Int)) (q : Int) (hn : l.length ≤ 1000) (hr : ∀ r ∈ l, r.length ≤ 1000000) (h0 : 0 ≤ q) (h1 : q + totM l ≤ 900000000) :
    Ev (fun k => laws_heldIntSS.f k (mkRows q l) q) (q + totM l) := by
  unfold laws_heldIntSS.f
  have := heldIntSS_l l q hn hr h0 h1 l.length 0 (by omega)
  simpa [totM] using this
/-! Forms of grids, plainly. -/
/-- The grid read at these places. -/
def pickL (p : List Nat) (g : List Int) : List Int := p.map fun j => g.getD j 0
def turnP (s : Nat) : List Nat := (List.range (s * s)).map fun k => (s - 1 - k % s) * s + k / s
def mirrorP (s : Nat) : List Nat := (List.range (s * s)).map fun k => k / s * s + (s - 1 - k % s)
/-- Places: first p, then q's own. -/
def compP (p q : List Nat) : List Nat := p.map fun j => q.getD j 0
/-- The eight forms' places. -/
def formP (s : Nat) : List (List Nat) :=
  let t := turnP s
  let e := List.range (s * s)
  let m := mirrorP s
  [e, t, compP t t, compP t (compP t t), m, compP t m, compP t (compP t m), compP t (compP t (compP t m))]
theorem pickL_comp (p q : List Nat) (g : List Int) (h : ∀ j ∈ p, j < q.length) : pickL p (pickL q g) = pickL (compP p q) g := by
  unfold pickL compP
  rw [List.map_map]
  apply List.map_congr_left
  intro j hj
  have := h j hj
  simp [List.getD_eq_getElem?_getD, this]
theorem pickL_range (g : List Int) : pickL (List.range g.length) g = g := by
  unfold pickL
  apply List.ext_getElem (by simp)
  intro i h1 h2
  simp [List.getD_eq_getElem?_getD, h2]
theorem pickL_length (p : List Nat) (g : List Int) : (pickL p g).length = p.length := by simp [pickL]
theorem pickL_map (p : List Nat) (g : List Int) (f : Int → Int) (h : ∀ j ∈ p, j < g.length) : pickL p (g.map f) = (pickL p g).map f := by
  unfold pickL
  rw [List.map_map]
  apply List.map_congr_left
  intro j hj
  have := h j hj
  simp [List.getD_eq_getElem?_getD, this]
theorem pickL_mem (p : List Nat) (g : List Int) (h : ∀ j ∈ p, j < g.length) : ∀ v ∈ pickL p g, v ∈ g := by
  intro v hv
  obtain ⟨j, hj, rfl⟩ := List.mem_map.1 hv
  have := h j hj
  simp [List.getD_eq_getElem?_getD, this]
/-! renaming -/
def firstsG (d : List Int) : List Int → List Int
  | [] => d
  | v :: g => firstsG (if v > 0 ∧ v ∉ d then d ++ [v] else d) g
def nmG (d : List Int) (v : Int) : Int := if v > 0 then (d.idxOf v : Int) + 1 else 0
def renG (g : List Int) : List Int := g.map (nmG (firstsG [] g))
theorem firstsG_mono (g : List Int) : ∀ d v, v ∈ d → v ∈ firstsG d g := by
  induction g with
  | nil => intro d v h; exact h
  | cons x g ih =>
    intro d v h
    refine ih _ v ?_
    split <;> simp [h]
theorem firstsG_all (g : List Int) : ∀ d v, v ∈ g → v > 0 → v ∈ firstsG d g := by
  induction g with
  | nil => intro d v h; cases h
  | cons x g ih =>
    intro d v h hv
    rcases List.mem_cons.1 h with rfl | h
    · refine firstsG_mono g _ v ?_
      by_cases c : v ∈ d
      · simp [c]
      · simp [c, hv]
    · exact ih _ v h hv
theorem firstsG_pos (g : List Int) : ∀ d, (∀ v ∈ d, v > 0) → ∀ v ∈ firstsG d g, v > 0 := by
  induction g with
  | nil => intro d h; exact h
  | cons x g ih =>
    intro d h
    refine ih _ ?_
    split
    · rename_i c
      intro v hv
      rcases List.mem_append.1 hv with hv | hv
      · exact h v hv
      · simp at hv; omega
    · exact h
theorem firstsG_sub (g : List Int) : ∀ d v, v ∈ firstsG d g → v ∈ d ∨ (v ∈ g ∧ v > 0) := by
  induction g with
  | nil => intro d v h; exact Or.inl h
  | cons x g ih =>
    intro d v h
    rcases ih _ v h with h | ⟨h, h2⟩
    · split at h
      · rename_i c
        rcases List.mem_append.1 h with h | h
        · exact Or.inl h
        · simp at h; subst h; exact Or.inr ⟨by simp, c.1⟩
      · exact Or.inl h
    · exact Or.inr ⟨by simp [h], h2⟩
/-- A change of names. -/
structure Names (f : Int → Int) (g : List Int) : Prop where
  pos : ∀ v ∈ g, (f v > 0 ↔ v > 0)
  inj : ∀ v ∈ g, ∀ u ∈ g, v > 0 → u > 0 → f v = f u → v = u
theorem Names.sub {f : Int → Int} {g g' : List Int} (h : Names f g) (hs : ∀ v ∈ g', v ∈ g) : Names f g' :=
  ⟨fun v hv => h.pos v (hs v hv), fun v hv u hu => h.inj v (hs v hv) u (hs u hu)⟩
theorem firstsG_map (f : Int → Int) (g : List Int) : ∀ (d G : List Int), Names f G → (∀ v ∈ d, v ∈ G ∧ v > 0) → (∀ v ∈ g, v ∈ G) → firstsG (d.map f) (g.map f) = (firstsG d g).map f := by
  induction g with
  | nil => intro d G hN hd hg; rfl
  | cons x g ih =>
    intro d G hN hd hg
    have hx : x ∈ G := hg x (by simp)
    have hg' : ∀ v ∈ g, v ∈ G := fun v hv => hg v (by simp [hv])
    show firstsG (if f x > 0 ∧ f x ∉ d.map f then d.map f ++ [f x] else d.map f) (g.map f) = (firstsG (if x > 0 ∧ x ∉ d then d ++ [x] else d) g).map f
    by_cases c : x > 0 ∧ x ∉ d
    · have hfx : f x ∉ d.map f := by
        intro hm
        obtain ⟨y, hy, e⟩ := List.mem_map.1 hm
        have := hN.inj y (hd y hy).1 x hx (hd y hy).2 c.1 e
        exact c.2 (this ▸ hy)
      rw [if_pos ⟨(hN.pos x hx).2 c.1, hfx⟩, if_pos c]
      have := ih (d ++ [x]) G hN (by
        intro v hv
        rcases List.mem_append.1 hv with hv | hv
        · exact hd v hv
        · simp at hv; subst hv; exact ⟨hx, c.1⟩) hg'
      rw [List.map_append] at this
      exact this
    · have hc' : ¬ (f x > 0 ∧ f x ∉ d.map f) := by
        rintro ⟨h1, h2⟩
        apply c
        refine ⟨(hN.pos x hx).1 h1, fun hm => h2 (List.mem_map_of_mem hm)⟩
      rw [if_neg hc', if_neg c]
      exact ih d G hN hd hg'
theorem idxOf_map (f : Int → Int) (v : Int) : ∀ (d : List Int), (∀ u ∈ d, f u = f v → u = v) → (d.map f).idxOf (f v) = d.idxOf v := by
  intro d
  induction d with
  | nil => intro _; rfl
  | cons x d ih =>
    intro h
    simp only [List.map_cons, List.idxOf_cons]
    by_cases c : x = v
    · subst c; simp
    · have : f x ≠ f v := fun e => c (h x (by simp) e)
      simp only [beq_eq_false_iff_ne.2 c, beq_eq_false_iff_ne.2 this, cond_false]
      rw [ih (fun u hu => h u (by simp [hu]))]
theorem renG_map (f : Int → Int) (g : List Int) (h : Names f g) : renG (g.map f) = renG g := by
  unfold renG
  have e : firstsG [] (g.map f) = (firstsG [] g).map f := by
    have := firstsG_map f g [] g h (by simp) (fun v hv => hv)
    simpa using this
  rw [e, List.map_map]
  apply List.map_congr_left
  intro v hv
  show nmG _ (f v) = nmG _ v
  unfold nmG
  by_cases c : v > 0
  · rw [if_pos ((h.pos v hv).2 c), if_pos c, idxOf_map]
    intro u hu e
    rcases firstsG_sub g [] u hu with hu | ⟨hu, hu2⟩
    · cases hu
    · exact h.inj u hu v hv hu2 c e
  · rw [if_neg c, if_neg (fun h' => c ((h.pos v hv).1 h'))]
theorem nmG_names (g : List Int) : Names (nmG (firstsG [] g)) g := by
  constructor
  · intro v hv
    unfold nmG
    by_cases c : v > 0
    · rw [if_pos c]; simp only [c, iff_true]; omega
    · rw [if_neg c]; omega
  · intro v hv u hu h1 h2 e
    unfold nmG at e
    rw [if_pos h1, if_pos h2] at e
    have a1 := List.idxOf_lt_length_of_mem (firstsG_all g [] v hv h1)
    have a2 := List.idxOf_lt_length_of_mem (firstsG_all g [] u hu h2)
    have e1 : (firstsG [] g).idxOf v = (firstsG [] g).idxOf u := by omega
    have b1 := List.getElem_idxOf a1
    have b2 := List.getElem_idxOf a2
    rw [← b1, ← b2]
    congr 1
theorem renG_ren (g : List Int) : renG (renG g) = renG g := renG_map _ g (nmG_names g)
theorem renG_pick (p : List Nat) (g : List Int) (h : ∀ j ∈ p, j < g.length) : renG (pickL p (renG g)) = renG (pickL p g) := by
  rw [show renG g = g.map (nmG (firstsG [] g)) from rfl, pickL_map p g _ h]
  exact renG_map _ _ ((nmG_names g).sub (pickL_mem p g h))
/-! The eight forms as a group. -/
def mulF : List (List Nat) := [[0,1,2,3,4,5,6,7],[1,2,3,0,5,6,7,4],[2,3,0,1,6,7,4,5],[3,0,1,2,7,4,5,6],[4,7,6,5,0,3,2,1],[5,4,7,6,1,0,3,2],[6,5,4,7,2,1,0,3],[7,6,5,4,3,2,1,0]]
/-- form i of form j -/
def mulFn (i j : Nat) : Nat := (mulF.getD i []).getD j 0
def formAt (s i : Nat) : List Nat := (formP s).getD i []
theorem formP_table (s : Nat) (h : s = 2 ∨ s = 3 ∨ s = 4) : (∀ i, i < 8 → (formAt s i).length = s * s ∧ ∀ j ∈ formAt s i, j < s * s) ∧ ∀ i, i < 8 → ∀ j, j < 8 → compP (formAt s i) (formAt s j) = formAt s (mulFn i j) := by
  rcases h with rfl | rfl | rfl <;> decide +kernel
theorem formP_zero (s : Nat) : formAt s 0 = List.range (s * s) := rfl
def formsG (s : Nat) (g : List Int) : List (List Int) := (formP s).map fun p => pickL p g
def rensG (s : Nat) (g : List Int) : List (List Int) := (formsG s g).map renG
theorem rensG_mem (s : Nat) (g x : List Int) : x ∈ rensG s g ↔ ∃ i, i < 8 ∧ x = renG (pickL (formAt s i) g) := by
  unfold rensG formsG
  constructor
  · intro h
    obtain ⟨y, hy, rfl⟩ := List.mem_map.1 h
    obtain ⟨p, hp, rfl⟩ := List.mem_map.1 hy
    obtain ⟨i, hi, rfl⟩ := List.mem_iff_getElem.1 hp
    refine ⟨i, by simpa [formP] using hi, ?_⟩
    simp [formAt, List.getD_eq_getElem?_getD, hi]
  · rintro ⟨i, hi, rfl⟩
    have hl : i < (formP s).length := by simpa [formP] using hi
    refine List.mem_map.2 ⟨_, List.mem_map.2 ⟨formAt s i, ?_, rfl⟩, rfl⟩
    simp [formAt, List.getD_eq_getElem?_getD, hl]
theorem mulFn_lt : ∀ i, i < 8 → ∀ j, j < 8 → mulFn i j < 8 := by decide +kernel
theorem mulFn_onto : ∀ i, i < 8 → ∀ j, j < 8 → ∃ k, k < 8 ∧ mulFn k j = i := by decide +kernel
/-- A turned or mirrored grid has the same renamed forms. -/
theorem rensG_form (s : Nat) (hs : s = 2 ∨ s = 3 ∨ s = 4) (g : List Int) (hg : g.length = s * s) (j : Nat) (hj : j < 8) (x : List Int) : x ∈ rensG s (pickL (formAt s j) g) ↔ x ∈ rensG s g := by
  obtain ⟨h1, h2⟩ := formP_table s hs
  have e : ∀ i, i < 8 → pickL (formAt s i) (pickL (formAt s j) g) = pickL (formAt s (mulFn i j)) g := fun i hi => by
    rw [pickL_comp _ _ _ (by intro k hk; rw [(h1 j hj).1]; exact (h1 i hi).2 k hk), h2 i hi j hj]
  rw [rensG_mem, rensG_mem]
  constructor
  · rintro ⟨i, hi, rfl⟩
    exact ⟨mulFn i j, mulFn_lt i hi j hj, by rw [e i hi]⟩
  · rintro ⟨i, hi, rfl⟩
    obtain ⟨k, hk, e2⟩ := mulFn_onto i hi j hj
    exact ⟨k, hk, by rw [e k hk, e2]⟩
/-- A renamed grid has the very same renamed forms. -/
theorem rensG_map (s : Nat) (hs : s = 2 ∨ s = 3 ∨ s = 4) (g : List Int) (hg : g.length = s * s) (f : Int → Int) (hf : Names f g) : rensG s (g.map f) = rensG s g := by
  obtain ⟨h1, h2⟩ := formP_table s hs
  unfold rensG formsG
  rw [List.map_map, List.map_map]
  apply List.map_congr_left
  intro p hp
  obtain ⟨i, hi, e0⟩ := List.mem_iff_getElem.1 hp
  have hi8 : i < 8 := by simpa [formP] using hi
  have e : p = formAt s i := by rw [← e0, formAt, List.getD_eq_getElem?_getD, List.getElem?_eq_getElem hi]; rfl
  have hb : ∀ j ∈ p, j < g.length := by rw [e, hg]; exact (h1 i hi8).2
  show renG (pickL p (g.map f)) = renG (pickL p g)
  rw [pickL_map _ _ _ hb]
  exact renG_map f _ (hf.sub (pickL_mem _ _ hb))
theorem rensG_ren (s : Nat) (hs : s = 2 ∨ s = 3 ∨ s = 4) (g : List Int) (hg : g.length = s * s) : rensG s (renG g) = rensG s g := rensG_map s hs g hg _ (nmG_names g)
theorem rensG_length (s : Nat) (g : List Int) : (rensG s g).length = 8 := by simp [rensG, formsG, formP]
/-- The renamed forms of one of them. -/
theorem rensG_self (s : Nat) (hs : s = 2 ∨ s = 3 ∨ s = 4) (g x : List Int) (hg : g.length = s * s) (hx : x ∈ rensG s g) (y : List Int) : y ∈ rensG s x ↔ y ∈ rensG s g := by
  obtain ⟨i, hi, rfl⟩ := (rensG_mem s g x).1 hx
  obtain ⟨h1, h2⟩ := formP_table s hs
  rw [rensG_ren s hs _ (by rw [pickL_length]; exact (h1 i hi).1)]
  exact rensG_form s hs g hg i hi y
/-! the least one -/
/-- a comes before b: the first that differs decides. -/
def befG : List Int → List Int → Bool
  | a :: ar, b :: br => if a = b then befG ar br else decide (a < b)
  | _, _ => false
theorem befG_irrefl (a : List Int) : befG a a = false := by
  induction a with
  | nil => rfl
  | cons x a ih => simp [befG, ih]
theorem befG_trans : ∀ (a b c : List Int), befG a b = true → befG b c = true → befG a c = true
  | [], _, _, h, _ => by simp [befG] at h
  | _ :: _, [], _, h, _ => by simp [befG] at h
  | _ :: _, _ :: _, [], _, h => by simp [befG] at h
  | x :: a, y :: b, z :: c, h1, h2 => by
    simp only [befG] at h1 h2 ⊢
    by_cases c1 : x = y
    · subst c1
      rw [if_pos rfl] at h1
      by_cases c2 : x = z
      · subst c2; rw [if_pos rfl] at h2 ⊢; exact befG_trans a b c h1 h2
      · rw [if_neg c2] at h2 ⊢; exact h2
    · rw [if_neg c1] at h1
      have h1 := of_decide_eq_true h1
      by_cases c2 : y = z
      · subst c2; rw [if_neg c1]; exact decide_eq_true h1
      · rw [if_neg c2] at h2
        have h2 := of_decide_eq_true h2
        rw [if_neg (by omega)]; exact decide_eq_true (by omega)
theorem befG_total : ∀ (a b : List Int), a.length = b.length → befG a b = false → befG b a = false → a = b
  | [], [], _, _, _ => rfl
  | [], _ :: _, h, _, _ => by simp at h
  | _ :: _, [], h, _, _ => by simp at h
  | x :: a, y :: b, h, h1, h2 => by
    simp only [befG] at h1 h2
    by_cases c : x = y
    · subst c
      rw [if_pos rfl] at h1 h2
      rw [befG_total a b (by simpa using h) h1 h2]
    · rw [if_neg c] at h1
      rw [if_neg (fun e => c e.symm)] at h2
      have h1 := of_decide_eq_false h1
      have h2 := of_decide_eq_false h2
      omega
/-- The least one of a list, and what was found before. -/
def leastG (best : List Int) : List (List Int) → List Int
  | [] => best
  | x :: xs => leastG (if befG x best then x else best) xs
theorem leastG_mem : ∀ (xs : List (List Int)) (best : List Int), leastG best xs ∈ best :: xs
  | [], best => by simp [leastG]
  | x :: xs, best => by
    have h := leastG_mem xs (if befG x best then x else best)
    show leastG _ xs ∈ _
    rcases List.mem_cons.1 h with h | h
    · rw [h]; split <;> simp
    · exact List.mem_cons_of_mem _ (List.mem_cons_of_mem _ h)
theorem leastG_least (n : Nat) : ∀ (xs : List (List Int)) (best : List Int), best.length = n → (∀ x ∈ xs, x.length = n) → ∀ y ∈ best :: xs, befG y (leastG best xs) = false
  | [], best, _, _, y, hy => by
    simp at hy; subst hy; exact befG_irrefl _
  | x :: xs, best, hb, hx, y, hy => by
    have hxl := hx x (by simp)
    have hl : (if befG x best then x else best).length = n := by split <;> assumption
    have ih := leastG_least n xs (if befG x best then x else best) hl (fun z hz => hx z (by simp [hz]))
    have h0 := ih _ (List.mem_cons_self ..)
    have hll : (leastG (if befG x best then x else best) xs).length = n := by
      rcases List.mem_cons.1 (leastG_mem xs (if befG x best then x else best)) with e | e
      · rw [e]; exact hl
      · exact hx _ (by simp [e])
    show befG y (leastG (if befG x best then x else best) xs) = false
    have key : ∀ z, z.length = n → befG z (if befG x best then x else best) = false → befG z (leastG (if befG x best then x else best) xs) = false := by
      intro z hz h1
      cases h2 : befG z (leastG (if befG x best then x else best) xs) with
      | false => rfl
      | true =>
        cases h3 : befG (if befG x best then x else best) z with
        | true => rw [befG_trans _ _ _ h3 h2] at h0; cases h0
        | false =>
          have := befG_total _ _ (hz.trans hl.symm) h1 h3
          rw [this] at h2; rw [h2] at h0; cases h0
    rcases List.mem_cons.1 hy with rfl | hy
    · refine key _ hb ?_
      by_cases c : befG x y = true
      · rw [if_pos c]
        cases h4 : befG y x with
        | false => rfl
        | true => have := befG_trans _ _ _ c h4; rw [befG_irrefl] at this; cases this
      · rw [if_neg c]; exact befG_irrefl _
    · rcases List.mem_cons.1 hy with rfl | hy
      · refine key _ hxl ?_
        by_cases c : befG y best = true
        · rw [if_pos c]; exact befG_irrefl _
        · rw [if_neg c]; simpa using c
      · exact ih y (List.mem_cons_of_mem _ hy)
def minG (xs : List (List Int)) : List Int := match xs with
  | [] => []
  | x :: xs => leastG x xs
theorem minG_mem (xs : List (List Int)) (h : xs ≠ []) : minG xs ∈ xs := by
  cases xs with
  | nil => exact absurd rfl h
  | cons x xs => exact leastG_mem xs x
theorem minG_same (n : Nat) (xs ys : List (List Int)) (hx : ∀ x ∈ xs, x.length = n) (h : ∀ x, x ∈ xs ↔ x ∈ ys) : minG xs = minG ys := by
  cases xs with
  | nil =>
    cases ys with
    | nil => rfl
    | cons y ys => exact absurd ((h y).2 (by simp)) (by simp)
  | cons x xs =>
    cases ys with
    | nil => exact absurd ((h x).1 (by simp)) (by simp)
    | cons y ys =>
      have hy : ∀ z ∈ y :: ys, z.length = n := fun z hz => hx z ((h z).2 hz)
      have m1 := leastG_mem xs x
      have m2 := leastG_mem ys y
      have l1 := leastG_least n xs x (hx x (by simp)) (fun z hz => hx z (by simp [hz])) _ ((h _).2 m2)
      have l2 := leastG_least n ys y (hy y (by simp)) (fun z hz => hy z (by simp [hz])) _ ((h _).1 m1)
      exact befG_total _ _ ((hx _ m1).trans (hy _ m2).symm) l2 l1
theorem rensG_len (s : Nat) (hs : s = 2 ∨ s = 3 ∨ s = 4) (g : List Int) (x : List Int) (hx : x ∈ rensG s g) : x.length = s * s := by
  obtain ⟨i, hi, rfl⟩ := (rensG_mem s g x).1 hx
  simp only [renG, List.length_map, pickL_length]
  exact ((formP_table s hs).1 i hi).1
def canG (s : Nat) (g : List Int) : List Int := minG (rensG s g)
theorem canG_mem (s : Nat) (g : List Int) : canG s g ∈ rensG s g := minG_mem _ (by
  intro h; have := rensG_length s g; rw [h] at this; cases this)
theorem canG_same (s : Nat) (hs : s = 2 ∨ s = 3 ∨ s = 4) (g g' : List Int) (h : ∀ x, x ∈ rensG s g ↔ x ∈ rensG s g') : canG s g = canG s g' :=
  minG_same (s * s) _ _ (rensG_len s hs g) h
/-! how many different ones -/
/-- What is found, one behind the other. -/
def findG (found : List (List Int)) : List (List Int) → List (List Int)
  | [] => found
  | x :: xs => findG (if x ∈ found then found else found ++ [x]) xs
theorem findG_mem : ∀ (xs found : List (List Int)) (x : List Int), x ∈ findG found xs ↔ x ∈ found ∨ x ∈ xs
  | [], found, x => by simp [findG]
  | y :: xs, found, x => by
    show x ∈ findG _ xs ↔ _
    rw [findG_mem xs]
    split
    · rename_i c
      constructor
      · rintro (h | h)
        · exact Or.inl h
        · exact Or.inr (by simp [h])
      · rintro (h | h)
        · exact Or.inl h
        · rcases List.mem_cons.1 h with rfl | h
          · exact Or.inl c
          · exact Or.inr h
    · simp [or_assoc]
theorem findG_nodup : ∀ (xs found : List (List Int)), found.Nodup → (findG found xs).Nodup
  | [], found, h => h
  | y :: xs, found, h => by
    refine findG_nodup xs _ ?_
    split
    · exact h
    · rename_i c
      rw [List.nodup_append]
      exact ⟨h, by simp, by intro a ha b hb; simp at hb; subst hb; rintro rfl; exact c ha⟩
theorem nodup_le {α : Type} [DecidableEq α] : ∀ (l m : List α), l.Nodup → (∀ x ∈ l, x ∈ m) → l.length ≤ m.length
  | [], m, _, _ => Nat.zero_le _
  | x :: l, m, h, hs => by
    have hx := hs x (by simp)
    have hn := List.nodup_cons.1 h
    have := nodup_le l (m.erase x) hn.2 (fun y hy => (List.mem_erase_of_ne (by rintro rfl; exact hn.1 hy)).2 (hs y (by simp [hy])))
    rw [List.length_erase_of_mem hx] at this
    have := List.length_pos_of_mem hx
    simp only [List.length_cons]; omega
theorem findG_same (xs ys : List (List Int)) (h : ∀ x, x ∈ xs ↔ x ∈ ys) : (findG [] xs).length = (findG [] ys).length := by
  apply Nat.le_antisymm
  · exact nodup_le _ _ (findG_nodup xs [] (by simp)) (fun x hx => by rw [findG_mem] at hx ⊢; simpa [h] using hx)
  · exact nodup_le _ _ (findG_nodup ys [] (by simp)) (fun x hx => by rw [findG_mem] at hx ⊢; simpa [h] using hx)
def countG (s : Nat) (g : List Int) : Nat := (findG [] (rensG s g)).length
theorem l1In_f (a b c : Int) : spec_l1In.f a b c = some (decide (b ≤ a ∧ a ≤ c)) := by
  unfold spec_l1In.f
  by_cases h : a ≥ b
  · rw [if_pos h]; simp; omega
  · rw [if_neg h]; simp; omega
/-- A valid grid. -/
def gridB (g : List Int) (s : Int) : Bool := decide ((2 ≤ s ∧ s ≤ 4) ∧ (g.length : Int) = s * s ∧ ∀ v ∈ g, 0 ≤ v ∧ v ≤ s)
theorem gridB_true {g : List Int} {s : Int} (h : gridB g s = true) : (2 ≤ s ∧ s ≤ 4) ∧ (g.length : Int) = s * s ∧ ∀ v ∈ g, 0 ≤ v ∧ v ≤ s := of_decide_eq_true h
theorem gridB_mul {s : Int} (h0 : 2 ≤ s) (h1 : s ≤ 4) : wrap64 (s * s) = s * s ∧ 4 ≤ s * s ∧ s * s ≤ 16 := by
  have : s = 2 ∨ s = 3 ∨ s = 4 := by omega
  rcases this with rfl | rfl | rfl <;> decide +kernel
theorem pick_take (p : List Nat) (g : List Int) (m : Nat) (h : m < p.length) : (pickL p g).take m ++ [rd g ((p.getD m 0 : Nat) : Int)] = (pickL p g).take (m + 1) := by
  have h2 : m < (pickL p g).length := by rw [pickL_length]; exact h
  rw [List.take_add_one, List.getElem?_eq_getElem h2]
  simp [pickL, rd, List.getD_eq_getElem?_getD, h]
theorem pick_all (p : List Nat) (g : List Int) (m : Nat) (h : p.length ≤ m) : (pickL p g).take m = pickL p g := List.take_of_length_le (by rw [pickL_length]; exact h)
theorem turnP_len (n : Nat) : (turnP n).length = n * n := by simp [turnP]
theorem mirrorP_len (n : Nat) : (mirrorP n).length = n * n := by simp [mirrorP]
theorem gridB_n {g : List Int} {s : Int} (h : gridB g s = true) : ∃ n : Nat, s = n ∧ (n = 2 ∨ n = 3 ∨ n = 4) ∧ g.length = n * n := by
  obtain ⟨h1, h2, h3⟩ := gridB_true h
  obtain ⟨n, rfl⟩ := Int.eq_ofNat_of_zero_le (by omega : 0 ≤ s)
  refine ⟨n, rfl, by omega, ?_⟩
  have : ((g.length : Nat) : Int) = ((n * n : Nat) : Int) := by rw [h2]; simp
  exact Int.ofNat.inj this
theorem gridB_mk {g : List Int} {n : Nat} (hn : n = 2 ∨ n = 3 ∨ n = 4) (hl : g.length = n * n) (hv : ∀ v ∈ g, 0 ≤ v ∧ v ≤ (n : Int)) : gridB g n = true :=
  decide_eq_true ⟨by omega, by rw [hl]; simp, hv⟩
theorem gridB_form {g : List Int} {n : Nat} (h : gridB g n = true) (i : Nat) (hi : i < 8) : gridB (pickL (formAt n i) g) n = true := by
  obtain ⟨m, e, hm, hl⟩ := gridB_n h
  obtain rfl : n = m := by omega
  obtain ⟨h1, h2, h3⟩ := gridB_true h
  refine gridB_mk hm (by rw [pickL_length]; exact ((formP_table n hm).1 i hi).1) (fun v hv => h3 v (pickL_mem _ g (fun j hj => ?_) v hv))
  rw [hl]; exact ((formP_table n hm).1 i hi).2 j hj
theorem formAt_one (n : Nat) : formAt n 1 = turnP n := rfl
theorem formAt_four (n : Nat) : formAt n 4 = mirrorP n := rfl
/-- The turned grid, or nothing; the mirrored one. -/
def turnV (g : List Int) (s : Int) : List Int := if gridB g s = true then pickL (turnP s.toNat) g else []
def mirrorV (g : List Int) (s : Int) : List Int := if gridB g s = true then pickL (mirrorP s.toNat) g else []
theorem turnV_form {g : List Int} {n : Nat} (h : gridB g n = true) (i : Nat) (hi : i < 8) : turnV (pickL (formAt n i) g) n = pickL (formAt n (mulFn 1 i)) g := by
  obtain ⟨m, e, hm, hl⟩ := gridB_n h
  obtain rfl : n = m := by omega
  unfold turnV
  rw [if_pos (gridB_form h i hi), show ((n : Int)).toNat = n from rfl, ← formAt_one]
  obtain ⟨h1, h2⟩ := formP_table n hm
  rw [pickL_comp _ _ _ (by rw [(h1 i hi).1]; exact (h1 1 (by omega)).2), h2 1 (by omega) i hi]
theorem sizeOk_f (s : Int) : impl_sizeOk.f s = some (decide (2 ≤ s ∧ s ≤ 4)) := by
  unfold impl_sizeOk.f
  by_cases h : s ≥ 2
  · rw [if_pos h]; simp; omega
  · rw [if_neg h]; simp; omega
theorem impl_gv_l (g : List Int) (s : Int) (hn : g.length ≤ 35184372088832) : ∀ (d i : Nat), g.length = i + d → Ev (fun k => impl_GridValid.l0 k s g (g.length : Int) i) (decide (∀ v ∈ g.drop i, 0 ≤ v ∧ v ≤ s)) := by
  intro d
  induction d with
  | zero =>
    intro i hi
    refine Ev.step (f := fun _ => some true) (fun k => by rw [impl_GridValid.l0]; rw [if_neg (by omega)]) ((Ev.now _).eq ?_)
    rw [List.drop_eq_nil_of_le (by omega)]; simp
  | succ d ih =>
    intro i hi
    have hlt : i < g.length := by omega
    have hw : wrap64 ((i : Int) + 1) = ((i + 1 : Nat) : Int) := by rw [w64 (by omega) (by omega)]; omega
    refine Ev.step (f := fun k => if g[i] < 0 then some false else if g[i] > s then some false else impl_GridValid.l0 k s g (g.length : Int) ((i + 1 : Nat) : Int)) (fun k => by rw [impl_GridValid.l0]; rw [if_pos (by omega), if_pos (by omega), if_pos (by omega), rd_nat g i hlt, hw]) ?_
    rw [List.drop_eq_getElem_cons hlt]
    by_cases c : 0 ≤ g[i] ∧ g[i] ≤ s
    · refine Ev.ifn (by omega) (Ev.ifn (by omega) ((ih (i + 1) (by omega)).eq ?_))
      rw [Bool.eq_iff_iff]; simp only [decide_eq_true_eq, List.mem_cons, forall_eq_or_imp, c, true_and, and_self]
    · by_cases c2 : g[i] < 0
      · refine Ev.ifp c2 ((Ev.now _).eq ?_)
        rw [Bool.eq_iff_iff]; simp only [Bool.false_eq_true, decide_eq_true_eq, false_iff]; exact fun h => c (h _ (List.mem_cons_self ..))
      · refine Ev.ifn c2 (Ev.ifp (by omega) ((Ev.now _).eq ?_))
        rw [Bool.eq_iff_iff]; simp only [Bool.false_eq_true, decide_eq_true_eq, false_iff]; exact fun h => c (h _ (List.mem_cons_self ..))
theorem impl_gv (g : List Int) (s : Int) (hn : g.length ≤ 35184372088832) : Ev (fun k => impl_GridValid.f k g s) (gridB g s) := by
  unfold impl_GridValid.f
  refine Ev.bindc (sizeOk_f s) ?_
  have e0 : ∀ (b : Bool), ¬ (b = true) → false = b := by intro b; cases b <;> simp
  by_cases c : 2 ≤ s ∧ s ≤ 4
  · refine Ev.ifp (by simp [c]) ?_
    have hm := gridB_mul c.1 c.2
    by_cases c2 : (g.length : Int) = s * s
    · refine Ev.step (f := fun k => impl_GridValid.l0 k s g (g.length : Int) 0) (fun k => by rw [impl_GridValid.j0]; rw [if_neg (by simp [hm.1, c2])]) ?_
      refine (impl_gv_l g s hn g.length 0 (by omega)).eq ?_
      unfold gridB; rw [Bool.eq_iff_iff]; simp [c, c2]
    · refine Ev.step (f := fun k => some false) (fun k => by rw [impl_GridValid.j0]; rw [if_pos (by simp [hm.1, c2])]) ((Ev.now _).eq (e0 _ ?_))
      unfold gridB; simp [c2]
  · refine Ev.ifn (by simpa using c) (Ev.step (f := fun k => some false) (fun k => by rw [impl_GridValid.j0]; rw [if_pos rfl]) ((Ev.now _).eq (e0 _ ?_)))
    unfold gridB; simp; intro h1 h2; exact absurd ⟨h1, h2⟩ c

theorem impl_turn_ix (n : Nat) (hn : n = 2 ∨ n = 3 ∨ n = 4) : ∀ r, r < n → ∀ c, c < n → wrap64 (wrap64 (wrap64 (wrap64 ((n : Int) - 1) - (c : Int)) * (n : Int)) + (r : Int)) = (((turnP n).getD (r * n + c) 0 : Nat) : Int) ∧ (turnP n).getD (r * n + c) 0 < n * n := by
  rcases hn with rfl | rfl | rfl <;> decide +kernel
theorem impl_turn_l (g : List Int) (n : Nat) (hn : n = 2 ∨ n = 3 ∨ n = 4) (hg : g.length = n * n) : ∀ (e r : Nat), n = r + e → Ev (fun k => impl_GridTurn.l0 k g n ((pickL (turnP n) g).take (r * n)) n r) (pickL (turnP n) g) := by
  intro e
  induction e with
  | zero =>
    intro r hr
    have hrn : r = n := by omega
    subst hrn
    refine Ev.step (f := fun _ => some ((pickL (turnP r) g).take (r * r))) (fun k => by rw [impl_GridTurn.l0]; rw [if_neg (by omega)]) ((Ev.now _).eq ?_)
    exact pick_all _ _ _ (by rw [turnP_len]; omega)
  | succ e ih =>
    intro r hr
    have hw : wrap64 ((r : Int) + 1) = ((r + 1 : Nat) : Int) := by rw [w64 (by omega) (by omega)]; omega
    have h1 : ∀ (d c : Nat), n = c + d → Ev (fun k => impl_GridTurn.l1 k g n ((pickL (turnP n) g).take (r * n + c)) r n r n c) (pickL (turnP n) g) := by
      intro d
      induction d with
      | zero =>
        intro c hc
        have hcn : c = n := by omega
        refine Ev.step (f := fun k => impl_GridTurn.l0 k g n ((pickL (turnP n) g).take (r * n + c)) n ((r + 1 : Nat) : Int)) (fun k => by rw [impl_GridTurn.l1]; rw [if_neg (by omega), hw]) ?_
        have := ih (r + 1) (by omega)
        rw [Nat.succ_mul] at this
        rw [hcn]; exact this
      | succ d ihd =>
        intro c hc
        have hwc : wrap64 ((c : Int) + 1) = ((c + 1 : Nat) : Int) := by rw [w64 (by omega) (by omega)]; omega
        obtain ⟨i1, i2⟩ := impl_turn_ix n hn r (by omega) c (by omega)
        have hm : r * n + c < n * n := by
          have : r * n + n ≤ n * n := by rw [← Nat.succ_mul]; exact Nat.mul_le_mul_right _ (by omega)
          omega
        have hnn : n * n ≤ 16 := by rcases hn with rfl | rfl | rfl <;> decide
        refine Ev.step (f := fun k => impl_GridTurn.l1 k g n ((pickL (turnP n) g).take (r * n + (c + 1))) r n r n ((c + 1 : Nat) : Int)) (fun k => ?_) (ihd (c + 1) (by omega))
        rw [impl_GridTurn.l1]
        rw [if_pos (by omega), i1, if_pos (by omega), if_pos (by omega), if_pos (by rw [List.length_take, pickL_length, turnP_len]; omega), hwc, pick_take _ _ _ (by rw [turnP_len]; exact hm)]
        rfl
    refine Ev.step (f := fun k => impl_GridTurn.l1 k g n ((pickL (turnP n) g).take (r * n)) r n r n 0) (fun k => by rw [impl_GridTurn.l0]; rw [if_pos (by omega)]) ?_
    exact h1 n 0 (by omega)
theorem impl_turn (g : List Int) (s : Int) (hl : g.length ≤ 35184372088832) : Ev (fun k => impl_GridTurn.f k g s) (turnV g s) := by
  unfold impl_GridTurn.f turnV
  refine Ev.bind (impl_gv g s hl) ?_
  by_cases c : gridB g s = true
  · rw [if_pos c]
    obtain ⟨n, rfl, hn, hg⟩ := gridB_n c
    refine Ev.ifp c (Ev.ifp (by omega) (Ev.ifp (by omega) ?_))
    have := impl_turn_l g n hn hg n 0 (by omega)
    simpa using this
  · rw [if_neg c]; exact Ev.ifn c (Ev.now _)

theorem impl_mirror_ix (n : Nat) (hn : n = 2 ∨ n = 3 ∨ n = 4) : ∀ r, r < n → ∀ c, c < n → wrap64 (wrap64 (wrap64 (wrap64 ((r : Int) * (n : Int)) + (n : Int)) - 1) - (c : Int)) = (((mirrorP n).getD (r * n + c) 0 : Nat) : Int) ∧ (mirrorP n).getD (r * n + c) 0 < n * n := by
  rcases hn with rfl | rfl | rfl <;> decide +kernel
theorem impl_mirror_l (g : List Int) (n : Nat) (hn : n = 2 ∨ n = 3 ∨ n = 4) (hg : g.length = n * n) : ∀ (e r : Nat), n = r + e → Ev (fun k => impl_GridMirror.l0 k g n ((pickL (mirrorP n) g).take (r * n)) n r) (pickL (mirrorP n) g) := by
  intro e
  induction e with
  | zero =>
    intro r hr
    have hrn : r = n := by omega
    subst hrn
    refine Ev.step (f := fun _ => some ((pickL (mirrorP r) g).take (r * r))) (fun k => by rw [impl_GridMirror.l0]; rw [if_neg (by omega)]) ((Ev.now _).eq ?_)
    exact pick_all _ _ _ (by rw [mirrorP_len]; omega)
  | succ e ih =>
    intro r hr
    have hw : wrap64 ((r : Int) + 1) = ((r + 1 : Nat) : Int) := by rw [w64 (by omega) (by omega)]; omega
    have h1 : ∀ (d c : Nat), n = c + d → Ev (fun k => impl_GridMirror.l1 k g n ((pickL (mirrorP n) g).take (r * n + c)) r n r n c) (pickL (mirrorP n) g) := by
      intro d
      induction d with
      | zero =>
        intro c hc
        have hcn : c = n := by omega
        refine Ev.step (f := fun k => impl_GridMirror.l0 k g n ((pickL (mirrorP n) g).take (r * n + c)) n ((r + 1 : Nat) : Int)) (fun k => by rw [impl_GridMirror.l1]; rw [if_neg (by omega), hw]) ?_
        have := ih (r + 1) (by omega)
        rw [Nat.succ_mul] at this
        rw [hcn]; exact this
      | succ d ihd =>
        intro c hc
        have hwc : wrap64 ((c : Int) + 1) = ((c + 1 : Nat) : Int) := by rw [w64 (by omega) (by omega)]; omega
        obtain ⟨i1, i2⟩ := impl_mirror_ix n hn r (by omega) c (by omega)
        have hm : r * n + c < n * n := by
          have : r * n + n ≤ n * n := by rw [← Nat.succ_mul]; exact Nat.mul_le_mul_right _ (by omega)
          omega
        have hnn : n * n ≤ 16 := by rcases hn with rfl | rfl | rfl <;> decide
        refine Ev.step (f := fun k => impl_GridMirror.l1 k g n ((pickL (mirrorP n) g).take (r * n + (c + 1))) r n r n ((c + 1 : Nat) : Int)) (fun k => ?_) (ihd (c + 1) (by omega))
        rw [impl_GridMirror.l1]
        rw [if_pos (by omega), i1, if_pos (by omega), if_pos (by omega), if_pos (by rw [List.length_take, pickL_length, mirrorP_len]; omega), hwc, pick_take _ _ _ (by rw [mirrorP_len]; exact hm)]
        rfl
    refine Ev.step (f := fun k => impl_GridMirror.l1 k g n ((pickL (mirrorP n) g).take (r * n)) r n r n 0) (fun k => by rw [impl_GridMirror.l0]; rw [if_pos (by omega)]) ?_
    exact h1 n 0 (by omega)
theorem impl_mirror (g : List Int) (s : Int) (hl : g.length ≤ 35184372088832) : Ev (fun k => impl_GridMirror.f k g s) (mirrorV g s) := by
  unfold impl_GridMirror.f mirrorV
  refine Ev.bind (impl_gv g s hl) ?_
  by_cases c : gridB g s = true
  · rw [if_pos c]
    obtain ⟨n, rfl, hn, hg⟩ := gridB_n c
    refine Ev.ifp c (Ev.ifp (by omega) (Ev.ifp (by omega) ?_))
    have := impl_mirror_l g n hn hg n 0 (by omega)
    simpa using this
  · rw [if_neg c]; exact Ev.ifn c (Ev.now _)
/-- The eight forms, or nothing. -/
def formsV (g : List Int) (s : Int) : List (List Int) := if gridB g s = true then formsG s.toNat g else []
theorem formsG_list (n : Nat) (g : List Int) : formsG n g = [pickL (formAt n 0) g, pickL (formAt n 1) g, pickL (formAt n 2) g, pickL (formAt n 3) g, pickL (formAt n 4) g, pickL (formAt n 5) g, pickL (formAt n 6) g, pickL (formAt n 7) g] := rfl
theorem form0 {g : List Int} {n : Nat} (hg : g.length = n * n) : pickL (formAt n 0) g = g := by rw [formP_zero, ← hg, pickL_range]
theorem impl_forms_step (g : List Int) (n : Nat) (h : gridB g n = true) (i : Nat) (hi : i < 8) (j : Nat) (hj : j < 4) (out x18 : List (List Int)) (hl : out.length ≤ 100) (x20 : Int) {r : List (List Int)}
    (hr : Ev (fun k => impl_GridForms.l1 k n (out ++ [pickL (formAt n i) g]) (pickL (formAt n (mulFn 1 i)) g) x18 (x18.length : Int) x20 ((j + 1 : Nat) : Int)) r) :
    Ev (fun k => impl_GridForms.l1 k n out (pickL (formAt n i) g) x18 (x18.length : Int) x20 j) r := by
  have hw : wrap64 ((j : Int) + 1) = ((j + 1 : Nat) : Int) := by rw [w64 (by omega) (by omega)]; omega
  obtain ⟨m, e, hm, hlg⟩ := gridB_n h
  obtain rfl : n = m := by omega
  have hnn : n * n ≤ 16 := by rcases hm with rfl | rfl | rfl <;> decide
  refine Ev.step (f := fun k => (impl_GridTurn.f k (pickL (formAt n i) g) n).bind fun t => impl_GridForms.l1 k n (out ++ [pickL (formAt n i) g]) t x18 (x18.length : Int) x20 ((j + 1 : Nat) : Int)) (fun k => by rw [impl_GridForms.l1]; rw [if_pos (by omega), if_pos (by omega), hw]) ?_
  refine Ev.bind (impl_turn _ n (by rw [pickL_length, ((formP_table n hm).1 i hi).1]; omega)) ?_
  rw [turnV_form h i hi]
  exact hr
theorem impl_forms (g : List Int) (s : Int) (hl : g.length ≤ 17592186044415) : Ev (fun k => impl_GridForms.f k g s) (formsV g s) := by
  unfold impl_GridForms.f formsV
  refine Ev.bind (impl_gv g s (by omega)) ?_
  by_cases c : gridB g s = true
  rotate_left
  · rw [if_neg c]; exact Ev.ifn c (Ev.now _)
  rw [if_pos c]
  refine Ev.ifp c ?_
  have hc : slices_Clone_int_int.f g = some g := by
    show (if ([] : List Int).length + g.length < 17592186044416 then (some (([] : List Int) ++ g)) else none) = some g
    rw [if_pos (by simp; omega)]; rfl
  refine Ev.bindc hc (Ev.bind (impl_mirror g s (by omega)) ?_)
  obtain ⟨n, rfl, hn, hg⟩ := gridB_n c
  have hm : mirrorV g n = pickL (formAt n 4) g := by unfold mirrorV; rw [if_pos c]; rfl
  rw [hm]
  show Ev (fun k => impl_GridForms.l0 k n [] [g, pickL (formAt n 4) g] (([g, pickL (formAt n 4) g] : List (List Int)).length : Int) 0) _
  have hl2 : (([g, pickL (formAt n 4) g] : List (List Int)).length : Int) = 2 := rfl
  have w1 : wrap64 (0 + 1) = 1 := by decide +kernel
  have w2 : wrap64 (1 + 1) = 2 := by decide +kernel
  have e0 : (rd_L1 [g, pickL (formAt n 4) g] 0) = pickL (formAt n 0) g := by rw [form0 hg]; rfl
  have e1 : (rd_L1 [g, pickL (formAt n 4) g] 1) = pickL (formAt n 4) g := rfl
  refine Ev.step (f := fun k => impl_GridForms.l1 k n [] (pickL (formAt n 0) g) [g, pickL (formAt n 4) g] (([g, pickL (formAt n 4) g] : List (List Int)).length : Int) 0 ((0 : Nat) : Int)) (fun k => by rw [impl_GridForms.l0]; rw [if_pos (by rw [hl2]; omega), if_pos (by omega), if_pos (by rw [hl2]; omega), e0]; rfl) ?_
  refine impl_forms_step g n c 0 (by omega) 0 (by omega) _ _ (by simp) _ ?_
  refine impl_forms_step g n c 1 (by omega) 1 (by omega) _ _ (by simp) _ ?_
  refine impl_forms_step g n c 2 (by omega) 2 (by omega) _ _ (by simp) _ ?_
  refine impl_forms_step g n c 3 (by omega) 3 (by omega) _ _ (by simp) _ ?_
  refine Ev.step (fun k => by rw [impl_GridForms.l1, if_neg (by omega), w1]) ?_
  refine Ev.step (f := fun k => impl_GridForms.l1 k n ([] ++ [pickL (formAt n 0) g] ++ [pickL (formAt n 1) g] ++ [pickL (formAt n 2) g] ++ [pickL (formAt n 3) g]) (pickL (formAt n 4) g) [g, pickL (formAt n 4) g] (([g, pickL (formAt n 4) g] : List (List Int)).length : Int) 1 ((0 : Nat) : Int)) (fun k => by rw [impl_GridForms.l0]; rw [if_pos (by rw [hl2]; omega), if_pos (by omega), if_pos (by rw [hl2]; omega), e1]; rfl) ?_
  refine impl_forms_step g n c 4 (by omega) 0 (by omega) _ _ (by simp) _ ?_
  refine impl_forms_step g n c 5 (by omega) 1 (by omega) _ _ (by simp) _ ?_
  refine impl_forms_step g n c 6 (by omega) 2 (by omega) _ _ (by simp) _ ?_
  refine impl_forms_step g n c 7 (by omega) 3 (by omega) _ _ (by simp) _ ?_
  refine Ev.step (fun k => by rw [impl_GridForms.l1, if_neg (by omega), w2]) ?_
  exact (Ev.step (f := fun k => some _) (fun k => by rw [impl_GridForms.l0]; rw [if_neg (by rw [hl2]; omega)]; rfl) (Ev.now _)).eq rfl
theorem formsV_len (g : List Int) (s : Int) : (formsV g s).length ≤ 8 := by unfold formsV; split <;> simp [formsG, formP]
theorem spec_gv_l (g : List Int) (s : Int) (hn : g.length ≤ 35184372088832) : ∀ (d i : Nat), g.length = i + d → Ev (fun k => spec_GridValid.l0 k g s i) (decide ((∀ v ∈ g.drop i, 0 ≤ v ∧ v ≤ s) ∧ (2 ≤ s ∧ s ≤ 4) ∧ (g.length : Int) = s * s)) := by
  intro d
  induction d with
  | zero =>
    intro i hi
    refine Ev.step (f := fun _ => (spec_l1In.f s 2 4).bind fun t => (if t = true then (some ((g.length : Int) == (wrap64 (s * s)))) else (some false))) (fun k => by rw [spec_GridValid.l0]; rw [if_neg (by omega)]) ?_
    refine Ev.bindc (l1In_f s 2 4) ?_
    rw [List.drop_eq_nil_of_le (by omega)]
    by_cases c : 2 ≤ s ∧ s ≤ 4
    · refine Ev.ifp (by simp [c]) ((Ev.now _).eq ?_)
      rw [(gridB_mul c.1 c.2).1, Bool.eq_iff_iff]; simp [c]
    · refine Ev.ifn (by simpa using c) ((Ev.now _).eq ?_)
      rw [Bool.eq_iff_iff]; simp only [Bool.false_eq_true, decide_eq_true_eq, false_iff]; exact fun h => c h.2.1
  | succ d ih =>
    intro i hi
    have hlt : i < g.length := by omega
    have hw : wrap64 ((i : Int) + 1) = ((i + 1 : Nat) : Int) := by rw [w64 (by omega) (by omega)]; omega
    refine Ev.step (f := fun k => (spec_l1In.f g[i] 0 s).bind fun t => (if t = true then (spec_GridValid.l0 k g s ((i + 1 : Nat) : Int)) else (some false))) (fun k => by rw [spec_GridValid.l0]; rw [if_pos (by omega), if_pos (by omega), rd_nat g i hlt, hw]) ?_
    refine Ev.bindc (l1In_f _ _ _) ?_
    rw [List.drop_eq_getElem_cons hlt]
    by_cases c : 0 ≤ g[i] ∧ g[i] ≤ s
    · refine Ev.ifp (by simp [c]) ((ih (i + 1) (by omega)).eq ?_)
      rw [Bool.eq_iff_iff]; simp only [decide_eq_true_eq, List.mem_cons, forall_eq_or_imp, c, true_and, and_self]
    · refine Ev.ifn (by simpa using c) ((Ev.now _).eq ?_)
      rw [Bool.eq_iff_iff]; simp only [Bool.false_eq_true, decide_eq_true_eq, false_iff]; exact fun h => c (h.1 _ (List.mem_cons_self ..))
theorem spec_gv (g : List Int) (s : Int) (hn : g.length ≤ 35184372088832) : Ev (fun k => spec_GridValid.f k g s) (gridB g s) := by
  unfold spec_GridValid.f
  refine (spec_gv_l g s hn g.length 0 (by omega)).eq ?_
  unfold gridB
  rw [Bool.eq_iff_iff]; simp only [decide_eq_true_eq, List.drop_zero]
  exact ⟨fun h => ⟨h.2.1, h.2.2, h.1⟩, fun h => ⟨h.2.2, h.1, h.2.1⟩⟩

theorem spec_turn_ix (n : Nat) (hn : n = 2 ∨ n = 3 ∨ n = 4) : ∀ m, m < n * n → wrap64 (wrap64 (wrap64 (wrap64 ((n : Int) - 1) - Int.tmod (m : Int) (n : Int)) * (n : Int)) + wrap64 (Int.tdiv (m : Int) (n : Int))) = (((turnP n).getD m 0 : Nat) : Int) ∧ (turnP n).getD m 0 < n * n := by
  rcases hn with rfl | rfl | rfl <;> decide +kernel
theorem spec_turn_l (g : List Int) (n : Nat) (hn : n = 2 ∨ n = 3 ∨ n = 4) (hg : g.length = n * n) (hv : gridB g n = true) : ∀ (e m : Nat), n * n = m + e → Ev (fun k => spec_GridTurn.l0 k g n ((pickL (turnP n) g).take m) m) (pickL (turnP n) g) := by
  intro e
  have hnn : n * n ≤ 16 := by rcases hn with rfl | rfl | rfl <;> decide
  induction e with
  | zero =>
    intro m hm
    refine Ev.step (f := fun _ => some ((pickL (turnP n) g).take m)) (fun k => by rw [spec_GridTurn.l0]; rw [if_neg (by omega)]) ((Ev.now _).eq ?_)
    exact pick_all _ _ _ (by rw [turnP_len]; omega)
  | succ e ih =>
    intro m hm
    have hw : wrap64 ((m : Int) + 1) = ((m + 1 : Nat) : Int) := by rw [w64 (by omega) (by omega)]; omega
    obtain ⟨i1, i2⟩ := spec_turn_ix n hn m (by omega)
    refine Ev.step (fun k => by rw [spec_GridTurn.l0, if_pos (by omega)]) ?_
    refine Ev.bind (spec_gv g n (by omega)) (Ev.ifp hv (Ev.ifn (by omega) ?_))
    refine Ev.congr (fun k => by rw [i1, if_pos (by omega), if_pos (by omega), if_pos (by rw [List.length_take, pickL_length, turnP_len]; omega), hw, pick_take _ _ _ (by rw [turnP_len]; omega)]) (ih (m + 1) (by omega))
theorem spec_turn (g : List Int) (s : Int) (hl : g.length ≤ 35184372088832) : Ev (fun k => spec_GridTurn.f k g s) (turnV g s) := by
  unfold spec_GridTurn.f turnV
  by_cases c : gridB g s = true
  · rw [if_pos c]
    obtain ⟨n, rfl, hn, hg⟩ := gridB_n c
    have := spec_turn_l g n hn hg c (n * n) 0 (by omega)
    simpa using this
  · rw [if_neg c]
    by_cases c2 : 0 < g.length
    · refine Ev.step (fun k => by rw [spec_GridTurn.l0, if_pos (by omega)]) ?_
      exact Ev.bind (spec_gv g s hl) (Ev.ifn c (Ev.now _))
    · exact Ev.step (f := fun _ => some []) (fun k => by rw [spec_GridTurn.l0]; rw [if_neg (by omega)]) (Ev.now _)

theorem spec_mirror_ix (n : Nat) (hn : n = 2 ∨ n = 3 ∨ n = 4) : ∀ m, m < n * n → wrap64 (wrap64 (wrap64 (wrap64 (wrap64 (Int.tdiv (m : Int) (n : Int)) * (n : Int)) + (n : Int)) - 1) - Int.tmod (m : Int) (n : Int)) = (((mirrorP n).getD m 0 : Nat) : Int) ∧ (mirrorP n).getD m 0 < n * n := by
  rcases hn with rfl | rfl | rfl <;> decide +kernel
theorem spec_mirror_l (g : List Int) (n : Nat) (hn : n = 2 ∨ n = 3 ∨ n = 4) (hg : g.length = n * n) (hv : gridB g n = true) : ∀ (e m : Nat), n * n = m + e → Ev (fun k => spec_GridMirror.l0 k g n ((pickL (mirrorP n) g).take m) m) (pickL (mirrorP n) g) := by
  intro e
  have hnn : n * n ≤ 16 := by rcases hn with rfl | rfl | rfl <;> decide
  induction e with
  | zero =>
    intro m hm
    refine Ev.step (f := fun _ => some ((pickL (mirrorP n) g).take m)) (fun k => by rw [spec_GridMirror.l0]; rw [if_neg (by omega)]) ((Ev.now _).eq ?_)
    exact pick_all _ _ _ (by rw [mirrorP_len]; omega)
  | succ e ih =>
    intro m hm
    have hw : wrap64 ((m : Int) + 1) = ((m + 1 : Nat) : Int) := by rw [w64 (by omega) (by omega)]; omega
    obtain ⟨i1, i2⟩ := spec_mirror_ix n hn m (by omega)
    refine Ev.step (fun k => by rw [spec_GridMirror.l0, if_pos (by omega)]) ?_
    refine Ev.bind (spec_gv g n (by omega)) (Ev.ifp hv (Ev.ifn (by omega) ?_))
    refine Ev.congr (fun k => by rw [i1, if_pos (by omega), if_pos (by omega), if_pos (by rw [List.length_take, pickL_length, mirrorP_len]; omega), hw, pick_take _ _ _ (by rw [mirrorP_len]; omega)]) (ih (m + 1) (by omega))
theorem spec_mirror (g : List Int) (s : Int) (hl : g.length ≤ 35184372088832) : Ev (fun k => spec_GridMirror.f k g s) (mirrorV g s) := by
  unfold spec_GridMirror.f mirrorV
  by_cases c : gridB g s = true
  · rw [if_pos c]
    obtain ⟨n, rfl, hn, hg⟩ := gridB_n c
    have := spec_mirror_l g n hn hg c (n * n) 0 (by omega)
    simpa using this
  · rw [if_neg c]
    by_cases c2 : 0 < g.length
    · refine Ev.step (fun k => by rw [spec_GridMirror.l0, if_pos (by omega)]) ?_
      exact Ev.bind (spec_gv g s hl) (Ev.ifn c (Ev.now _))
    · exact Ev.step (f := fun _ => some []) (fun k => by rw [spec_GridMirror.l0]; rw [if_neg (by omega)]) (Ev.now _)
theorem spec_forms_step (g : List Int) (n : Nat) (h : gridB g n = true) (i : Nat) (hi : i < 8) (j : Nat) (hj : j < 8) (hj4 : j ≠ 4) (out : List (List Int)) (hl : out.length ≤ 100) {r : List (List Int)}
    (hr : Ev (fun k => spec_GridForms.l0 k g n (out ++ [pickL (formAt n i) g]) (pickL (formAt n (mulFn 1 i)) g) ((j + 1 : Nat) : Int)) r) :
    Ev (fun k => spec_GridForms.l0 k g n out (pickL (formAt n i) g) j) r := by
  have hw : wrap64 ((j : Int) + 1) = ((j + 1 : Nat) : Int) := by rw [w64 (by omega) (by omega)]; omega
  obtain ⟨m, e, hm, hlg⟩ := gridB_n h
  obtain rfl : n = m := by omega
  have hnn : n * n ≤ 16 := by rcases hm with rfl | rfl | rfl <;> decide
  refine Ev.step (f := fun k => (spec_GridTurn.f k (pickL (formAt n i) g) n).bind fun t => spec_GridForms.l0 k g n (out ++ [pickL (formAt n i) g]) t ((j + 1 : Nat) : Int)) (fun k => by rw [spec_GridForms.l0]; rw [if_pos (by omega), if_neg (by omega), if_pos (by omega), hw]) ?_
  refine Ev.bind (spec_turn _ n (by rw [pickL_length, ((formP_table n hm).1 i hi).1]; omega)) ?_
  rw [turnV_form h i hi]
  exact hr
theorem spec_forms (g : List Int) (s : Int) (hl : g.length ≤ 4398046511103) : Ev (fun k => spec_GridForms.f k g s) (formsV g s) := by
  unfold spec_GridForms.f formsV
  refine Ev.bind (spec_gv g s (by omega)) ?_
  by_cases c : gridB g s = true
  rotate_left
  · rw [if_neg c]; exact Ev.ifn c (Ev.now _)
  rw [if_pos c]
  refine Ev.ifp c (Ev.ifp (by omega) ?_)
  obtain ⟨n, rfl, hn, hg⟩ := gridB_n c
  have hnn : n * n ≤ 16 := by rcases hn with rfl | rfl | rfl <;> decide
  have hm : mirrorV g n = pickL (formAt n 4) g := by unfold mirrorV; rw [if_pos c]; rfl
  show Ev (fun k => spec_GridForms.l0 k g n [] g ((0 : Nat) : Int)) _
  rw [show (fun k => spec_GridForms.l0 k g n [] g ((0 : Nat) : Int)) = (fun k => spec_GridForms.l0 k g n [] (pickL (formAt n 0) g) ((0 : Nat) : Int)) by rw [form0 hg]]
  refine spec_forms_step g n c 0 (by omega) 0 (by omega) (by omega) _ (by simp) ?_
  refine spec_forms_step g n c 1 (by omega) 1 (by omega) (by omega) _ (by simp) ?_
  refine spec_forms_step g n c 2 (by omega) 2 (by omega) (by omega) _ (by simp) ?_
  refine spec_forms_step g n c 3 (by omega) 3 (by omega) (by omega) _ (by simp) ?_
  have w5 : wrap64 ((((3 + 1 : Nat) : Nat) : Int) + 1) = ((4 + 1 : Nat) : Int) := by decide +kernel
  refine Ev.step (fun k => by rw [spec_GridForms.l0, if_pos (by omega), if_pos (by omega), w5]) ?_
  refine Ev.bind (spec_mirror g n (by omega)) ?_
  refine Ev.ifp (by simp) ?_
  rw [hm]
  refine Ev.bind (spec_turn _ n (by rw [pickL_length, ((formP_table n hn).1 4 (by omega)).1]; omega)) ?_
  rw [turnV_form c 4 (by omega)]
  refine spec_forms_step g n c 5 (by omega) 5 (by omega) (by omega) _ (by simp) ?_
  refine spec_forms_step g n c 6 (by omega) 6 (by omega) (by omega) _ (by simp) ?_
  refine spec_forms_step g n c 7 (by omega) 7 (by omega) (by omega) _ (by simp) ?_
  exact (Ev.step (f := fun k => some _) (fun k => by rw [spec_GridForms.l0]; rw [if_neg (by omega)]; rfl) (Ev.now _)).eq rfl
theorem formsV_len16 (g : List Int) (s : Int) : ∀ x ∈ formsV g s, x.length ≤ 16 := by
  intro x hx
  by_cases v : gridB g s = true
  · obtain ⟨n, rfl, hn, hl⟩ := gridB_n v
    have hnn : n * n ≤ 16 := by rcases hn with rfl | rfl | rfl <;> decide
    unfold formsV at hx
    rw [if_pos v, Int.toNat_natCast] at hx
    obtain ⟨p, hp, rfl⟩ := List.mem_map.1 hx
    obtain ⟨i, hi, e0⟩ := List.mem_iff_getElem.1 hp
    have hi8 : i < 8 := by simpa [formP] using hi
    have e : p = formAt n i := by rw [← e0, formAt, List.getD_eq_getElem?_getD, List.getElem?_eq_getElem hi]; rfl
    rw [e, pickL_length, ((formP_table n hn).1 i hi8).1]; exact hnn
  · unfold formsV at hx; rw [if_neg v] at hx; cases hx
theorem totM_le (m : Nat) : ∀ (l : List (List Int)), (∀ x ∈ l, x.length ≤ m) → totM l ≤ l.length * m
  | [], _ => by simp [totM]
  | x :: l, h => by
    have h1 := h x (by simp)
    have h2 := totM_le m l (fun y hy => h y (by simp [hy]))
    simp only [totM, List.length_cons]
    rw [Nat.succ_mul]; omega
theorem FnExactGridForms : laws_FnExactGridForms.Pure := by
  intro g s hm hl hx hs
  apply Ev.rounds
  unfold laws_FnExactGridForms.f
  by_cases c : (g.length : Int) > 1048576
  · exact Ev.ifp c (Ev.now _)
  refine Ev.ifn c ?_
  have hn : g.length ≤ 1048576 := by omega
  have hr := formsV_len g s
  have h16 := formsV_len16 g s
  have ht := totM_le 16 _ h16
  have hmul : (formsV g s).length * 16 ≤ 8 * 16 := Nat.mul_le_mul_right _ hr
  have T := toIntS_ev g (by omega)
  refine Ev.bind T (Ev.bind (spec_forms g s (by omega)) (Ev.bind (impl_forms g s (by omega)) (Ev.bind (eqIntSS_self _ (fun x hx => by have := h16 x hx; omega) (by omega)) (Ev.ifp rfl ?_))))
  refine Ev.bind (eqIntS_self g (by omega)) (Ev.ifp rfl (Ev.bind (markIntS_ev g 1 (by omega) (by omega) (by omega)) (Ev.ifp (by show (0 : Int) ≤ 1 + (g.length : Int); omega) ?_)))
  refine Ev.bind (markIntSS_ev (formsV g s) 1 (by omega) (fun x hx => by have := h16 x hx; omega) (by omega) (by omega)) (Ev.ifp (by show (0 : Int) ≤ 1 + (totM (formsV g s) : Int); omega) ?_)
  exact Ev.bind (heldIntSS_ev (formsV g s) 1 (by omega) (fun x hx => by have := h16 x hx; omega) (by omega) (by omega)) (Ev.ifp rfl (Ev.now _))

end Go.Proofs.Ytniinbnpdnajjaa.Pure
