/- For all rows PictureOf of the program answers what PictureOf of the reference answers, in memory of its own, and leaves its argument as it was. No conditions beyond the types. -/
import Derived.Test.YtapnohcfnclleaaPFnExactPictureOfx7
namespace Go.Proofs.Ytapnohcfnclleaa.Pure
open Go.RowKit Go.Proofs.Ytapnohcfnclleaa.PFnExactPictureOf Go.Proofs.YtapnohcfnclleaaW.PrintWords Go.Proofs.YtapnohcfnclleaaW.PrintLast Go.Proofs.YtapnohcfnclleaaW.PrintMore
set_option linter.unusedVariables false
set_option linter.unusedSimpArgs false
/-! Ev: small steps. -/
theorem _root_.Go.Proofs.YtapnohcfnclleaaW.PrintWords.Ev.ifp {α : Type} {c : Prop} [Decidable c] {g f : Nat → Option α} {r : α} (hc : c) (h : Ev g r) : Ev (fun k => if c then g k else f k) r :=
 Ev.congr (fun _ => if_pos hc) h
theorem _root_.Go.Proofs.YtapnohcfnclleaaW.PrintWords.Ev.ifn {α : Type} {c : Prop} [Decidable c] {g f : Nat → Option α} {r : α} (hc : ¬ c) (h : Ev f r) : Ev (fun k => if c then g k else f k) r :=
 Ev.congr (fun _ => if_neg hc) h
theorem _root_.Go.Proofs.YtapnohcfnclleaaW.PrintWords.Ev.bindc {α β : Type} {o : Option α} {f : Nat → α → Option β} {a : α} {r : β} (h : o = some a) (k : Ev (fun n => f n a) r) : Ev (fun n => o.bind (f n)) r := by
 subst h; exact k
theorem _root_.Go.Proofs.YtapnohcfnclleaaW.PrintWords.Ev.eq {α : Type} {g : Nat → Option α} {r r' : α} (h : Ev g r) (e : r = r') : Ev g r' := e ▸ h
theorem w64 {x : Int} (h0 : -9223372036854775808 ≤ x) (h1 : x ≤ 9223372036854775807) : wrap64 x = x := by unfold wrap64; omega
theorem rd_nat (xs : List Int) (i : Nat) (h : i < xs.length) : rd xs (i : Int) = xs[i] := by
 simp [rd, List.getD_eq_getElem?_getD, h]
theorem rdL_nat (xs : List (List Int)) (i : Nat) (h : i < xs.length) : rd_L1 xs (i : Int) = xs[i] := by
 simp [rd_L1, List.getD_eq_getElem?_getD, h]
theorem rdB_nat (xs : List (List Bool)) (i : Nat) (h : i < xs.length) : rd_L3 xs (i : Int) = xs[i] := by
 simp [rd_L3, List.getD_eq_getElem?_getD, h]
/-- The clue of a line, r cells being filled ahead of it. -/
def clueR : Int → List Bool → List Int
 | r, [] => if 0 < r then [r] else []
 | r, true :: l => clueR (r + 1) l
 | r, false :: l => if 0 < r then r :: clueR 0 l else clueR 0 l
/-- What ClueOf answers. -/
def clueL (l : List Bool) : List Int := if l.length ≤ 8 then clueR 0 l else []
theorem rdOf_nat (xs : List Bool) (i : Nat) (h : i < xs.length) : rdOf false xs (i : Int) = xs[i] := by
 simp [rdOf, List.getD_eq_getElem?_getD, h]
theorem clueR_f : ∀ (l : List Bool) (r : Int), clueR r (l ++ [false]) = clueR r l := by
 intro l
 induction l with
 | nil => intro r; simp [clueR]
 | cons b l ih =>
  intro r
  cases b
  ·simp only [List.cons_append, clueR, ih]
  ·simp only [List.cons_append, clueR, ih]
theorem clueR_ft : ∀ (l : List Bool) (r : Int), clueR r (l ++ [false] ++ [true]) = clueR r l ++ [1] := by
 intro l
 induction l with
 | nil =>
  intro r
  by_cases h : 0 < r <;> simp [clueR, h]
 | cons b l ih =>
  intro r
  cases b
  ·simp only [List.cons_append, clueR]
   rw [ih]
   by_cases h : 0 < r <;> simp [h]
  ·simp only [List.cons_append, clueR]
   exact ih _
theorem clueR_tt : ∀ (l : List Bool) (r : Int), 0 ≤ r → ∃ ys z, clueR r (l ++ [true]) = ys ++ [z] ∧ clueR r (l ++ [true] ++ [true]) = ys ++ [z + 1] := by
 intro l
 induction l with
 | nil =>
  intro r hr
  refine ⟨[], r + 1, ?_, ?_⟩
  ·simp [clueR]; omega
  ·simp [clueR]; omega
 | cons b l ih =>
  intro r hr
  cases b
  ·obtain ⟨ys, z, h1, h2⟩ := ih 0 (by omega)
   by_cases h : 0 < r
   ·refine ⟨r :: ys, z, ?_, ?_⟩
    ·simp only [List.cons_append, clueR, h, if_true, h1]
    ·simp only [List.cons_append, clueR, h, if_true]
     rw [h2]
   ·refine ⟨ys, z, ?_, ?_⟩
    ·simp only [List.cons_append, clueR, h, if_false, h1]
    ·simp only [List.cons_append, clueR, h, if_false]
     rw [h2]
  ·obtain ⟨ys, z, h1, h2⟩ := ih (r + 1) (by omega)
   exact ⟨ys, z, by simpa only [List.cons_append, clueR] using h1, by simpa only [List.cons_append, clueR] using h2⟩
theorem clueR_le : ∀ (l : List Bool) (r : Int), 0 ≤ r → ∀ x ∈ clueR r l, 1 ≤ x ∧ x ≤ r + l.length := by
 intro l
 induction l with
 | nil =>
  intro r hr x hx
  simp only [clueR] at hx
  split at hx
  ·simp at hx; simp; omega
  ·simp at hx
 | cons b l ih =>
  intro r hr x hx
  cases b
  ·simp only [clueR] at hx
   split at hx
   ·rcases List.mem_cons.1 hx with hx | hx
    ·simp; omega
    ·have := ih 0 (by omega) x hx; simp; omega
   ·have := ih 0 (by omega) x hx; simp; omega
  ·simp only [clueR] at hx
   have := ih (r + 1) (by omega) x hx; simp; omega
theorem clueR_len : ∀ (l : List Bool) (r : Int), (clueR r l).length ≤ l.length + 1 := by
 intro l
 induction l with
 | nil => intro r; simp only [clueR]; split <;> simp
 | cons b l ih =>
  intro r
  cases b
  ·simp only [clueR]
   have := ih 0
   split <;> (simp; omega)
  ·simp only [clueR]
   have := ih (r + 1)
   simp; omega
theorem clueL_len (l : List Bool) : (clueL l).length ≤ 9 := by
 unfold clueL
 split
 ·have := clueR_len l 0; omega
 ·simp
theorem spec_clueof_end (l : List Bool) (out : List Int) (run : Int) (h8 : l.length ≤ 8) : Ev (fun k => spec_ClueOf.l0 k l out run ((l.length + 1 : Nat) : Int)) out := by
 refine Ev.step (fun k => by rw [spec_ClueOf.l0]) (Ev.ifn (by omega) ?_)
 exact Ev.step (fun k => by rw [spec_ClueOf.j1]) (Ev.ifn (by decide) (Ev.now _))
theorem spec_clueof_l (l : List Bool) (h8 : l.length ≤ 8) : ∀ (d i : Nat) (run : Int) (out : List Int), l.length = i + d → 0 ≤ run → run ≤ i → out.length ≤ i →
  Ev (fun k => spec_ClueOf.l0 k l out run i) (out ++ clueR run (l.drop i)) := by
 intro d
 induction d with
 | zero =>
  intro i run out hi h0 h1 h2
  have hw : wrap64 ((i : Int) + 1) = ((l.length + 1 : Nat) : Int) := by rw [w64 (by omega) (by omega)]; omega
  refine Ev.step (fun k => by rw [spec_ClueOf.l0]) (Ev.ifp (by omega) ?_)
  refine Ev.step (fun k => by rw [spec_ClueOf.j1]) (Ev.ifp (by simp; omega) (Ev.ifn (by omega) ?_))
  refine Ev.step (fun k => by rw [spec_ClueOf.j2]) (Ev.ifn (by decide) ?_)
  rw [hw, List.drop_eq_nil_of_le (by omega)]
  by_cases c : run > 0
  ·refine Ev.ifp c (Ev.ifp (by omega) (Ev.eq (spec_clueof_end l _ _ h8) ?_))
   simp [clueR, show 0 < run from c]
  ·refine Ev.ifn c (Ev.eq (spec_clueof_end l _ _ h8) ?_)
   have : ¬ 0 < run := c
   simp [clueR, this]
 | succ d ih =>
  intro i run out hi h0 h1 h2
  have hlt : i < l.length := by omega
  have hw : wrap64 ((i : Int) + 1) = ((i + 1 : Nat) : Int) := by rw [w64 (by omega) (by omega)]; omega
  refine Ev.step (fun k => by rw [spec_ClueOf.l0]) (Ev.ifp (by omega) ?_)
  refine Ev.step (fun k => by rw [spec_ClueOf.j1]) (Ev.ifp (by simp; omega) (Ev.ifp (by omega) (Ev.ifp (by omega) ?_)))
  refine Ev.step (fun k => by rw [spec_ClueOf.j2]) ?_
  rw [hw, rdOf_nat l i hlt, List.drop_eq_getElem_cons hlt]
  cases hb : l[i]
  ·refine Ev.ifn (by decide) ?_
   by_cases c : run > 0
   ·refine Ev.ifp c (Ev.ifp (by omega) (Ev.eq (ih (i + 1) 0 (out ++ [run]) (by omega) (by omega) (by omega) (by simp; omega)) ?_))
    simp [clueR, show 0 < run from c]
   ·have hr : run = 0 := by omega
    refine Ev.ifn c (Ev.eq (ih (i + 1) run out (by omega) (by omega) (by omega) (by omega)) ?_)
    simp [clueR, hr]
  ·refine Ev.ifp rfl ?_
   rw [w64 (x := run + 1) (by omega) (by omega)]
   refine Ev.eq (ih (i + 1) (run + 1) out (by omega) (by omega) (by omega) (by omega)) ?_
   simp [clueR]
theorem spec_clueof (l : List Bool) (hl : l.length ≤ 140737488351232) : Ev (fun k => spec_ClueOf.f k l) (clueL l) := by
 unfold spec_ClueOf.f clueL
 by_cases h8 : l.length ≤ 8
 ·exact Ev.eq (spec_clueof_l l h8 l.length 0 0 [] (by omega) (by omega) (by omega) (by simp)) (by rw [if_pos h8]; simp)
 ·refine Ev.step (fun k => by rw [spec_ClueOf.l0]) (Ev.ifp (by omega) ?_)
  exact Ev.step (fun k => by rw [spec_ClueOf.j1]) (Ev.ifn (by simp; omega) (Ev.eq (Ev.now _) (by rw [if_neg h8])))
theorem impl_clueof_l (l : List Bool) (h8 : l.length ≤ 8) : ∀ (d i : Nat), l.length = i + d →
  Ev (fun k => impl_ClueOf.l0 k l (clueR 0 (l.take i)) l l.length i) (clueR 0 l) := by
 intro d
 induction d with
 | zero =>
  intro i hi
  refine Ev.step (fun k => by rw [impl_ClueOf.l0]) (Ev.ifn (by omega) (Ev.eq (Ev.now _) ?_))
  rw [List.take_of_length_le (by omega)]
 | succ d ih =>
  intro i hi
  have hlt : i < l.length := by omega
  have hw : wrap64 ((i : Int) + 1) = ((i + 1 : Nat) : Int) := by rw [w64 (by omega) (by omega)]; omega
  have hlen := clueR_len (l.take i) 0
  rw [List.length_take] at hlen
  have h1 := ih (i + 1) (by omega)
  have ht : l.take (i + 1) = l.take i ++ [l[i]] := by rw [List.take_succ_eq_append_getElem hlt]
  refine Ev.step (fun k => by rw [impl_ClueOf.l0]) (Ev.ifp (by omega) (Ev.ifp (by omega) (Ev.ifp (by omega) ?_)))
  rw [hw, rdOf_nat l i hlt]
  cases hb : l[i]
  ·refine Ev.ifn (by decide) ?_
   rw [ht, hb, clueR_f] at h1
   exact h1
  ·refine Ev.ifp rfl ?_
   by_cases c : (i : Int) > 0
   ·have hlt1 : i - 1 < l.length := by omega
    have hw1 : wrap64 ((i : Int) - 1) = ((i - 1 : Nat) : Int) := by rw [w64 (by omega) (by omega)]; omega
    have ht1 : l.take i = l.take (i - 1) ++ [l[i - 1]] := by
     have := List.take_succ_eq_append_getElem hlt1
     rw [show i - 1 + 1 = i by omega] at this
     exact this
    rw [hw1, rdOf_nat l (i - 1) hlt1]
    refine Ev.ifp c (Ev.ifp (by omega) (Ev.ifp (by omega) ?_))
    cases hb1 : l[i - 1]
    ·refine Ev.ifn (by decide) (Ev.ifp (by omega) ?_)
     rw [ht, hb, ht1, hb1, clueR_ft] at h1
     rw [ht1, hb1, clueR_f]
     exact h1
    ·obtain ⟨ys, z, g1, g2⟩ := clueR_tt (l.take (i - 1)) 0 (by omega)
     have e1 : clueR 0 (l.take i) = ys ++ [z] := by rw [ht1, hb1]; exact g1
     have e2 : clueR 0 (l.take (i + 1)) = ys ++ [z + 1] := by rw [ht, hb, ht1, hb1]; exact g2
     have hz := clueR_le (l.take i) 0 (by omega) z (by rw [e1]; simp)
     rw [List.length_take] at hz
     rw [e1] at hlen ⊢
     rw [e2] at h1
     have hyl : (ys ++ [z]).length = ys.length + 1 := by simp
     have hw2 : wrap64 (((ys ++ [z]).length : Int) - 1) = ((ys.length : Nat) : Int) := by rw [w64 (by omega) (by omega)]; omega
     have hr : rd (ys ++ [z]) ((ys.length : Nat) : Int) = z := by rw [rd_nat _ _ (by omega)]; simp
     rw [hw2, hr, w64 (x := z + 1) (by omega) (by omega)]
     refine Ev.ifp rfl (Ev.ifp (by omega) (Ev.ifp (by omega) ?_))
     have hs : (ys ++ [z]).set ((ys.length : Nat) : Int).toNat (z + 1) = ys ++ [z + 1] := by
      rw [Int.toNat_natCast, List.set_append_right _ _ (Nat.le_refl _)]; simp
     rw [hs]; exact h1
   ·have hi0 : i = 0 := by omega
    subst hi0
    refine Ev.ifn c (Ev.ifp (by omega) ?_)
    rw [ht, hb] at h1
    simpa [clueR] using h1
theorem impl_clueof (l : List Bool) (hl : l.length ≤ 140737488351232) : Ev (fun k => impl_ClueOf.f k l) (clueL l) := by
 unfold impl_ClueOf.f clueL
 by_cases h8 : l.length ≤ 8
 ·refine Ev.ifn (by omega) (Ev.eq (?_ : Ev _ (clueR 0 l)) (by rw [if_pos h8]))
  have := impl_clueof_l l h8 l.length 0 (by omega)
  simpa [clueR] using this
 ·exact Ev.ifp (by omega) (Ev.eq (Ev.now _) (by rw [if_neg h8]))
/-! PictureOf, exactly. -/
def colB (l : List (List Bool)) (c : Nat) : List Bool := l.map (fun r => r.getD c false)
def colsV (l : List (List Bool)) (W : Nat) : List (List Int) := (List.range W).map (fun c => clueL (colB l c))
def picOfV (l : List (List Bool)) : List (List Int) × List (List Int) × Bool :=
 if 1 ≤ l.length ∧ l.length ≤ 5 ∧ 1 ≤ (l.getD 0 []).length ∧ (l.getD 0 []).length ≤ 5 ∧ ∀ x ∈ l, x.length = (l.getD 0 []).length then (l.map clueL, colsV l (l.getD 0 []).length, true) else ([], [], false)
theorem colB_length (l : List (List Bool)) (c : Nat) : (colB l c).length = l.length := by simp [colB]
theorem colB_take (l : List (List Bool)) (c i : Nat) (h : i < l.length) : colB (l.take (i + 1)) c = colB (l.take i) c ++ [(l[i]).getD c false] := by
 unfold colB; rw [List.take_succ_eq_append_getElem h, List.map_append]; rfl
theorem colsV_succ (l : List (List Bool)) (W : Nat) : colsV l (W + 1) = colsV l W ++ [clueL (colB l W)] := by simp [colsV, List.range_succ]
theorem colsV_length (l : List (List Bool)) (W : Nat) : (colsV l W).length = W := by simp [colsV]
theorem get0 (l : List (List Bool)) (h : 0 < l.length) : rd_L3 l 0 = l.getD 0 [] := by
 rw [show rd_L3 l 0 = l[0] from rdB_nat l 0 h, List.getD_eq_getElem?_getD, List.getElem?_eq_getElem h]; rfl
theorem getB (r : List Bool) (c : Nat) (h : c < r.length) : rdOf false r (c : Int) = r.getD c false := by
 rw [rdOf_nat r c h, List.getD_eq_getElem?_getD, List.getElem?_eq_getElem h]; rfl
theorem ownrows_l' (l : List (List Bool)) (hl : l.length ≤ 1048576) (hx : ∀ x ∈ l, x.length ≤ 1048576) : ∀ (d i : Nat), l.length = i + d → Ev (fun k => spec_l1OwnRowsBool.l0 k l (l.take i) i) l := by
 intro d
 induction d with
 | zero =>
  intro i hi
  rw [List.take_of_length_le (by omega)]
  exact Ev.step (fun k => by rw [spec_l1OwnRowsBool.l0]) (Ev.ifn (by omega) (Ev.now _))
 | succ d ih =>
  intro i hi
  have hw : wrap64 ((i : Int) + 1) = ((i + 1 : Nat) : Int) := by rw [w64 (by omega) (by omega)]; omega
  have hlt : i < l.length := by omega
  have h1 := hx _ (List.getElem_mem hlt)
  have h := ih (i + 1) (by omega)
  rw [List.take_succ_eq_append_getElem hlt] at h
  refine Ev.step (fun k => by rw [spec_l1OwnRowsBool.l0]) ?_
  rw [rdB_nat l i hlt, hw]
  refine Ev.ifp (by omega) ?_
  refine Ev.bindc rfl ?_
  refine Ev.ifp (by omega) (Ev.ifp (by simp only [List.length_nil]; omega) (Ev.ifp (by rw [List.length_take]; omega) ?_))
  rw [List.nil_append]
  exact h
theorem ownrows_ev (l : List (List Bool)) (hl : l.length ≤ 1048576) (hx : ∀ x ∈ l, x.length ≤ 1048576) : Ev (fun k => spec_l1OwnRowsBool.f k l) l := by
 unfold spec_l1OwnRowsBool.f
 exact ownrows_l' l hl hx l.length 0 (by omega)
theorem columnB_l (l : List (List Bool)) (hl : l.length ≤ 1048576) (c : Nat) (hx : ∀ x ∈ l, c < x.length) : ∀ (d i : Nat), l.length = i + d → Ev (fun k => spec_l13Column.l0 k l c (colB (l.take i) c) i) (colB l c) := by
 intro d
 induction d with
 | zero =>
  intro i hi
  refine Ev.step (fun k => by rw [spec_l13Column.l0]) (Ev.ifn (by omega) (Ev.eq (Ev.now _) ?_))
  rw [List.take_of_length_le (by omega)]
 | succ d ih =>
  intro i hi
  have hw : wrap64 ((i : Int) + 1) = ((i + 1 : Nat) : Int) := by rw [w64 (by omega) (by omega)]; omega
  have hlt : i < l.length := by omega
  have h1 := hx _ (List.getElem_mem hlt)
  have hr := ih (i + 1) (by omega)
  rw [colB_take l c i hlt] at hr
  refine Ev.step (fun k => by rw [spec_l13Column.l0]) ?_
  rw [rdB_nat l i hlt, hw, getB _ _ h1]
  exact Ev.ifp (by omega) (Ev.ifp (by omega) (Ev.ifp (by omega) (Ev.ifp (by omega) (Ev.ifp (by rw [colB_length, List.length_take]; omega) hr))))
theorem columnB_ev (l : List (List Bool)) (hl : l.length ≤ 1048576) (c : Nat) (hx : ∀ x ∈ l, c < x.length) : Ev (fun k => spec_l13Column.f k l c) (colB l c) := by
 unfold spec_l13Column.f
 exact columnB_l l hl c hx l.length 0 (by omega)
theorem l1In_fp (x a b : Int) : spec_l1In.f x a b = some (decide (a ≤ x ∧ x ≤ b)) := by
 unfold spec_l1In.f
 by_cases c : x ≥ a
 ·rw [if_pos c]; simp [show a ≤ x from c]
 ·rw [if_neg c]; simp [show ¬ a ≤ x from c]
theorem picofs_l1 (l : List (List Bool)) (hl : l.length ≤ 5) (hl1 : 1 ≤ l.length) (hx : ∀ x ∈ l, x.length = (l.getD 0 []).length) (hW : (l.getD 0 []).length ≤ 5) (A : List (List Int)) : ∀ (d c : Nat), (l.getD 0 []).length = c + d →
  Ev (fun k => spec_PictureOf.l1 k l c A (colsV l c)) (A, colsV l (l.getD 0 []).length, true) := by
 intro d
 induction d with
 | zero =>
  intro c hc
  refine Ev.step (fun k => by rw [spec_PictureOf.l1]) ?_
  rw [get0 l (by omega)]
  refine Ev.ifp (by omega) (Ev.ifn (by omega) (Ev.eq (Ev.now _) ?_))
  rw [show c = (l.getD 0 []).length by omega]
 | succ d ih =>
  intro c hc
  have hw : wrap64 ((c : Int) + 1) = ((c + 1 : Nat) : Int) := by rw [w64 (by omega) (by omega)]; omega
  have h := ih (c + 1) (by omega)
  rw [colsV_succ] at h
  refine Ev.step (fun k => by rw [spec_PictureOf.l1]) ?_
  rw [get0 l (by omega), hw]
  refine Ev.ifp (by omega) (Ev.ifp (by omega) ?_)
  refine Ev.bind (columnB_ev l (by omega) c (fun x hx2 => by rw [hx x hx2]; omega)) (Ev.bind (spec_clueof (colB l c) (by rw [colB_length]; omega)) ?_)
  exact Ev.ifp (by rw [colsV_length]; omega) h
theorem picofs_l0 (l : List (List Bool)) (hl : l.length ≤ 5) (hl1 : 1 ≤ l.length) (hxb : ∀ x ∈ l, x.length ≤ 1048576) (hW : (l.getD 0 []).length ≤ 5) : ∀ (d i : Nat), l.length = i + d → (∀ x ∈ l.take i, x.length = (l.getD 0 []).length) →
  Ev (fun k => spec_PictureOf.l0 k l i ((l.take i).map clueL)) (if ∀ x ∈ l, x.length = (l.getD 0 []).length then (l.map clueL, colsV l (l.getD 0 []).length, true) else ([], [], false)) := by
 intro d
 induction d with
 | zero =>
  intro i hi hp
  rw [List.take_of_length_le (by omega)] at hp ⊢
  rw [if_pos hp]
  refine Ev.step (fun k => by rw [spec_PictureOf.l0]) ?_
  exact Ev.ifn (by omega) (picofs_l1 l hl hl1 hp hW _ (l.getD 0 []).length 0 (by omega))
 | succ d ih =>
  intro i hi hp
  have hw : wrap64 ((i : Int) + 1) = ((i + 1 : Nat) : Int) := by rw [w64 (by omega) (by omega)]; omega
  have hlt : i < l.length := by omega
  have h0 := hxb _ (List.getElem_mem hlt)
  refine Ev.step (fun k => by rw [spec_PictureOf.l0]) ?_
  rw [rdB_nat l i hlt, get0 l (by omega), hw]
  refine Ev.ifp (by omega) (Ev.ifp (by omega) (Ev.ifp (by omega) ?_))
  by_cases c : l[i].length = (l.getD 0 []).length
  ·refine Ev.ifp (by omega) ?_
   refine Ev.bind (spec_clueof l[i] (by omega)) (Ev.ifp (by rw [List.length_map, List.length_take]; omega) ?_)
   have h := ih (i + 1) (by omega) (by
    intro x hx
    rw [List.take_succ_eq_append_getElem hlt] at hx
    rcases List.mem_append.1 hx with h | h
    ·exact hp x h
    ·rw [List.mem_singleton.1 h]; exact c)
   rw [show (l.take (i + 1)).map clueL = (l.take i).map clueL ++ [clueL l[i]] by rw [List.take_succ_eq_append_getElem hlt, List.map_append]; rfl] at h
   exact h
  ·refine Ev.ifn (by omega) (Ev.eq (Ev.now _) ?_)
   rw [if_neg (fun h => c (h _ (List.getElem_mem hlt)))]
theorem picofs_ev (l : List (List Bool)) (hl : l.length ≤ 1048576) (hx : ∀ x ∈ l, x.length ≤ 1048576) : Ev (fun k => spec_PictureOf.f k l) (picOfV l) := by
 unfold spec_PictureOf.f
 refine Ev.bind (ownrows_ev l hl hx) (Ev.bindc (l1In_fp _ _ _) ?_)
 by_cases c : 1 ≤ l.length ∧ l.length ≤ 5
 ·have d1 : decide (1 ≤ (l.length : Int) ∧ (l.length : Int) ≤ 5) = true := decide_eq_true ⟨by omega, by omega⟩
  refine Ev.ifp d1 (Ev.ifp (by omega) (Ev.bindc (l1In_fp _ _ _) ?_))
  rw [get0 l (by omega)]
  by_cases c2 : 1 ≤ (l.getD 0 []).length ∧ (l.getD 0 []).length ≤ 5
  ·have d2 : decide ((1 : Int) ≤ (((l.getD 0 []).length : Nat) : Int) ∧ (((l.getD 0 []).length : Nat) : Int) ≤ (5 : Int)) = true := decide_eq_true ⟨by omega, by omega⟩
   rw [d2]
   refine Ev.step (fun k => by rw [spec_PictureOf.j0]) ?_
   refine Ev.ifn (by simp) (Ev.eq (picofs_l0 l c.2 c.1 hx c2.2 l.length 0 (by omega) (by simp)) ?_)
   unfold picOfV
   by_cases c3 : ∀ x ∈ l, x.length = (l.getD 0 []).length
   ·rw [if_pos c3, if_pos ⟨c.1, c.2, c2.1, c2.2, c3⟩]
   ·rw [if_neg c3, if_neg (fun h => c3 h.2.2.2.2)]
  ·have d2 : decide ((1 : Int) ≤ (((l.getD 0 []).length : Nat) : Int) ∧ (((l.getD 0 []).length : Nat) : Int) ≤ (5 : Int)) = false := decide_eq_false (fun h => c2 ⟨by omega, by omega⟩)
   rw [d2]
   refine Ev.step (fun k => by rw [spec_PictureOf.j0]) ?_
   refine Ev.ifp (by simp) (Ev.eq (Ev.now _) ?_)
   unfold picOfV
   rw [if_neg (fun h => c2 ⟨h.2.2.1, h.2.2.2.1⟩)]
 ·have d1 : decide (1 ≤ (l.length : Int) ∧ (l.length : Int) ≤ 5) = false := decide_eq_false (fun h => c ⟨by omega, by omega⟩)
  refine Ev.ifn (by rw [d1]; simp) ?_
  refine Ev.step (fun k => by rw [spec_PictureOf.j0]) ?_
  refine Ev.ifp (by simp) (Ev.eq (Ev.now _) ?_)
  unfold picOfV
  rw [if_neg (fun h => c ⟨h.1, h.2.1⟩)]
theorem picofi_l2 (l : List (List Bool)) (hl : l.length ≤ 1048576) (c : Nat) (hx : ∀ x ∈ l, c < x.length) (W : Int) (A B : List (List Int)) (hB : B.length ≤ 1000) (r : List (List Int) × List (List Int) × Bool)
  (K : Ev (fun k => impl_PictureOf.l1 k l W (wrap64 ((c : Int) + 1)) A (B ++ [clueL (colB l c)])) r) : ∀ (d i : Nat), l.length = i + d → Ev (fun k => impl_PictureOf.l2 k l c (colB (l.take i) c) W c l l.length i A B) r := by
 intro d
 induction d with
 | zero =>
  intro i hi
  refine Ev.step (fun k => by rw [impl_PictureOf.l2]) (Ev.ifn (by omega) ?_)
  rw [List.take_of_length_le (by omega)]
  exact Ev.bind (impl_clueof (colB l c) (by rw [colB_length]; omega)) (Ev.ifp (by omega) K)
 | succ d ih =>
  intro i hi
  have hw : wrap64 ((i : Int) + 1) = ((i + 1 : Nat) : Int) := by rw [w64 (by omega) (by omega)]; omega
  have hlt : i < l.length := by omega
  have h1 := hx _ (List.getElem_mem hlt)
  have hr := ih (i + 1) (by omega)
  rw [colB_take l c i hlt] at hr
  refine Ev.step (fun k => by rw [impl_PictureOf.l2]) ?_
  rw [rdB_nat l i hlt, hw, getB _ _ h1]
  exact Ev.ifp (by omega) (Ev.ifp (by omega) (Ev.ifp (by omega) (Ev.ifp (by omega) (Ev.ifp (by omega) (Ev.ifp (by rw [colB_length, List.length_take]; omega) hr)))))
theorem picofi_l1 (l : List (List Bool)) (hl : l.length ≤ 5) (hl1 : 1 ≤ l.length) (hx : ∀ x ∈ l, x.length = (l.getD 0 []).length) (hW : (l.getD 0 []).length ≤ 5) (A : List (List Int)) : ∀ (d c : Nat), (l.getD 0 []).length = c + d →
  Ev (fun k => impl_PictureOf.l1 k l (l.getD 0 []).length c A (colsV l c)) (A, colsV l (l.getD 0 []).length, true) := by
 intro d
 induction d with
 | zero =>
  intro c hc
  refine Ev.step (fun k => by rw [impl_PictureOf.l1]) ?_
  refine Ev.ifn (by omega) (Ev.eq (Ev.now _) ?_)
  rw [show c = (l.getD 0 []).length by omega]
 | succ d ih =>
  intro c hc
  have hw : wrap64 ((c : Int) + 1) = ((c + 1 : Nat) : Int) := by rw [w64 (by omega) (by omega)]; omega
  have h := ih (c + 1) (by omega)
  rw [colsV_succ] at h
  refine Ev.step (fun k => by rw [impl_PictureOf.l1]) ?_
  refine Ev.ifp (by omega) ?_
  have h2 := picofi_l2 l (by omega) c (fun x hx2 => by rw [hx x hx2]; omega) (((l.getD 0 []).length : Nat) : Int) A (colsV l c) (by rw [colsV_length]; omega) _ (by rw [hw]; exact h) l.length 0 (by omega)
  exact h2
theorem picofi_l0 (l : List (List Bool)) (hl : l.length ≤ 5) (hl1 : 1 ≤ l.length) (hxb : ∀ x ∈ l, x.length ≤ 1048576) (hW : (l.getD 0 []).length ≤ 5) : ∀ (d i : Nat), l.length = i + d → (∀ x ∈ l.take i, x.length = (l.getD 0 []).length) →
  Ev (fun k => impl_PictureOf.l0 k l l l.length i ((l.take i).map clueL)) (if ∀ x ∈ l, x.length = (l.getD 0 []).length then (l.map clueL, colsV l (l.getD 0 []).length, true) else ([], [], false)) := by
 intro d
 induction d with
 | zero =>
  intro i hi hp
  rw [List.take_of_length_le (by omega)] at hp ⊢
  rw [if_pos hp]
  refine Ev.step (fun k => by rw [impl_PictureOf.l0]) ?_
  rw [get0 l (by omega)]
  have h1 := picofi_l1 l hl hl1 hp hW (l.map clueL) (l.getD 0 []).length 0 (by omega)
  exact Ev.ifn (by omega) (Ev.ifp (by omega) h1)
 | succ d ih =>
  intro i hi hp
  have hw : wrap64 ((i : Int) + 1) = ((i + 1 : Nat) : Int) := by rw [w64 (by omega) (by omega)]; omega
  have hlt : i < l.length := by omega
  have h0 := hxb _ (List.getElem_mem hlt)
  refine Ev.step (fun k => by rw [impl_PictureOf.l0]) ?_
  rw [rdB_nat l i hlt, get0 l (by omega), hw]
  refine Ev.ifp (by omega) (Ev.ifp (by omega) (Ev.ifp (by omega) (Ev.ifp (by omega) ?_)))
  by_cases c : l[i].length = (l.getD 0 []).length
  ·refine Ev.ifp (by omega) ?_
   refine Ev.bind (impl_clueof l[i] (by omega)) (Ev.ifp (by rw [List.length_map, List.length_take]; omega) ?_)
   have h := ih (i + 1) (by omega) (by
    intro x hx
    rw [List.take_succ_eq_append_getElem hlt] at hx
    rcases List.mem_append.1 hx with h | h
    ·exact hp x h
    ·rw [List.mem_singleton.1 h]; exact c)
   rw [show (l.take (i + 1)).map clueL = (l.take i).map clueL ++ [clueL l[i]] by rw [List.take_succ_eq_append_getElem hlt, List.map_append]; rfl] at h
   exact h
  ·refine Ev.ifn (by omega) (Ev.eq (Ev.now _) ?_)
   rw [if_neg (fun h => c (h _ (List.getElem_mem hlt)))]
theorem picofi_ev (l : List (List Bool)) (hl : l.length ≤ 1048576) (hx : ∀ x ∈ l, x.length ≤ 1048576) : Ev (fun k => impl_PictureOf.f k l) (picOfV l) := by
 have bad : ∀ b : Bool, b = true → picOfV l = ([], [], false) → Ev (fun k => impl_PictureOf.j0 k l b) (picOfV l) := by
  intro b hb he
  refine Ev.step (fun k => by rw [impl_PictureOf.j0]) ?_
  exact Ev.ifp hb (Ev.eq (Ev.now _) he.symm)
 unfold impl_PictureOf.f
 by_cases c : (l.length : Int) < 1
 ·exact Ev.ifp c (bad _ rfl (by unfold picOfV; rw [if_neg (fun h => by have := h.1; omega)]))
 refine Ev.ifn c ?_
 by_cases c1 : (l.length : Int) > 5
 ·exact Ev.ifp c1 (bad _ rfl (by unfold picOfV; rw [if_neg (fun h => by have := h.2.1; omega)]))
 refine Ev.ifn c1 (Ev.ifp (by omega) ?_)
 rw [get0 l (by omega)]
 by_cases c2 : ((l.getD 0 []).length : Int) < 1
 ·exact Ev.ifp c2 (bad _ rfl (by unfold picOfV; rw [if_neg (fun h => by have := h.2.2.1; omega)]))
 refine Ev.ifn c2 ?_
 by_cases c3 : ((l.getD 0 []).length : Int) > 5
 ·exact bad _ (decide_eq_true c3) (by unfold picOfV; rw [if_neg (fun h => by have := h.2.2.2.1; omega)])
 ·rw [decide_eq_false c3]
  refine Ev.step (fun k => by rw [impl_PictureOf.j0]) ?_
  refine Ev.ifn (by simp) (Ev.eq (picofi_l0 l (by omega) (by omega) hx (by omega) l.length 0 (by omega) (by simp)) ?_)
  unfold picOfV
  by_cases c4 : ∀ x ∈ l, x.length = (l.getD 0 []).length
  ·rw [if_pos c4, if_pos ⟨by omega, by omega, by omega, by omega, c4⟩]
  ·rw [if_neg c4, if_neg (fun h => c4 h.2.2.2.2)]
def totb : List (List Bool) → Nat
 | [] => 0
 | x :: l => x.length + totb l
theorem totb_mem : ∀ (l : List (List Bool)), ∀ x ∈ l, x.length ≤ totb l := by
 intro l
 induction l with
 | nil => intro x hx; simp at hx
 | cons y l ih =>
  intro x hx
  simp only [totb]
  rcases List.mem_cons.1 hx with hx | hx
  ·subst hx; omega
  ·have := ih x hx; omega
theorem szBoolS_f (l : List Bool) (a : Int) (hl : l.length ≤ 9223372036854775807) (h0 : 0 ≤ a) (h1 : a ≤ 1048576) : laws_szBoolS.f l a = some (if (l.length : Int) ≤ a then a - l.length else -1) := by
 unfold laws_szBoolS.f
 rw [w64 (by omega) (by omega)]
 by_cases c : (l.length : Int) ≤ a
 ·rw [if_neg (by omega), if_pos c]
 ·rw [if_pos (by omega), if_neg c]
theorem szBoolSS_l (l : List (List Bool)) (hr : ∀ x ∈ l, x.length ≤ 9223372036854775807) (hl : l.length ≤ 1048576) : ∀ (d i : Nat) (a : Int), l.length = i + d → 0 ≤ a → a ≤ 1048576 →
  Ev (fun k => laws_szBoolSS.l0 k l a i) (if (totb (l.drop i) : Int) ≤ a then a - totb (l.drop i) else -1) := by
 intro d
 induction d with
 | zero =>
  intro i a hi h0 h1
  refine Ev.step (fun k => by rw [laws_szBoolSS.l0]) (Ev.ifn (by omega) (Ev.eq (Ev.now _) ?_))
  rw [List.drop_eq_nil_of_le (by omega)]; simp [totb, h0]
 | succ d ih =>
  intro i a hi h0 h1
  have hlt : i < l.length := by omega
  have hw : wrap64 ((i : Int) + 1) = ((i + 1 : Nat) : Int) := by rw [w64 (by omega) (by omega)]; omega
  refine Ev.step (fun k => by rw [laws_szBoolSS.l0]) ?_
  rw [rdB_nat l i hlt, hw, List.drop_eq_getElem_cons hlt]
  refine Ev.ifp (by omega) (Ev.ifp (by omega) (Ev.bindc (szBoolS_f _ a (hr _ (List.getElem_mem hlt)) h0 h1) ?_))
  rw [show totb (l[i] :: l.drop (i + 1)) = l[i].length + totb (l.drop (i + 1)) from rfl]
  by_cases c : (l[i].length : Int) ≤ a
  ·rw [if_pos c]
   refine Ev.ifn (by omega) (Ev.eq (ih (i + 1) _ (by omega) (by omega) (by omega)) ?_)
   by_cases c2 : (totb (l.drop (i + 1)) : Int) ≤ a - l[i].length
   ·rw [if_pos c2, if_pos (by omega)]; omega
   ·rw [if_neg c2, if_neg (by omega)]
  ·rw [if_neg c]
   refine Ev.ifp (by omega) (Ev.eq (Ev.now _) ?_)
   rw [if_neg (by omega)]
theorem szBoolSS_ev (l : List (List Bool)) (hr : ∀ x ∈ l, x.length ≤ 9223372036854775807) (hl : l.length ≤ 9223372036854775807) (a : Int) (h0 : 0 ≤ a) (h1 : a ≤ 1048576) :
  Ev (fun k => laws_szBoolSS.f k l a) (if (l.length : Int) + totb l ≤ a then a - l.length - totb l else -1) := by
 unfold laws_szBoolSS.f
 rw [w64 (by omega) (by omega)]
 by_cases c : a - (l.length : Int) < 0
 ·exact Ev.ifp c (Ev.eq (Ev.now _) (by rw [if_neg (by omega)]))
 refine Ev.ifn c (Ev.eq (szBoolSS_l l hr (by omega) l.length 0 _ (by omega) (by omega) (by omega)) ?_)
 rw [List.drop_zero]
 by_cases c2 : (totb l : Int) ≤ a - l.length
 ·rw [if_pos c2, if_pos (by omega)]
 ·rw [if_neg c2, if_neg (by omega)]
theorem toBoolS_l (xs : List Bool) (hn : xs.length ≤ 140737488351232) : ∀ (d : Nat) (ys : List Bool) (i : Nat), ys.length = xs.length → xs.length = i + d →
  Ev (fun k => laws_toBoolS.l0 k xs ys i) (ys.take i ++ xs.drop i) := by
 intro d
 induction d with
 | zero =>
  intro ys i hy hi
  refine Ev.step (fun k => by rw [laws_toBoolS.l0]) (Ev.ifn (by omega) (Ev.eq (Ev.now _) ?_))
  rw [List.drop_eq_nil_of_le (by omega), List.take_of_length_le (by omega)]; simp
 | succ d ih =>
  intro ys i hy hi
  have hw : wrap64 ((i : Int) + 1) = ((i + 1 : Nat) : Int) := by rw [w64 (by omega) (by omega)]; omega
  have hlt : i < xs.length := by omega
  refine Ev.step (fun k => by rw [laws_toBoolS.l0]) (Ev.ifp (by omega) (Ev.ifp (by omega) (Ev.ifp (by omega) ?_)))
  rw [rdOf_nat xs i hlt, hw, Int.toNat_natCast]
  refine Ev.eq (ih (ys.set i xs[i]) (i + 1) (by simp [hy]) (by omega)) ?_
  rw [List.take_add_one, List.take_set_of_le (Nat.le_refl i), List.drop_eq_getElem_cons hlt]
  simp [show i < ys.length by omega]
theorem toBoolS_ev (xs : List Bool) (hn : xs.length ≤ 140737488351232) : Ev (fun k => laws_toBoolS.f k xs) xs := by
 unfold laws_toBoolS.f
 refine Ev.ifp (by omega) (Ev.ifp (by omega) ?_)
 have h := toBoolS_l xs hn xs.length (List.replicate xs.length false) 0 (by simp) (by omega)
 simpa using h
theorem eqBoolS_l (a : List Bool) (hl : a.length ≤ 140737488351232) : ∀ (d i : Nat), a.length = i + d → Ev (fun k => laws_eqBoolS.l0 k a a i) true := by
 intro d
 induction d with
 | zero =>
  intro i hi
  exact Ev.step (fun k => by rw [laws_eqBoolS.l0]) (Ev.ifn (by omega) (Ev.now _))
 | succ d ih =>
  intro i hi
  have hw : wrap64 ((i : Int) + 1) = ((i + 1 : Nat) : Int) := by rw [w64 (by omega) (by omega)]; omega
  refine Ev.step (fun k => by rw [laws_eqBoolS.l0]) (Ev.ifp (by omega) (Ev.ifp (by omega) (Ev.ifp (by omega) (Ev.ifn (by simp) ?_))))
  rw [hw]; exact ih (i + 1) (by omega)
theorem eqBoolS_self (a : List Bool) (hl : a.length ≤ 140737488351232) : Ev (fun k => laws_eqBoolS.f k a a) true := by
 unfold laws_eqBoolS.f
 exact Ev.ifp rfl (eqBoolS_l a hl a.length 0 (by omega))
theorem toBoolSS_l (xs : List (List Bool)) (hr : ∀ x ∈ xs, x.length ≤ 35184372088832) (hn : xs.length ≤ 11728124029610) : ∀ (d : Nat) (ys : List (List Bool)) (i : Nat), ys.length = xs.length → xs.length = i + d →
  Ev (fun k => laws_toBoolSS.l0 k xs ys i) (ys.take i ++ xs.drop i) := by
 intro d
 induction d with
 | zero =>
  intro ys i hy hi
  refine Ev.step (f := fun _ => some ys) (fun k => ?_) ((Ev.now _).eq ?_)
  ·rw [laws_toBoolSS.l0]; rw [if_neg (by omega)]
  ·rw [List.drop_eq_nil_of_le (by omega), List.take_of_length_le (by omega)]; simp
 | succ d ih =>
  intro ys i hy hi
  have hw : wrap64 ((i : Int) + 1) = ((i + 1 : Nat) : Int) := by rw [w64 (by omega) (by omega)]; omega
  have hlt : i < xs.length := by omega
  refine Ev.step (fun k => by rw [laws_toBoolSS.l0]) ?_
  rw [rdB_nat xs i hlt, hw]
  refine Ev.ifp (by omega) (Ev.ifp (by omega) (Ev.bind (toBoolS_ev _ (by have := hr _ (List.getElem_mem hlt); omega)) (Ev.ifp (by omega) (Ev.eq (ih (ys.set i xs[i]) (i + 1) (by simp [hy]) (by omega)) ?_))))
  rw [List.take_add_one, List.take_set_of_le (Nat.le_refl i), List.drop_eq_getElem_cons hlt]
  simp [show i < ys.length by omega]
theorem toBoolSS_ev (xs : List (List Bool)) (hr : ∀ x ∈ xs, x.length ≤ 35184372088832) (hn : xs.length ≤ 11728124029610) : Ev (fun k => laws_toBoolSS.f k xs) xs := by
 unfold laws_toBoolSS.f
 refine Ev.ifp (by omega) (Ev.ifp (by omega) ?_)
 have h := toBoolSS_l xs hr hn xs.length (List.replicate xs.length []) 0 (by simp) (by omega)
 simpa using h
theorem eqIntS_l (a b : List Int) (h : a.length = b.length) (hl : a.length ≤ 140737488351232) : ∀ (d i : Nat), a.length = i + d → Ev (fun k => laws_eqIntS.l0 k a b i) (decide (a.drop i = b.drop i)) := by
 intro d
 induction d with
 | zero =>
  intro i hi
  refine Ev.step (f := fun _ => some (decide (a.drop i = b.drop i))) (fun k => ?_) (Ev.now _)
  rw [laws_eqIntS.l0]; rw [if_neg (by omega), List.drop_eq_nil_of_le (by omega), List.drop_eq_nil_of_le (by omega)]; simp
 | succ d ih =>
  intro i hi
  have ha : i < a.length := by omega
  have hb : i < b.length := by omega
  have hw : wrap64 ((i : Int) + 1) = ((i + 1 : Nat) : Int) := by rw [w64 (by omega) (by omega)]; omega
  by_cases c : a[i] = b[i]
  ·refine Ev.step (f := fun k => laws_eqIntS.l0 k a b ((i + 1 : Nat) : Int)) (fun k => ?_) ((ih (i + 1) (by omega)).eq ?_)
   ·rw [laws_eqIntS.l0]; rw [if_pos (by omega), if_pos (by omega), if_pos (by omega), rd_nat a i ha, rd_nat b i hb, if_pos c, hw]
   ·rw [List.drop_eq_getElem_cons ha, List.drop_eq_getElem_cons hb, c]; simp only [List.cons.injEq, true_and]
  ·refine Ev.step (f := fun k => some false) (fun k => ?_) ((Ev.now _).eq ?_)
   ·rw [laws_eqIntS.l0]; rw [if_pos (by omega), if_pos (by omega), if_pos (by omega), rd_nat a i ha, rd_nat b i hb, if_neg c]
   ·rw [List.drop_eq_getElem_cons ha, List.drop_eq_getElem_cons hb]; simp only [List.cons.injEq, c, false_and, decide_false]
theorem eqIntS_ev (a b : List Int) (hl : a.length ≤ 140737488351232) : Ev (fun k => laws_eqIntS.f k a b) (decide (a = b)) := by
 unfold laws_eqIntS.f
 by_cases h : a.length = b.length
 ·exact Ev.ifp (by omega) ((eqIntS_l a b h hl a.length 0 (by omega)).eq (by simp))
 ·refine Ev.ifn (by omega) ((Ev.now false).eq ?_)
  symm; simp; intro e; exact h (by rw [e])
theorem eqIntS_self (a : List Int) (hl : a.length ≤ 140737488351232) : Ev (fun k => laws_eqIntS.f k a a) true := (eqIntS_ev a a hl).eq (by simp)
theorem eqIntSS_self_l (a : List (List Int)) (hr : ∀ x ∈ a, x.length ≤ 140737488351232) (hl : a.length ≤ 140737488351232) : ∀ (d i : Nat), a.length = i + d → Ev (fun k => laws_eqIntSS.l0 k a a i) true := by
 intro d
 induction d with
 | zero => intro i hi; exact Ev.step (fun k => by rw [laws_eqIntSS.l0]) (Ev.ifn (by omega) (Ev.now _))
 | succ d ih =>
  intro i hi
  have hw : wrap64 ((i : Int) + 1) = ((i + 1 : Nat) : Int) := by rw [w64 (by omega) (by omega)]; omega
  have hlt : i < a.length := by omega
  refine Ev.step (fun k => by rw [laws_eqIntSS.l0]) ?_
  rw [rdL_nat a i hlt, hw]
  exact Ev.ifp (by omega) (Ev.ifp (by omega) (Ev.ifp (by omega) (Ev.bind (eqIntS_self _ (hr _ (List.getElem_mem hlt))) (Ev.ifp rfl (ih (i + 1) (by omega))))))
theorem eqIntSS_self (a : List (List Int)) (hr : ∀ x ∈ a, x.length ≤ 140737488351232) (hl : a.length ≤ 140737488351232) : Ev (fun k => laws_eqIntSS.f k a a) true := by
 unfold laws_eqIntSS.f
 exact Ev.ifp rfl (eqIntSS_self_l a hr hl a.length 0 (by omega))
/-- k, k + 1, .. -/
def upFrom (k : Int) : Nat → List Int
 | 0 => []
 | n + 1 => k :: upFrom (k + 1) n
theorem upFrom_length (n : Nat) : ∀ k, (upFrom k n).length = n := by
 induction n with
 | zero => intro k; rfl
 | succ n ih => intro k; simp [upFrom, ih]
theorem upFrom_get (n : Nat) : ∀ (k : Int) (i : Nat) (h : i < (upFrom k n).length), (upFrom k n)[i] = k + i := by
 induction n with
 | zero => intro k i h; simp [upFrom] at h
 | succ n ih =>
  intro k i h
  cases i with
  | zero => simp [upFrom]
  | succ i => simp only [upFrom, List.getElem_cons_succ]; rw [ih]; omega
theorem markIntS_l (n : Nat) : ∀ (d : Nat) (xs : List Int) (q : Int) (i : Nat), xs.length = n → n = i + d → 0 ≤ q → q + d ≤ 9223372036854775806 → n ≤ 140737488351232 →
  Ev (fun k => laws_markIntS.l0 k xs q i) (q + d, xs.take i ++ upFrom q d) := by
 intro d
 induction d with
 | zero =>
  intro xs q i hx hi h0 h1 hn
  refine Ev.step (f := fun _ => some (q, xs)) (fun k => ?_) ((Ev.now _).eq ?_)
  ·rw [laws_markIntS.l0]; rw [if_neg (by omega)]
  ·simp [upFrom]; exact (List.take_of_length_le (by omega)).symm
 | succ d ih =>
  intro xs q i hx hi h0 h1 hn
  have hw : wrap64 ((i : Int) + 1) = ((i + 1 : Nat) : Int) := by rw [w64 (by omega) (by omega)]; omega
  have hq : wrap64 (q + 1) = q + 1 := w64 (by omega) (by omega)
  refine Ev.step (f := fun k => laws_markIntS.l0 k (xs.set i q) (q + 1) ((i + 1 : Nat) : Int)) (fun k => ?_) ((ih (xs.set i q) (q + 1) (i + 1) (by simp [hx]) (by omega) (by omega) (by omega) hn).eq ?_)
  ·rw [laws_markIntS.l0]; rw [if_pos (by omega), if_pos (by omega), hw, hq]; simp
  ·refine Prod.ext (by simp; omega) ?_
   simp only [upFrom]
   rw [List.take_add_one, List.take_set_of_le (Nat.le_refl i)]
   simp [show i < xs.length by omega]
theorem markIntS_ev (xs : List Int) (q : Int) (h0 : 0 ≤ q) (h1 : q ≤ 1000000000) (hn : xs.length ≤ 140737488351232) :
  Ev (fun k => laws_markIntS.f k xs q) (q + xs.length, upFrom q xs.length) := by
 unfold laws_markIntS.f
 exact (markIntS_l xs.length xs.length xs q 0 rfl (by omega) h0 (by omega) hn).eq (by simp)
theorem heldIntS_l (q0 : Int) (h0 : 0 ≤ q0) (h1 : q0 ≤ 1000000000) (n : Nat) (hn : n ≤ 140737488351232) : ∀ (d i : Nat), n = i + d →
  Ev (fun k => laws_heldIntS.l0 k (upFrom q0 n) (q0 + i) i) (q0 + n) := by
 intro d
 induction d with
 | zero =>
  intro i hi
  refine Ev.step (f := fun _ => some (q0 + i)) (fun k => ?_) ((Ev.now _).eq (by omega))
  rw [laws_heldIntS.l0]; rw [upFrom_length, if_neg (by omega)]
 | succ d ih =>
  intro i hi
  have hw : wrap64 ((i : Int) + 1) = ((i + 1 : Nat) : Int) := by rw [w64 (by omega) (by omega)]; omega
  have hq : wrap64 (q0 + i + 1) = q0 + ((i + 1 : Nat) : Int) := by rw [w64 (by omega) (by omega)]; omega
  refine Ev.step (f := fun k => laws_heldIntS.l0 k (upFrom q0 n) (q0 + ((i + 1 : Nat) : Int)) ((i + 1 : Nat) : Int)) (fun k => ?_) (ih (i + 1) (by omega))
  rw [laws_heldIntS.l0]
  rw [upFrom_length, if_pos (by omega), if_pos (by omega), rd_nat _ i (by rw [upFrom_length]; omega), upFrom_get, if_pos rfl, hw, hq]
theorem heldIntS_ev (q : Int) (h0 : 0 ≤ q) (h1 : q ≤ 1000000000) (n : Nat) (hn : n ≤ 140737488351232) :
  Ev (fun k => laws_heldIntS.f k (upFrom q n) q) (q + n) := by
 unfold laws_heldIntS.f
 have h := heldIntS_l q h0 h1 n hn n 0 (by omega)
 simpa using h
/-! Marked rows of rows. -/
def totM : List (List Int) → Nat
 | [] => 0
 | x :: l => x.length + totM l
def mkRows (q : Int) : List (List Int) → List (List Int)
 | [] => []
 | r :: rs => upFrom q r.length :: mkRows (q + r.length) rs
theorem mkRows_length (l : List (List Int)) : ∀ q, (mkRows q l).length = l.length := by
 induction l with
 | nil => intro q; rfl
 | cons r l ih => intro q; simp [mkRows, ih]
theorem totM_drop (l : List (List Int)) (i : Nat) (h : i < l.length) : totM (l.drop i) = l[i].length + totM (l.drop (i + 1)) := by
 rw [List.drop_eq_getElem_cons h]; rfl
theorem markIntSS_l (n : Nat) : ∀ (d : Nat) (l : List (List Int)) (q : Int) (i : Nat), l.length = n → n = i + d → n ≤ 1048576 → (∀ r ∈ l, r.length ≤ 1048576) → 0 ≤ q → q + totM (l.drop i) ≤ 900000000 →
  Ev (fun k => laws_markIntSS.l0 k l q i) (q + totM (l.drop i), l.take i ++ mkRows q (l.drop i)) := by
 intro d
 induction d with
 | zero =>
  intro l q i hl hi hn hr h0 h1
  refine Ev.step (f := fun _ => some (q, l)) (fun k => by rw [laws_markIntSS.l0]; rw [if_neg (by omega)]) ((Ev.now _).eq ?_)
  rw [List.drop_eq_nil_of_le (by omega)]; simp [totM, mkRows]; exact (List.take_of_length_le (by omega)).symm
 | succ d ih =>
  intro l q i hl hi hn hr h0 h1
  have hlt : i < l.length := by omega
  have hw : wrap64 ((i : Int) + 1) = ((i + 1 : Nat) : Int) := by rw [w64 (by omega) (by omega)]; omega
  have ht := totM_drop l i hlt
  have hri := hr _ (List.getElem_mem hlt)
  have hg : l.getD ((i : Int)).toNat [] = l[i] := by simp [List.getD_eq_getElem?_getD, hlt]
  have m := markIntS_ev l[i] q h0 (by omega) (by omega)
  have hd : (l.set i (upFrom q l[i].length)).drop (i + 1) = l.drop (i + 1) := List.drop_set_of_lt (by omega)
  have nx := ih (l.set i (upFrom q l[i].length)) (q + l[i].length) (i + 1) (by simp [hl]) (by omega) hn (by
   intro r hr2
   rcases List.mem_or_eq_of_mem_set hr2 with h | h
   ·exact hr r h
   ·rw [h, upFrom_length]; exact hri) (by omega) (by rw [hd]; omega)
  rw [hd] at nx
  refine Ev.step (fun k => by rw [laws_markIntSS.l0, if_pos (by omega), if_pos (by omega), hg, hw, Int.toNat_natCast]) (Ev.bind m (nx.eq ?_))
  refine Prod.ext (by simp only; omega) ?_
  simp only
  rw [List.drop_eq_getElem_cons hlt, List.take_add_one, List.take_set_of_le (Nat.le_refl i)]
  simp [hlt, mkRows]
theorem markIntSS_ev (l : List (List Int)) (q : Int) (hn : l.length ≤ 1048576) (hr : ∀ r ∈ l, r.length ≤ 1048576) (h0 : 0 ≤ q) (h1 : q + totM l ≤ 900000000) :
  Ev (fun k => laws_markIntSS.f k l q) (q + totM l, mkRows q l) := by
 unfold laws_markIntSS.f
 have := markIntSS_l l.length l.length l q 0 rfl (by omega) hn hr h0 (by simpa using h1)
 simpa using this
theorem mkRows_get (l : List (List Int)) : ∀ (q : Int) (i : Nat), i < l.length → rd_L1 (mkRows q l) (i : Int) = upFrom (q + totM (l.take i)) (l.getD i []).length := by
 induction l with
 | nil => intro q i h; simp at h
 | cons r l ih =>
  intro q i h
  cases i with
  | zero => simp [mkRows, rd_L1, totM]
  | succ i =>
   have := ih (q + r.length) i (by simpa using h)
   simp only [mkRows, rd_L1, Int.toNat_natCast, List.getD_cons_succ, List.take_succ_cons, totM] at this ⊢
   rw [this]; congr 1; omega
theorem totM_take (l : List (List Int)) (i : Nat) (h : i < l.length) : totM (l.take (i + 1)) = totM (l.take i) + (l.getD i []).length := by
 induction l generalizing i with
 | nil => simp at h
 | cons r l ih =>
  cases i with
  | zero => simp [totM]
  | succ i =>
   have := ih i (by simpa using h)
   simp only [List.take_succ_cons, totM, List.getD_cons_succ] at this ⊢
   omega
theorem totM_take_le (l : List (List Int)) (i : Nat) : totM (l.take i) ≤ totM l := by
 induction l generalizing i with
 | nil => simp
 | cons r l ih =>
  cases i with
  | zero => simp [totM]
  | succ i => have := ih i; simp only [List.take_succ_cons, totM]; omega
theorem heldIntSS_l (l : List (List Int)) (q : Int) (hn : l.length ≤ 1048576) (hr : ∀ r ∈ l, r.length ≤ 1048576) (h0 : 0 ≤ q) (h1 : q + totM l ≤ 900000000) : ∀ (d i : Nat), l.length = i + d →
  Ev (fun k => laws_heldIntSS.l0 k (mkRows q l) (q + totM (l.take i)) i) (q + totM l) := by
 intro d
 induction d with
 | zero =>
  intro i hi
  refine Ev.step (f := fun _ => some (q + totM (l.take i))) (fun k => by rw [laws_heldIntSS.l0]; rw [if_neg (by rw [mkRows_length]; omega)]) ((Ev.now _).eq ?_)
  rw [List.take_of_length_le (by omega)]
 | succ d ih =>
  intro i hi
  have hlt : i < l.length := by omega
  have hw : wrap64 ((i : Int) + 1) = ((i + 1 : Nat) : Int) := by rw [w64 (by omega) (by omega)]; omega
  have hle := totM_take_le l i
  have hle2 := totM_take_le l (i + 1)
  have ht := totM_take l i hlt
  have hri : (l.getD i []).length ≤ 1048576 := by
   rw [List.getD_eq_getElem?_getD, List.getElem?_eq_getElem hlt]; exact hr _ (List.getElem_mem hlt)
  have hh := heldIntS_ev (q + totM (l.take i)) (by omega) (by omega) (l.getD i []).length (by omega)
  have nx := ih (i + 1) (by omega)
  refine Ev.step (fun k => by rw [laws_heldIntSS.l0, if_pos (by rw [mkRows_length]; omega), if_pos (by omega), mkRows_get l q i hlt, hw]) (Ev.bind hh (Ev.ifn (show ¬ (q + (totM (l.take i) : Int) + ((l.getD i []).length : Int) < 0) by omega) ?_))
  rw [ht] at nx
  have e : q + (totM (l.take i) : Int) + ((l.getD i []).length : Int) = q + ((totM (l.take i) + (l.getD i []).length : Nat) : Int) := by omega
  rw [e]; exact nx
theorem heldIntSS_ev (l : List (List Int)) (q : Int) (hn : l.length ≤ 1048576) (hr : ∀ r ∈ l, r.length ≤ 1048576) (h0 : 0 ≤ q) (h1 : q + totM l ≤ 900000000) :
  Ev (fun k => laws_heldIntSS.f k (mkRows q l) q) (q + totM l) := by
 unfold laws_heldIntSS.f
 have := heldIntSS_l l q hn hr h0 h1 l.length 0 (by omega)
 simpa [totM] using this
/- k % 3 == 0, .. -/
def upB (k : Int) : Nat → List Bool
 | 0 => []
 | n + 1 => (Int.tmod k 3 == 0) :: upB (k + 1) n
theorem upB_length (n : Nat) : ∀ k, (upB k n).length = n := by
 induction n with
 | zero => intro k; rfl
 | succ n ih => intro k; simp [upB, ih]
theorem markBools_l (n : Nat) : ∀ (d : Nat) (xs : List Bool) (q : Int) (i : Nat), xs.length = n → n = i + d → 0 ≤ q → q + d ≤ 9223372036854775806 → n ≤ 140737488351232 →
  Ev (fun k => laws_markBoolS.l0 k xs q i) (q + d, xs.take i ++ upB q d) := by
 intro d
 induction d with
 | zero =>
  intro xs q i hx hi h0 h1 hn
  refine Ev.step (f := fun _ => some (q, xs)) (fun k => ?_) ((Ev.now _).eq ?_)
  ·rw [laws_markBoolS.l0]; rw [if_neg (by omega)]
  ·simp [upB]; exact (List.take_of_length_le (by omega)).symm
 | succ d ih =>
  intro xs q i hx hi h0 h1 hn
  have hw : wrap64 ((i : Int) + 1) = ((i + 1 : Nat) : Int) := by rw [w64 (by omega) (by omega)]; omega
  have hq : wrap64 (q + 1) = q + 1 := w64 (by omega) (by omega)
  refine Ev.step (f := fun k => laws_markBoolS.l0 k (xs.set i (Int.tmod q 3 == 0)) (q + 1) ((i + 1 : Nat) : Int)) (fun k => ?_) ((ih (xs.set i (Int.tmod q 3 == 0)) (q + 1) (i + 1) (by simp [hx]) (by omega) (by omega) (by omega) hn).eq ?_)
  ·rw [laws_markBoolS.l0]; rw [if_pos (by omega), if_pos (by omega), hw, hq]; simp
  ·refine Prod.ext (by simp; omega) ?_
   simp only [upB]
   rw [List.take_add_one, List.take_set_of_le (Nat.le_refl i)]
   simp [show i < xs.length by omega]
theorem markBools_ev (xs : List Bool) (q : Int) (h0 : 0 ≤ q) (h1 : q ≤ 1000000000) (hn : xs.length ≤ 140737488351232) :
  Ev (fun k => laws_markBoolS.f k xs q) (q + xs.length, upB q xs.length) := by
 unfold laws_markBoolS.f
 exact (markBools_l xs.length xs.length xs q 0 rfl (by omega) h0 (by omega) hn).eq (by simp)
/-! Marked rows of bools. -/
def totB : List (List Bool) → Nat
 | [] => 0
 | x :: l => x.length + totB l
def mkRowB (q : Int) : List (List Bool) → List (List Bool)
 | [] => []
 | r :: rs => upB q r.length :: mkRowB (q + r.length) rs
theorem totB_drop (l : List (List Bool)) (i : Nat) (h : i < l.length) : totB (l.drop i) = l[i].length + totB (l.drop (i + 1)) := by
 rw [List.drop_eq_getElem_cons h]; rfl
theorem markBoolSS_l (n : Nat) : ∀ (d : Nat) (l : List (List Bool)) (q : Int) (i : Nat), l.length = n → n = i + d → n ≤ 1048576 → (∀ r ∈ l, r.length ≤ 1048576) → 0 ≤ q → q + totB (l.drop i) ≤ 900000000 →
  Ev (fun k => laws_markBoolSS.l0 k l q i) (q + totB (l.drop i), l.take i ++ mkRowB q (l.drop i)) := by
 intro d
 induction d with
 | zero =>
  intro l q i hl hi hn hr h0 h1
  refine Ev.step (f := fun _ => some (q, l)) (fun k => by rw [laws_markBoolSS.l0]; rw [if_neg (by omega)]) ((Ev.now _).eq ?_)
  rw [List.drop_eq_nil_of_le (by omega)]; simp [totB, mkRowB]; exact (List.take_of_length_le (by omega)).symm
 | succ d ih =>
  intro l q i hl hi hn hr h0 h1
  have hlt : i < l.length := by omega
  have hw : wrap64 ((i : Int) + 1) = ((i + 1 : Nat) : Int) := by rw [w64 (by omega) (by omega)]; omega
  have ht := totB_drop l i hlt
  have hri := hr _ (List.getElem_mem hlt)
  have hg : l.getD ((i : Int)).toNat [] = l[i] := by simp [List.getD_eq_getElem?_getD, hlt]
  have m := markBools_ev l[i] q h0 (by omega) (by omega)
  have hd : (l.set i (upB q l[i].length)).drop (i + 1) = l.drop (i + 1) := List.drop_set_of_lt (by omega)
  have nx := ih (l.set i (upB q l[i].length)) (q + l[i].length) (i + 1) (by simp [hl]) (by omega) hn (by
   intro r hr2
   rcases List.mem_or_eq_of_mem_set hr2 with h | h
   ·exact hr r h
   ·rw [h, upB_length]; exact hri) (by omega) (by rw [hd]; omega)
  rw [hd] at nx
  refine Ev.step (fun k => by rw [laws_markBoolSS.l0, if_pos (by omega), if_pos (by omega), hg, hw, Int.toNat_natCast]) (Ev.bind m (nx.eq ?_))
  refine Prod.ext (by simp only; omega) ?_
  simp only
  rw [List.drop_eq_getElem_cons hlt, List.take_add_one, List.take_set_of_le (Nat.le_refl i)]
  simp [hlt, mkRowB]
theorem markBoolSS_ev (l : List (List Bool)) (q : Int) (hn : l.length ≤ 1048576) (hr : ∀ r ∈ l, r.length ≤ 1048576) (h0 : 0 ≤ q) (h1 : q + totB l ≤ 900000000) :
  Ev (fun k => laws_markBoolSS.f k l q) (q + totB l, mkRowB q l) := by
 unfold laws_markBoolSS.f
 have := markBoolSS_l l.length l.length l q 0 rfl (by omega) hn hr h0 (by simpa using h1)
 simpa using this
theorem eqBoolSS_self_l (a : List (List Bool)) (hr : ∀ x ∈ a, x.length ≤ 140737488351232) (hl : a.length ≤ 140737488351232) : ∀ (d i : Nat), a.length = i + d → Ev (fun k => laws_eqBoolSS.l0 k a a i) true := by
 intro d
 induction d with
 | zero =>
  intro i hi
  exact Ev.step (fun k => by rw [laws_eqBoolSS.l0]) (Ev.ifn (by omega) (Ev.now _))
 | succ d ih =>
  intro i hi
  have hlt : i < a.length := by omega
  have hw : wrap64 ((i : Int) + 1) = ((i + 1 : Nat) : Int) := by rw [w64 (by omega) (by omega)]; omega
  refine Ev.step (fun k => by rw [laws_eqBoolSS.l0]) ?_
  rw [rdB_nat a i hlt, hw]
  exact Ev.ifp (by omega) (Ev.ifp (by omega) (Ev.ifp (by omega) (Ev.bind (eqBoolS_self a[i] (hr _ (List.getElem_mem hlt))) (Ev.ifp rfl (ih (i + 1) (by omega))))))
theorem eqBoolSS_self (a : List (List Bool)) (hr : ∀ x ∈ a, x.length ≤ 140737488351232) (hl : a.length ≤ 140737488351232) : Ev (fun k => laws_eqBoolSS.f k a a) true := by
 unfold laws_eqBoolSS.f
 exact Ev.ifp rfl (eqBoolSS_self_l a hr hl a.length 0 (by omega))
theorem totb_totB : ∀ (l : List (List Bool)), totb l = totB l
 | [] => rfl
 | x :: l => by show x.length + totb l = x.length + totB l; rw [totb_totB l]
theorem totM_le9 : ∀ (l : List (List Int)), (∀ x ∈ l, x.length ≤ 9) → totM l ≤ l.length * 9
 | [], _ => by simp [totM]
 | x :: l, h => by
  have h1 := h x (by simp)
  have h2 := totM_le9 l (fun r hr => h r (by simp [hr]))
  simp only [totM, List.length_cons]
  omega
theorem picOf_small (l : List (List Bool)) : ((picOfV l).1.length ≤ 5 ∧ ∀ x ∈ (picOfV l).1, x.length ≤ 9) ∧ ((picOfV l).2.1.length ≤ 5 ∧ ∀ x ∈ (picOfV l).2.1, x.length ≤ 9) := by
 unfold picOfV
 split
 ·rename_i h
  refine ⟨⟨by simp only [List.length_map]; omega, fun x hx => ?_⟩, ⟨by simp only [colsV, List.length_map, List.length_range]; omega, fun x hx => ?_⟩⟩
  ·obtain ⟨y, _, rfl⟩ := List.mem_map.1 hx
   exact clueL_len y
  ·obtain ⟨y, _, rfl⟩ := List.mem_map.1 hx
   exact clueL_len _
 ·exact ⟨⟨by simp, fun x hx => by simp at hx⟩, ⟨by simp, fun x hx => by simp at hx⟩⟩
theorem FnExactPictureOf (l : List (List Bool)) (hr : ∀ x ∈ l, x.length ≤ 9223372036854775807) (hl : l.length ≤ 9223372036854775807) : ∃ k, laws_FnExactPictureOf.f k l = some true := by
 apply Ev.rounds
 unfold laws_FnExactPictureOf.f
 refine Ev.bind (szBoolSS_ev l hr hl 1048576 (by omega) (by omega)) ?_
 by_cases c : (l.length : Int) + totb l ≤ 1048576
 ·rw [if_pos c]
  refine Ev.ifn (by omega) ?_
  have ra : ∀ x ∈ l, x.length ≤ 1048576 := fun x hx => by have := totb_mem l x hx; omega
  have ea := totb_totB l
  have hT : Ev (fun k => laws_toBoolSS.f k l) l := toBoolSS_ev l (fun x hx => by have := ra x hx; omega) (by omega)
  obtain ⟨⟨s1, s2⟩, ⟨s3, s4⟩⟩ := picOf_small l
  have m1 := totM_le9 _ s2
  have m2 := totM_le9 _ s4
  have hE : Ev (fun k => laws_eqPicture.f k (picOfV l).1 (picOfV l).2.1 (picOfV l).1 (picOfV l).2.1) true := by
   unfold laws_eqPicture.f
   exact Ev.bind (eqIntSS_self _ (fun x hx => by have := s2 x hx; omega) (by omega)) (Ev.ifp rfl (Ev.bind (eqIntSS_self _ (fun x hx => by have := s4 x hx; omega) (by omega)) (Ev.ifp rfl (Ev.now _))))
  have k1 := markIntSS_ev (picOfV l).1 1 (by omega) (fun r hr => by have := s2 r hr; omega) (by omega) (by omega)
  have k2 := markIntSS_ev (picOfV l).2.1 (1 + totM (picOfV l).1) (by omega) (fun r hr => by have := s4 r hr; omega) (by omega) (by omega)
  have h1 := heldIntSS_ev (picOfV l).1 1 (by omega) (fun r hr => by have := s2 r hr; omega) (by omega) (by omega)
  have h2 := heldIntSS_ev (picOfV l).2.1 (1 + totM (picOfV l).1) (by omega) (fun r hr => by have := s4 r hr; omega) (by omega) (by omega)
  have hM : Ev (fun k => laws_markPicture.f k (picOfV l).1 (picOfV l).2.1 1) (1 + (totM (picOfV l).1 : Int) + (totM (picOfV l).2.1 : Int), mkRows 1 (picOfV l).1, mkRows (1 + totM (picOfV l).1) (picOfV l).2.1) := by
   unfold laws_markPicture.f
   exact Ev.bind k1 (Ev.bind k2 (Ev.now _))
  have hH : Ev (fun k => laws_heldPicture.f k (mkRows 1 (picOfV l).1) (mkRows (1 + totM (picOfV l).1) (picOfV l).2.1) 1) (1 + (totM (picOfV l).1 : Int) + (totM (picOfV l).2.1 : Int)) := by
   unfold laws_heldPicture.f
   exact Ev.bind h1 (Ev.ifn (by omega) (Ev.bind h2 (Ev.ifn (by omega) (Ev.now _))))
  refine Ev.bind hT (Ev.bind (picofs_ev l (by omega) ra) (Ev.bind (picofi_ev l (by omega) ra) ?_))
  refine Ev.bind hE (Ev.ifp rfl (Ev.ifp rfl (Ev.bind (eqBoolSS_self l (fun x hx => by have := ra x hx; omega) (by omega)) (Ev.ifp rfl ?_))))
  refine Ev.bind (markBoolSS_ev l 1 (by omega) ra (by omega) (by omega)) (Ev.ifp (by simp only []; omega) ?_)
  exact Ev.bind hM (Ev.ifp (by simp only []; omega) (Ev.bind hH (Ev.ifp rfl (Ev.now _))))
 ·rw [if_neg c]; exact Ev.ifp (by omega) (Ev.now _)

end Go.Proofs.Ytapnohcfnclleaa.Pure
