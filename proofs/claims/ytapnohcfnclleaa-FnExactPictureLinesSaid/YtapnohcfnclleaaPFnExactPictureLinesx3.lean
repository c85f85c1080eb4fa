-- Made by a program of this session (a changed copy of the kit print): the kit print itself does not give this text
import Derived.Test.YtapnohcfnclleaaPFnExactPictureLinesx0
import Derived.Test.YtapnohcfnclleaaPFnExactPictureLinesx1
import Derived.Test.YtapnohcfnclleaaPFnExactPictureLinesx2
import Derived.Lib.LazyBuf
namespace Go.Proofs.Ytapnohcfnclleaa.PFnExactPictureLines
open Go.RowKit Go.Proofs.YtapnohcfnclleaaW.PrintWords Go.Proofs.YtapnohcfnclleaaW.PrintLast Go.Proofs.YtapnohcfnclleaaW.PrintMore
attribute [local go_sem] max2_int min2_int max_two min_two max_three min_three max_four min_four   -- for this text's walks alone
set_option linter.unusedVariables false
set_option linter.unusedSimpArgs false

--@import Derived.Lib.LazyBuf
/-! ### slices_Clone_int_int: function 79 -/
def slices_Clone_int_int.f (l0 : List Int) : Option (List Int) := (some (([] : List Int) : List Int)).bind fun y141 => (if y141.length + l0.length < 17592186044416 then (some (y141 ++ l0)) else (none))
set_option maxHeartbeats 8000000 in
set_option maxRecDepth 100000 in
theorem slices_Clone_int_int.calls (A0 : Option Addr) (c0 : Nat) (l0 : List Int) (r : List Int) (w : World) (hr0 : Kd.C (Kd.int .i64) w A0 l0.length l0) (hc0 : l0.length ≤ c0) (h : slices_Clone_int_int.f l0 = some r) :
    Calls Try.prog 79 #[.slice A0 l0.length c0] w fun e w' => ∃ v0_ : Value, e = .returned (v0_) ∧ Kd.R (Kd.int .i64) 3 w' w.heap.size (fun _ => True) v0_ r ∧ Below w.heap.size w w' := by
  cases A0 with
  | none =>
    have hl : l0 = [] := by
      rcases Nat.eq_zero_or_pos l0.length with h0 | h0
      · exact List.eq_nil_of_length_eq_zero h0
      · obtain ⟨ad, e, _⟩ := hr0.2.2 h0
        cases e
    subst hl
    have HB := Aside0.mk (Below.refl w.heap.size w)
    have hr : r = [] := by
      have H : some ([] : List Int) = some r := h
      exact (Option.some.inj H).symm
    subst hr
    clear h hr0 hc0
    have hnil := fun (w_ : World) (a_ : Option Addr) (l_ c_ : Nat) => Go.run_eql_slice_nil (P := Try.prog) w_ 36 3 a_ l_ c_ Try.underlying36
    go_enter Try.func79, Try.ntmps79
    go_wp2
    go_ret
    exact ⟨_, by first | rfl | (simp; done), Kd.R_nil _ _ _ _ _, by repeat (first | (with_reducible first | exact HB.out | apply below_alloc | apply pw_below_drewN | apply below_drew1) | exact HB.out)⟩
  | some ad0 =>
    have HR0 := Aside0.mk hr0
    have HC0 := Aside0.mk hc0
    clear hr0 hc0
    have HB := Aside0.mk (Below.refl w.heap.size w)
    have H : ((some (([] : List Int) : List Int)).bind fun y141 => (if y141.length + l0.length < 17592186044416 then (some (y141 ++ l0)) else (none))) = some r := h
    clear h
    obtain ⟨y141, hy141⟩ : ∃ y_ : List Int, y_ = (([] : List Int)) := ⟨_, rfl⟩
    replace H : (if y141.length + l0.length < 17592186044416 then (some (y141 ++ l0)) else (none)) = some r := by first | (rw [hy141]; with_reducible exact H) | (have H2_ := (Option.bind_some _ _).symm.trans H; rw [hy141]; with_reducible exact H2_) | (have H2_ := (Option.bind_some _ _).symm.trans H; with_reducible exact H2_) | with_reducible exact H | (rw [hy141]; exact H) | exact H
    have Ny141 := Aside0.mk hy141
    clear hy141
    by_cases c2 : y141.length + l0.length < 17592186044416
    · rw [if_pos c2] at H
      have LMc2 := Aside0.mk c2
      clear c2
      obtain ⟨y144, hy144⟩ : ∃ y_ : List Int, y_ = (y141 ++ l0) := ⟨_, rfl⟩
      replace H : (some y144) = some r := by first | (rw [hy144]; with_reducible exact H) | (have H2_ := (Option.bind_some _ _).symm.trans H; rw [hy144]; with_reducible exact H2_) | (have H2_ := (Option.bind_some _ _).symm.trans H; with_reducible exact H2_) | with_reducible exact H | (rw [hy144]; exact H) | exact H
      have Ny144 := Aside0.mk hy144
      clear hy144
      obtain rfl := Option.some.inj H
      have hnil := fun (w_ : World) (a_ : Option Addr) (l_ c_ : Nat) => Go.run_eql_slice_nil (P := Try.prog) w_ 36 3 a_ l_ c_ Try.underlying36
      go_enter Try.func79, Try.ntmps79
      go_wp2_with (first | ((with_reducible refine gate_dst (N := 5) rfl ?_); refine Kd.R_lit (Kd.int .i64) _ 3 ?hg (N := 5) ?hd (xs := ([] : List Int)) (inner := []) (ok := fun _ => True) (okp := fun _ => True) ?hr ?hp (fun _ hk => hk) trivial (Below.refl _ _) (Nat.le_refl _) (by simp) ?_; (case hd => rfl); (case hg => rfl); (case hr => first | (go_simp; done) | (go_simp; rfl)); (case hp => exact (Reps.none _ _)); intro v142 w3 ho4 hb hg_ hnew_; clear hg_ hnew_; (first | rw [← Ny141.out] at ho4 | (simp only [Int.reduceToNat] at ho4; rw [← Ny141.out] at ho4)); have n0_ := Aside0.mk (Kd.R_lower ho4 (below_size (by repeat (first | (with_reducible first | exact HB.out | apply below_alloc | apply pw_below_drewN | apply below_drew1) | exact HB.out)))); have n1_ := Aside0.mk (below_step (by repeat (first | (with_reducible first | exact HB.out | apply below_alloc | apply pw_below_drewN | apply below_drew1) | exact HB.out)) hb); clear HB; have HO143 := n0_; have HB := n1_; clear n0_ n1_; clear hb ho4) | ((with_reducible refine gate_builtin (b := .append) (xs := #[.tmp 5, .tmp 6]) rfl ?_); at_builtin; refine Kd.R_append_rows (Kd.int .i64) (w0 := w) w.heap.size rfl (.tmp 5) (.tmp 6) 36 3 (.int .i64 0) 8 rfl Try.underlying36 info3 rfl (by decide) (by omega) v142 y141 l0 _ _ _ (fun _ => True) (fun _ => False) rfl rfl ?aO ?aR (fun _ _ h => h) (fun _ h => h.elim) ?aF ?aB ?aS ?aL ?_; (case aR => repeat (first | exact (Kd.C_below HR0.out HB.out) | (with_reducible refine Kd.C_alloc ?_ _) | (with_reducible refine Kd.C_drewN ?_ _) | (with_reducible refine Kd.C_drew ?_))); (case aB => exact (by repeat (first | (with_reducible first | exact HB.out | apply below_alloc | apply pw_below_drewN | apply below_drew1) | exact HB.out))); (case aF => exact (fun _ _ => trivial)); (case aO => exact (by (with_reducible repeat (first | apply Kd.R_alloc | apply Kd.R_drewN | apply Kd.R_drew)); exact HO143.out)); (case aS => exact (below_size (by repeat (first | (with_reducible first | exact HB.out | apply below_alloc | apply pw_below_drewN | apply below_drew1) | exact HB.out)))); (case aL => have := LMc2.out; omega); intro v145 w5 ho hb hg hat; rw [← Ny144.out] at ho; have n0_ := Aside0.mk (hb); have n1_ := Aside0.mk (ho); clear HB; clear HO143; have HB := n0_; have HO146 := n1_; clear n0_ n1_; clear ho hb hg hat))
      go_ret
      exact ⟨_, by first | rfl | (simp [errW_none, errW_some] <;> rfl) | (simp [*, errW_none, errW_some] <;> rfl), by (with_reducible repeat (first | apply Kd.R_alloc | apply Kd.R_drewN | apply Kd.R_drew)); exact HO146.out, by repeat (first | (with_reducible first | exact HB.out | apply below_alloc | apply pw_below_drewN | apply below_drew1) | exact HB.out)⟩
    · rw [if_neg c2] at H
      exact absurd H (by simp)

/-! ### impl_LineForced: function 47 -/
mutual
def impl_LineForced.j0 : Nat → List Int → List Int → Bool → Option (List Int × Bool)
  | 0, _, _, _ => none
  | k + 1, x0, x1, x22 => if x22 = true then (some (([] : List Int), false)) else ((impl_linesFor.f k x0 x1).bind fun t149 => (if (t149.length : Int) = 0 then ((slices_Clone_int_int.f x1).bind fun t152 => (some (t152, false))) else (impl_LineForced.l0 k x1 (-1) 0 t149 (t149.length : Int) 0)))
def impl_LineForced.l0 : Nat → List Int → Int → Int → List Int → Int → Int → Option (List Int × Bool)
  | 0, _, _, _, _, _, _ => none
  | k + 1, x1, x7, x8, x31, x32, x33 => if x33 < x32 then (if 0 ≤ x33 then (if x33 < (x31.length : Int) then (impl_LineForced.l0 k x1 (Go.bits .and .i64 x7 (rd x31 x33)) (Go.bits .or .i64 x8 (rd x31 x33)) x31 x32 (wrap64 (x33 + 1))) else (none)) else (none)) else (if 0 ≤ (x1.length : Int) then (if ((x1.length : Int) : Int).toNat ≤ 35184372088832 then ((some (List.replicate ((x1.length : Int) : Int).toNat 0 : List Int)).bind fun y156 => (impl_LineForced.l1 k x7 x8 y156 (y156.length : Int) 0)) else (none)) else (none))
def impl_LineForced.l1 : Nat → Int → Int → List Int → Int → Int → Option (List Int × Bool)
  | 0, _, _, _, _, _ => none
  | k + 1, x7, x8, x11, x48, x49 => if x49 < x48 then (if 0 ≤ x49 then (if (Go.bits .and .i64 (shr .i64 x7 x49) 1) = 1 then (if x49 < (x11.length : Int) then (impl_LineForced.l1 k x7 x8 (x11.set (x49 : Int).toNat 1) x48 (wrap64 (x49 + 1))) else (none)) else (if (Go.bits .and .i64 (shr .i64 x8 x49) 1) = 1 then (if x49 < (x11.length : Int) then (impl_LineForced.l1 k x7 x8 (x11.set (x49 : Int).toNat (-1)) x48 (wrap64 (x49 + 1))) else (none)) else (impl_LineForced.l1 k x7 x8 x11 x48 (wrap64 (x49 + 1))))) else (none)) else (some (x11, true))
end
def impl_LineForced.f (k : Nat) (l0 : List Int) (l1 : List Int) : Option (List Int × Bool) := (impl_KnownValid.f k l1).bind fun t147 => (if t147 = true then ((impl_ClueValid.f k l0 (l1.length : Int)).bind fun t148 => (impl_LineForced.j0 k l0 l1 (!t148))) else (impl_LineForced.j0 k l0 l1 true))
theorem impl_LineForced.mono_l : ∀ k, (∀ y0 y1 y2, LeO (impl_LineForced.j0 k y0 y1 y2) (impl_LineForced.j0 (k + 1) y0 y1 y2)) ∧ (∀ y0 y1 y2 y3 y4 y5, LeO (impl_LineForced.l0 k y0 y1 y2 y3 y4 y5) (impl_LineForced.l0 (k + 1) y0 y1 y2 y3 y4 y5)) ∧ (∀ y0 y1 y2 y3 y4, LeO (impl_LineForced.l1 k y0 y1 y2 y3 y4) (impl_LineForced.l1 (k + 1) y0 y1 y2 y3 y4))
  | 0 => ⟨fun _ _ _ r h => by simp [impl_LineForced.j0] at h, fun _ _ _ _ _ _ r h => by simp [impl_LineForced.l0] at h, fun _ _ _ _ _ r h => by simp [impl_LineForced.l1] at h⟩
  | k + 1 => by
    obtain ⟨ih0, ih1, ih2⟩ := impl_LineForced.mono_l k
    refine ⟨?_, ?_, ?_⟩
    · intro y0 y1 y2
      unfold impl_LineForced.j0
      repeat' first
      | (with_reducible exact ih0 _ _ _)
      | (with_reducible exact ih1 _ _ _ _ _ _)
      | (with_reducible exact ih2 _ _ _ _ _)
      | (with_reducible exact impl_ClueValid.mono _ _ _)
      | (with_reducible exact impl_KnownValid.mono _ _)
      | (with_reducible exact impl_linesFor.mono _ _ _)
      | (with_reducible exact LeO.refl _)
      | (with_reducible exact LeO.none _)
      | (with_reducible refine LeO.ite ?_ ?_)
      | (with_reducible refine LeO.bind ?_ (fun _ => ?_))
      | exact ih0 _ _ _
      | exact ih1 _ _ _ _ _ _
      | exact ih2 _ _ _ _ _
      | exact impl_ClueValid.mono _ _ _
      | exact impl_KnownValid.mono _ _
      | exact impl_linesFor.mono _ _ _
      | exact LeO.none _
      | refine LeO.ite ?_ ?_
      | refine LeO.bind ?_ (fun _ => ?_)
    · intro y0 y1 y2 y3 y4 y5
      unfold impl_LineForced.l0
      repeat' first
      | (with_reducible exact ih0 _ _ _)
      | (with_reducible exact ih1 _ _ _ _ _ _)
      | (with_reducible exact ih2 _ _ _ _ _)
      | (with_reducible exact impl_ClueValid.mono _ _ _)
      | (with_reducible exact impl_KnownValid.mono _ _)
      | (with_reducible exact impl_linesFor.mono _ _ _)
      | (with_reducible exact LeO.refl _)
      | (with_reducible exact LeO.none _)
      | (with_reducible refine LeO.ite ?_ ?_)
      | (with_reducible refine LeO.bind ?_ (fun _ => ?_))
      | exact ih0 _ _ _
      | exact ih1 _ _ _ _ _ _
      | exact ih2 _ _ _ _ _
      | exact impl_ClueValid.mono _ _ _
      | exact impl_KnownValid.mono _ _
      | exact impl_linesFor.mono _ _ _
      | exact LeO.none _
      | refine LeO.ite ?_ ?_
      | refine LeO.bind ?_ (fun _ => ?_)
    · intro y0 y1 y2 y3 y4
      unfold impl_LineForced.l1
      repeat' first
      | (with_reducible exact ih0 _ _ _)
      | (with_reducible exact ih1 _ _ _ _ _ _)
      | (with_reducible exact ih2 _ _ _ _ _)
      | (with_reducible exact impl_ClueValid.mono _ _ _)
      | (with_reducible exact impl_KnownValid.mono _ _)
      | (with_reducible exact impl_linesFor.mono _ _ _)
      | (with_reducible exact LeO.refl _)
      | (with_reducible exact LeO.none _)
      | (with_reducible refine LeO.ite ?_ ?_)
      | (with_reducible refine LeO.bind ?_ (fun _ => ?_))
      | exact ih0 _ _ _
      | exact ih1 _ _ _ _ _ _
      | exact ih2 _ _ _ _ _
      | exact impl_ClueValid.mono _ _ _
      | exact impl_KnownValid.mono _ _
      | exact impl_linesFor.mono _ _ _
      | exact LeO.none _
      | refine LeO.ite ?_ ?_
      | refine LeO.bind ?_ (fun _ => ?_)
theorem impl_LineForced.mono : ∀ a0 a1 k, LeO (impl_LineForced.f k a0 a1) (impl_LineForced.f (k + 1) a0 a1) := by
  intro a0 a1 k
  obtain ⟨ih0, ih1, ih2⟩ := impl_LineForced.mono_l k
  unfold impl_LineForced.f
  repeat' first
      | (with_reducible exact ih0 _ _ _)
      | (with_reducible exact ih1 _ _ _ _ _ _)
      | (with_reducible exact ih2 _ _ _ _ _)
      | (with_reducible exact impl_ClueValid.mono _ _ _)
      | (with_reducible exact impl_KnownValid.mono _ _)
      | (with_reducible exact impl_linesFor.mono _ _ _)
      | (with_reducible exact LeO.refl _)
      | (with_reducible exact LeO.none _)
      | (with_reducible refine LeO.ite ?_ ?_)
      | (with_reducible refine LeO.bind ?_ (fun _ => ?_))
      | exact ih0 _ _ _
      | exact ih1 _ _ _ _ _ _
      | exact ih2 _ _ _ _ _
      | exact impl_ClueValid.mono _ _ _
      | exact impl_KnownValid.mono _ _
      | exact impl_linesFor.mono _ _ _
      | exact LeO.none _
      | refine LeO.ite ?_ ?_
      | refine LeO.bind ?_ (fun _ => ?_)
set_option maxHeartbeats 8000000 in
set_option maxRecDepth 100000 in
theorem impl_LineForced.calls (k : Nat) (A0 : Option Addr) (c0 : Nat) (l0 : List Int) (A1 : Option Addr) (c1 : Nat) (l1 : List Int) (r1 : List Int) (r2 : Bool) (w : World) (hr0 : Kd.C (Kd.int .i64) w A0 l0.length l0) (hc0 : l0.length ≤ c0) (hr1 : Kd.C (Kd.int .i64) w A1 l1.length l1) (hc1 : l1.length ≤ c1) (h : impl_LineForced.f k l0 l1 = some (r1, r2)) :
    Calls Try.prog 47 #[.slice A0 l0.length c0, .slice A1 l1.length c1] w fun e w' => ∃ v0_ : Value, e = .returned (.tuple #[v0_, .bool r2]) ∧ Kd.R (Kd.int .i64) 3 w' w.heap.size (fun _ => True) v0_ r1 ∧ Below w.heap.size w w' := by
  have HR0 := Aside0.mk hr0
  have HC0 := Aside0.mk hc0
  clear hr0 hc0
  have HR1 := Aside0.mk hr1
  have HC1 := Aside0.mk hc1
  clear hr1 hc1
  have HB := Aside0.mk (Below.refl w.heap.size w)
  have H : ((impl_KnownValid.f k l1).bind fun t147 => (if t147 = true then ((impl_ClueValid.f k l0 (l1.length : Int)).bind fun t148 => (impl_LineForced.j0 k l0 l1 (!t148))) else (impl_LineForced.j0 k l0 l1 true))) = some (r1, r2) := h
  clear h
  have HC3 := Aside0.mk H
  clear H
  go_enter Try.func47, Try.ntmps47
  go_upto_region 1 with (fail)
  go_cut [22] (fun v22 wc => ∃ (kq : Nat) (x22_2 : Bool), v22 = .bool x22_2 ∧ Aside0 (impl_LineForced.j0 kq l0 l1 x22_2 = some (r1, r2)) ∧ Aside0 (kq ≤ k) ∧ Aside0 (Below w.heap.size w wc))
  case first =>
    have H := HC3.out
    clear HC3
    replace H := Option.bind_eq_some_iff.mp H
    obtain ⟨t147, A40, H⟩ := H
    replace H : (if t147 = true then ((impl_ClueValid.f k l0 (l1.length : Int)).bind fun t148 => (impl_LineForced.j0 k l0 l1 (!t148))) else (impl_LineForced.j0 k l0 l1 true)) = some (r1, r2) := H
    have A4 := Aside0.mk A40
    clear A40
    by_cases c5 : t147 = true
    · subst c5
      have H1 : ((impl_ClueValid.f k l0 (l1.length : Int)).bind fun t148 => (impl_LineForced.j0 k l0 l1 (!t148))) = some (r1, r2) := by rw [if_pos rfl] at H; exact H
      clear H
      have H := H1
      clear H1
      replace H := Option.bind_eq_some_iff.mp H
      obtain ⟨t148, A60, H⟩ := H
      replace H : (impl_LineForced.j0 k l0 l1 (!t148)) = some (r1, r2) := H
      have A6 := Aside0.mk A60
      clear A60
      have H' := Aside0.mk H
      clear H
      go_wp2_with (first | ((with_reducible refine gate_callee (f := 77) rfl ?_); refine goesL_ (some 14) rfl rfl Try.func77 (by kernel_rfl) rfl #[.slice A1 l1.length c1] rfl (by (try simp only [List.map_toArray, List.map_cons, List.map_nil]); first | done | rfl | (simp only [List.length_drop, List.length_take]; rfl)) ?_; (with_reducible refine (impl_KnownValid.calls k _ _ l1 true _ ?side1 ?side2 A4.out).mono ?_); (case side1 => repeat (first | exact (Kd.C_below HR1.out HB.out) | (with_reducible refine Kd.C_alloc ?_ _) | (with_reducible refine Kd.C_drewN ?_ _) | (with_reducible refine Kd.C_drew ?_))); (case side2 => exact HC1.out); rintro e w' ⟨rfl, ⟨nd, rfl⟩⟩; refine ⟨_, rfl, ?_⟩) | (go_at_call 59; (with_reducible refine (impl_ClueValid.calls k _ _ l0 (l1.length : Int) t148 _ ?side1 ?side2 A6.out).mono ?_); (case side1 => repeat (first | exact (Kd.C_below HR0.out (by repeat (first | (with_reducible first | exact HB.out | apply below_alloc | apply pw_below_drewN | apply below_drew1) | exact HB.out))) | (with_reducible refine Kd.C_alloc ?_ _) | (with_reducible refine Kd.C_drewN ?_ _) | (with_reducible refine Kd.C_drew ?_))); (case side2 => exact HC0.out); rintro e w' ⟨rfl, ⟨nd, rfl⟩⟩))
      go_meet
      case rel => exact ⟨_, (!t148), (by first | rfl | (simp; done) | (simp [*]; done)), H', ⟨by first | omega | exact Nat.le_refl _⟩, ⟨by repeat (first | (with_reducible first | exact HB.out | apply below_alloc | apply pw_below_drewN | apply below_drew1) | exact HB.out)⟩⟩
    · replace c5 := Bool.eq_false_iff.mpr c5
      subst c5
      have H1 : (impl_LineForced.j0 k l0 l1 true) = some (r1, r2) := by rw [if_neg (show ¬ (false = true) by decide)] at H; exact H
      clear H
      have H := H1
      clear H1
      have H' := Aside0.mk H
      clear H
      go_wp2_with (first | ((with_reducible refine gate_callee (f := 77) rfl ?_); refine goesL_ (some 14) rfl rfl Try.func77 (by kernel_rfl) rfl #[.slice A1 l1.length c1] rfl (by (try simp only [List.map_toArray, List.map_cons, List.map_nil]); first | done | rfl | (simp only [List.length_drop, List.length_take]; rfl)) ?_; (with_reducible refine (impl_KnownValid.calls k _ _ l1 false _ ?side1 ?side2 A4.out).mono ?_); (case side1 => repeat (first | exact (Kd.C_below HR1.out HB.out) | (with_reducible refine Kd.C_alloc ?_ _) | (with_reducible refine Kd.C_drewN ?_ _) | (with_reducible refine Kd.C_drew ?_))); (case side2 => exact HC1.out); rintro e w' ⟨rfl, ⟨nd, rfl⟩⟩; refine ⟨_, rfl, ?_⟩))
      go_meet
      case rel => exact ⟨_, (true), (by first | rfl | (simp; done) | (simp [*]; done)), H', ⟨by first | omega | exact Nat.le_refl _⟩, ⟨by repeat (first | (with_reducible first | exact HB.out | apply below_alloc | apply pw_below_drewN | apply below_drew1) | exact HB.out)⟩⟩
  case rest =>
    clear HC3
    try clear c1
    try clear p2
    try clear c4
    try clear c5
    obtain ⟨kq, x22_2, rfl, HA, HJ2, HB⟩ := hcut
    cases kq with
    | zero => exact absurd HA.out (by simp [impl_LineForced.j0])
    | succ kj2 =>
      have H := HA.out
      clear HA
      simp only [impl_LineForced.j0] at H
      by_cases c7 : x22_2 = true
      · subst c7
        have H1 : (some (([] : List Int), false)) = some (r1, r2) := by rw [if_pos rfl] at H; exact H
        clear H
        have H := H1
        clear H1
        simp only [Option.some.injEq, Prod.mk.injEq] at H
        obtain ⟨rfl, rfl⟩ := H
        go_wp2
        go_ret2
        exact ⟨_, by first | rfl | (simp [errW_none, errW_some] <;> rfl) | (simp [*, errW_none, errW_some] <;> rfl), by first | exact Kd.R_nil _ _ _ _ _ | exact Kd.N_nil _ _ _ _ _ | exact Kd.V_nil _ _ _ _ _ | exact Kd.Q_nil _ _ _ _ _ | exact Kd.S_nil _ _ _ _ _, by repeat (first | (with_reducible first | exact HB.out | apply below_alloc | apply pw_below_drewN | apply below_drew1) | exact HB.out)⟩
      · replace c7 := Bool.eq_false_iff.mpr c7
        subst c7
        have H1 : ((impl_linesFor.f kj2 l0 l1).bind fun t149 => (if (t149.length : Int) = 0 then ((slices_Clone_int_int.f l1).bind fun t152 => (some (t152, false))) else (impl_LineForced.l0 kj2 l1 (-1) 0 t149 (t149.length : Int) 0))) = some (r1, r2) := by rw [if_neg (show ¬ (false = true) by decide)] at H; exact H
        clear H
        have H := H1
        clear H1
        replace H := Option.bind_eq_some_iff.mp H
        obtain ⟨t149, A80, H⟩ := H
        replace H : (if (t149.length : Int) = 0 then ((slices_Clone_int_int.f l1).bind fun t152 => (some (t152, false))) else (impl_LineForced.l0 kj2 l1 (-1) 0 t149 (t149.length : Int) 0)) = some (r1, r2) := H
        have A8 := Aside0.mk A80
        clear A80
        by_cases c9 : (t149.length : Int) = 0
        · rw [if_pos c9] at H
          have c9b0 : ((t149.length : Int) == 0) = true := beq_iff_eq.mpr c9
          have c9b1 : ((t149.length : Int) != 0) = false := bne_eq_false_iff_eq.mpr c9
          clear c9
          replace H := Option.bind_eq_some_iff.mp H
          obtain ⟨t152, A100, H⟩ := H
          replace H : (some (t152, false)) = some (r1, r2) := H
          have A10 := Aside0.mk A100
          clear A100
          simp only [Option.some.injEq, Prod.mk.injEq] at H
          obtain ⟨rfl, rfl⟩ := H
          go_wp2_with (first | ((with_reducible refine gate_callee (f := 78) rfl ?_); refine goesL_ (some 25) rfl rfl Try.func78 (by kernel_rfl) rfl #[.slice A0 l0.length c0, .slice A1 l1.length c1] rfl (by (try simp only [List.map_toArray, List.map_cons, List.map_nil]); first | done | rfl | (simp only [List.length_drop, List.length_take]; rfl)) ?_; (with_reducible refine (impl_linesFor.calls kj2 _ _ l0 _ _ l1 t149 _ ?side1 ?side2 ?side3 ?side4 A8.out).mono ?_); (case side1 => repeat (first | exact (Kd.C_below HR0.out HB.out) | (with_reducible refine Kd.C_alloc ?_ _) | (with_reducible refine Kd.C_drewN ?_ _) | (with_reducible refine Kd.C_drew ?_))); (case side2 => exact HC0.out); (case side3 => repeat (first | exact (Kd.C_below HR1.out HB.out) | (with_reducible refine Kd.C_alloc ?_ _) | (with_reducible refine Kd.C_drewN ?_ _) | (with_reducible refine Kd.C_drew ?_))); (case side4 => exact HC1.out); rintro e w11 ⟨v150, rfl, ho0, hb⟩; refine ⟨_, rfl, ?_⟩; have n0_ := Aside0.mk (Kd.R_lower ho0 (below_size (by repeat (first | (with_reducible first | exact HB.out | apply below_alloc | apply pw_below_drewN | apply below_drew1) | exact HB.out)))); have n1_ := Aside0.mk (below_step (by repeat (first | (with_reducible first | exact HB.out | apply below_alloc | apply pw_below_drewN | apply below_drew1) | exact HB.out)) hb); clear HB; have HO151 := n0_; have HB := n1_; clear n0_ n1_; (try clear hb); (try clear hb2); (try clear hk); (try clear hi); (try clear ho0); obtain ⟨Ao12, co12, eo12⟩ := Kd.R_slice HO151.out; subst eo12) | ((with_reducible refine gate_callee (f := 79) rfl ?_); refine goesL_ (some 30) rfl rfl Try.func79 (by kernel_rfl) rfl #[.slice A1 l1.length c1] rfl (by (try simp only [List.map_toArray, List.map_cons, List.map_nil]); first | done | rfl | (simp only [List.length_drop, List.length_take]; rfl)) ?_; (with_reducible refine (slices_Clone_int_int.calls _ _ l1 t152 _ ?side1 ?side2 A10.out).mono ?_); (case side1 => repeat (first | exact (Kd.C_below HR1.out HB.out) | (with_reducible refine Kd.C_alloc ?_ _) | (with_reducible refine Kd.C_drewN ?_ _) | (with_reducible refine Kd.C_drew ?_))); (case side2 => exact HC1.out); rintro e w13 ⟨v153, rfl, ho0, hb⟩; refine ⟨_, rfl, ?_⟩; have n0_ := Aside0.mk (Kd.R_elder' (by (with_reducible repeat (first | apply Kd.R_alloc | apply Kd.R_drewN | apply Kd.R_drew)); exact HO151.out) (Kd.R_base ho0) hb); have n1_ := Aside0.mk (Kd.R_lower (Kd.R_new' ho0 (Kd.R_lt (by (with_reducible repeat (first | apply Kd.R_alloc | apply Kd.R_drewN | apply Kd.R_drew)); exact HO151.out))) (below_size (by repeat (first | (with_reducible first | exact HB.out | apply below_alloc | apply pw_below_drewN | apply below_drew1) | exact HB.out)))); have n2_ := Aside0.mk (below_step (by repeat (first | (with_reducible first | exact HB.out | apply below_alloc | apply pw_below_drewN | apply below_drew1) | exact HB.out)) hb); clear HO151; clear HB; have HO151 := n0_; have HO154 := n1_; have HB := n2_; clear n0_ n1_ n2_; (try clear hb); (try clear hb2); (try clear hk); (try clear hi); (try clear ho0)))
          go_ret2
          exact ⟨_, by first | rfl | (simp [errW_none, errW_some] <;> rfl) | (simp [*, errW_none, errW_some] <;> rfl), by (with_reducible repeat (first | apply Kd.R_alloc | apply Kd.R_drewN | apply Kd.R_drew)); exact Kd.R_mono HO154.out (fun _ hk => trivial), by repeat (first | (with_reducible first | exact HB.out | apply below_alloc | apply pw_below_drewN | apply below_drew1) | exact HB.out)⟩
        · rw [if_neg c9] at H
          have c9b0 : ((t149.length : Int) == 0) = false := beq_eq_false_iff_ne.mpr c9
          have c9b1 : ((t149.length : Int) != 0) = true := bne_iff_ne.mpr c9
          have c9b2 : ¬ (t149 = []) := fun h_ => c9 (by rw [h_]; rfl)
          have H' := Aside0.mk H
          clear H
          go_wp2_with (first | ((with_reducible refine gate_callee (f := 78) rfl ?_); refine goesL_ (some 25) rfl rfl Try.func78 (by kernel_rfl) rfl #[.slice A0 l0.length c0, .slice A1 l1.length c1] rfl (by (try simp only [List.map_toArray, List.map_cons, List.map_nil]); first | done | rfl | (simp only [List.length_drop, List.length_take]; rfl)) ?_; (with_reducible refine (impl_linesFor.calls kj2 _ _ l0 _ _ l1 t149 _ ?side1 ?side2 ?side3 ?side4 A8.out).mono ?_); (case side1 => repeat (first | exact (Kd.C_below HR0.out HB.out) | (with_reducible refine Kd.C_alloc ?_ _) | (with_reducible refine Kd.C_drewN ?_ _) | (with_reducible refine Kd.C_drew ?_))); (case side2 => exact HC0.out); (case side3 => repeat (first | exact (Kd.C_below HR1.out HB.out) | (with_reducible refine Kd.C_alloc ?_ _) | (with_reducible refine Kd.C_drewN ?_ _) | (with_reducible refine Kd.C_drew ?_))); (case side4 => exact HC1.out); rintro e w14 ⟨v150, rfl, ho0, hb⟩; refine ⟨_, rfl, ?_⟩; have n0_ := Aside0.mk (Kd.R_lower ho0 (below_size (by repeat (first | (with_reducible first | exact HB.out | apply below_alloc | apply pw_below_drewN | apply below_drew1) | exact HB.out)))); have n1_ := Aside0.mk (below_step (by repeat (first | (with_reducible first | exact HB.out | apply below_alloc | apply pw_below_drewN | apply below_drew1) | exact HB.out)) hb); clear HB; have HO151 := n0_; have HB := n1_; clear n0_ n1_; (try clear hb); (try clear hb2); (try clear hk); (try clear hi); (try clear ho0); obtain ⟨Ao15, co15, eo15⟩ := Kd.R_slice HO151.out; subst eo15))
          go_loopg [7, 8, 33] kj2 (fun kq v7 v8 v33 w' => ∃ (x7_2 : Int) (x8_2 : Int) (x33_2 : Int), v7 = .int .i64 x7_2 ∧ v8 = .int .i64 x8_2 ∧ v33 = .int .i64 x33_2 ∧ Aside0 (impl_LineForced.l0 kq l1 x7_2 x8_2 t149 (t149.length : Int) x33_2 = some (r1, r2)) ∧ Aside0 (kq ≤ kj2) ∧ Aside0 (Kd.R (Kd.int .i64) 3 w' w.heap.size (fun _ => True) (.slice Ao15 t149.length co15) t149) ∧ Aside0 (Below w.heap.size w w'))
          case atStart => exact ⟨((-1)), (0), (0), (by first | rfl | (simp; done) | (simp [*]; done)), (by first | rfl | (simp; done) | (simp [*]; done)), (by first | rfl | (simp; done) | (simp [*]; done)), H', ⟨Nat.le_refl _⟩, ⟨by (with_reducible repeat (first | apply Kd.R_alloc | apply Kd.R_drewN | apply Kd.R_drew)); exact HO151.out⟩, ⟨by repeat (first | (with_reducible first | exact HB.out | apply below_alloc | apply pw_below_drewN | apply below_drew1) | exact HB.out)⟩⟩
          case round =>
            clear H'
            try clear c1
            try clear p2
            try clear c4
            try clear c5
            try clear c7
            try clear c9
            try clear c9b0
            try clear c9b1
            try clear c9b2
            try clear p2
            obtain ⟨x7_2, x8_2, x33_2, rfl, rfl, rfl, HA, HK2, HO_31, HB⟩ := hrel
            cases gk with
            | zero => exact absurd HA.out (by simp [impl_LineForced.l0])
            | succ k2 =>
              have H := HA.out
              clear HA
              simp only [impl_LineForced.l0] at H
              by_cases c16 : x33_2 < (t149.length : Int)
              · rw [if_pos c16] at H
                have c16b0 : decide (x33_2 < (t149.length : Int)) = true := decide_eq_true c16
                clear c16
                by_cases c17 : 0 ≤ x33_2
                · rw [if_pos c17] at H
                  have c17b0 : decide (0 ≤ x33_2) = true := decide_eq_true c17
                  clear c17
                  by_cases c18 : x33_2 < (t149.length : Int)
                  · rw [if_pos c18] at H
                    have c18b0 : decide (x33_2 < (t149.length : Int)) = true := decide_eq_true c18
                    clear c18
                    have H' := Aside0.mk H
                    clear H
                    have p155 : 0 ≤ (x33_2 : Int) := of_decide_eq_true (by first | (with_reducible assumption) | assumption)
                    have q155 : x33_2 < (t149.length : Int) := of_decide_eq_true (by first | (with_reducible assumption) | assumption)
                    obtain ⟨ad155, e155, hx155_0⟩ := Kd.at_int (Kd.R_reads' HO_31.out).2.2 x33_2 p155 q155
                    cases e155
                    replace p155 := eq_true p155
                    replace q155 := eq_true q155
                    go_wp2
                    go_roundg k2
                    case measure => have := HJ2.out; have := HK2.out; omega
                    case rel => exact ⟨(Go.bits .and .i64 x7_2 (rd t149 x33_2)), (Go.bits .or .i64 x8_2 (rd t149 x33_2)), (wrap64 (x33_2 + 1)), (by first | rfl | (simp; done) | (simp [*]; done)), (by first | rfl | (simp; done) | (simp [*]; done)), (by first | rfl | (simp; done) | (simp [*]; done)), H', ⟨by have := HJ2.out; have := HK2.out; omega⟩, ⟨by (with_reducible repeat (first | apply Kd.R_alloc | apply Kd.R_drewN | apply Kd.R_drew)); exact HO_31.out⟩, ⟨by repeat (first | (with_reducible first | exact HB.out | apply below_alloc | apply pw_below_drewN | apply below_drew1) | exact HB.out)⟩⟩
                  · rw [if_neg c18] at H
                    exact absurd H (by simp)
                · rw [if_neg c17] at H
                  exact absurd H (by simp)
              · rw [if_neg c16] at H
                have c16b0 : decide (x33_2 < (t149.length : Int)) = false := decide_eq_false c16
                clear c16
                by_cases c19 : 0 ≤ (l1.length : Int)
                · rw [if_pos c19] at H
                  have c19b0 := eq_true c19
                  have c19b1 : decide (0 ≤ (l1.length : Int)) = true := decide_eq_true c19
                  clear c19
                  by_cases c20 : ((l1.length : Int) : Int).toNat ≤ 35184372088832
                  · rw [if_pos c20] at H
                    have c20b0 := eq_true c20
                    have c20b1 : decide (((l1.length : Int) : Int).toNat ≤ 35184372088832) = true := decide_eq_true c20
                    clear c20
                    obtain ⟨y156, hy156⟩ : ∃ y_ : List Int, y_ = (List.replicate ((l1.length : Int) : Int).toNat 0) := ⟨_, rfl⟩
                    replace H : (impl_LineForced.l1 k2 x7_2 x8_2 y156 (y156.length : Int) 0) = some (r1, r2) := by first | (rw [hy156]; with_reducible exact H) | (have H2_ := (Option.bind_some _ _).symm.trans H; rw [hy156]; with_reducible exact H2_) | (have H2_ := (Option.bind_some _ _).symm.trans H; with_reducible exact H2_) | with_reducible exact H | (rw [hy156]; exact H) | exact H
                    have Ny156 := Aside0.mk hy156
                    clear hy156
                    have H' := Aside0.mk H
                    clear H
                    go_wp2_with (first | ((with_reducible refine gate_dst (N := 46) rfl ?_); (try (refine gate_guard (by rfl) ?_; dsimp only)); refine Kd.R_make (Kd.int .i64) _ 3 rfl (N := 46) rfl 36 _ _ rfl (l1.length : Int) rfl rfl Try.underlying36 (.int .i64 0) 8 info3 rfl (by decide) (by omega) 0 (ok := fun _ => True) (okp := fun _ => True) rfl (fun _ hk => hk) trivial (of_decide_eq_true (by first | (with_reducible assumption) | assumption)) (Nat.le_trans (Nat.mul_le_mul_right _ (of_decide_eq_true (by first | (with_reducible assumption) | assumption) : (l1.length : Int).toNat ≤ 35184372088832)) (by omega)) (Below.refl _ _) (Nat.le_refl _) ?_; intro v157 w21 ho22 hb hg_ hnew_; clear hg_ hnew_; (first | rw [← Ny156.out] at ho22 | (simp only [Int.reduceToNat] at ho22; rw [← Ny156.out] at ho22)); have n0_ := Aside0.mk (Kd.R_elder' (by (with_reducible repeat (first | apply Kd.R_alloc | apply Kd.R_drewN | apply Kd.R_drew)); exact HO_31.out) (Kd.R_base ho22) hb); have n1_ := Aside0.mk (Kd.R_lower (Kd.R_new' ho22 (Kd.R_lt (by (with_reducible repeat (first | apply Kd.R_alloc | apply Kd.R_drewN | apply Kd.R_drew)); exact HO_31.out))) (below_size (by repeat (first | (with_reducible first | exact HB.out | apply below_alloc | apply pw_below_drewN | apply below_drew1) | exact HB.out)))); have n2_ := Aside0.mk (below_step (by repeat (first | (with_reducible first | exact HB.out | apply below_alloc | apply pw_below_drewN | apply below_drew1) | exact HB.out)) hb); clear HO_31; clear HB; have HO_31 := n0_; have HO158 := n1_; have HB := n2_; clear n0_ n1_ n2_; clear hb ho22; obtain ⟨Ao23, co23, eo23⟩ := Kd.R_slice HO158.out; subst eo23))
                    go_loopg [49] k2 (fun kq v49 w' => ∃ (x11_3 : List Int) (x49_3 : Int), v49 = .int .i64 x49_3 ∧ Aside0 (impl_LineForced.l1 kq x7_2 x8_2 x11_3 (y156.length : Int) x49_3 = some (r1, r2)) ∧ Aside0 (kq ≤ k2) ∧ Aside0 (Kd.R (Kd.int .i64) 3 w' w.heap.size (fun _ => True) (.slice Ao23 y156.length co23) x11_3) ∧ Aside0 (Below w.heap.size w w'))
                    case atStart => exact ⟨(y156), (0), (by first | rfl | (simp; done) | (simp [*]; done)), H', ⟨Nat.le_refl _⟩, ⟨by (with_reducible repeat (first | apply Kd.R_alloc | apply Kd.R_drewN | apply Kd.R_drew)); exact Kd.R_mono HO158.out (fun _ hk => trivial)⟩, ⟨by repeat (first | (with_reducible first | exact HB.out | apply below_alloc | apply pw_below_drewN | apply below_drew1) | exact HB.out)⟩⟩
                    case round =>
                      clear H'
                      try clear c1
                      try clear p1
                      try clear q1
                      try clear hx1
                      try clear c2
                      try clear p2
                      try clear c4
                      try clear c5
                      try clear p6
                      try clear c7
                      try clear c9
                      try clear c9b0
                      try clear c9b1
                      try clear c9b2
                      try clear p15
                      try clear q15
                      try clear hx15
                      try clear c16
                      try clear c16b0
                      try clear c17
                      try clear c17b0
                      try clear c18
                      try clear c18b0
                      try clear c19
                      try clear c19b0
                      try clear c19b1
                      try clear c20
                      try clear c20b0
                      try clear c20b1
                      try clear hx155_0
                      try clear p155
                      try clear p2
                      try clear q155
                      obtain ⟨x11_3, x49_3, rfl, HA, HK3, HO_11, HB⟩ := hrel
                      have hl11_3 := (Kd.R_reads' HO_11.out).1
                      rw [hl11_3] at HO_11
                      (try simp only [hl11_3])
                      cases gk with
                      | zero => exact absurd HA.out (by simp [impl_LineForced.l1])
                      | succ k3 =>
                        have H := HA.out
                        clear HA
                        simp only [impl_LineForced.l1] at H
                        by_cases c24 : x49_3 < (y156.length : Int)
                        · rw [if_pos c24] at H
                          have c24b0 : decide (x49_3 < (y156.length : Int)) = true := decide_eq_true c24
                          (try (have c24b0_x11_3 : decide (x49_3 < (x11_3.length : Int)) = true := by rw [← hl11_3]; exact c24b0))
                          clear c24
                          by_cases c25 : 0 ≤ x49_3
                          · rw [if_pos c25] at H
                            have c25b0 := eq_true c25
                            have c25b1 : decide (0 ≤ x49_3) = true := decide_eq_true c25
                            clear c25
                            obtain ⟨ji26, hji26⟩ : ∃ j_ : Int, (shr .i64 x7_2 x49_3) = j_ := ⟨_, rfl⟩
                            replace H : (if (Go.bits .and .i64 (ji26) 1) = 1 then (if x49_3 < (x11_3.length : Int) then (impl_LineForced.l1 k3 x7_2 x8_2 (x11_3.set (x49_3 : Int).toNat 1) (y156.length : Int) (wrap64 (x49_3 + 1))) else (none)) else (if (Go.bits .and .i64 (shr .i64 x8_2 x49_3) 1) = 1 then (if x49_3 < (x11_3.length : Int) then (impl_LineForced.l1 k3 x7_2 x8_2 (x11_3.set (x49_3 : Int).toNat (-1)) (y156.length : Int) (wrap64 (x49_3 + 1))) else (none)) else (impl_LineForced.l1 k3 x7_2 x8_2 x11_3 (y156.length : Int) (wrap64 (x49_3 + 1))))) = some (r1, r2) := by first | (rw [hji26] at H; exact H) | (simp only [hji26] at H ⊢; exact H)
                            have hji26_ : (x7_2 / 2 ^ min x49_3.toNat 64) = ji26 := hji26
                            have hji26z : x49_3 ≤ 64 → (x7_2 / 2 ^ x49_3.toNat) = ji26 := shr_small hji26
                            by_cases c27 : (Go.bits .and .i64 (ji26) 1) = 1
                            · rw [if_pos c27] at H
                              have c27b0 : ((Go.bits .and .i64 (ji26) 1) == 1) = true := beq_iff_eq.mpr c27
                              have c27b1 : ((Go.bits .and .i64 (ji26) 1) != 1) = false := bne_eq_false_iff_eq.mpr c27
                              clear c27
                              by_cases c28 : x49_3 < (x11_3.length : Int)
                              · rw [if_pos c28] at H
                                have c28b0 : decide (x49_3 < (x11_3.length : Int)) = true := decide_eq_true c28
                                clear c28
                                obtain ⟨y159, hy159⟩ : ∃ y_ : List Int, y_ = (x11_3.set (x49_3 : Int).toNat 1) := ⟨_, rfl⟩
                                replace H : (impl_LineForced.l1 k3 x7_2 x8_2 y159 (y156.length : Int) (wrap64 (x49_3 + 1))) = some (r1, r2) := by first | (rw [hy159]; with_reducible exact H) | (have H2_ := (Option.bind_some _ _).symm.trans H; rw [hy159]; with_reducible exact H2_) | (have H2_ := (Option.bind_some _ _).symm.trans H; with_reducible exact H2_) | with_reducible exact H | (rw [hy159]; exact H) | exact H
                                have Ny159 := Aside0.mk hy159
                                clear hy159
                                have H' := Aside0.mk H
                                clear H
                                have p29 : 0 ≤ (x49_3 : Int) := of_decide_eq_true (by first | (with_reducible assumption) | assumption)
                                have q29 : (x49_3 : Int) < ((x11_3.length : Int) : Int) := of_decide_eq_true (by first | (with_reducible assumption) | assumption)
                                obtain ⟨go29, co29, eo29, gb29, gl29, cl29, HG29⟩ := Kd.R_form HO_11.out (by omega)
                                (first | cases eo29 | (injection eo29 with ea_ en_ ec_; (first | subst ea_ | (injection ea_ with ea_; subst ea_)); subst ec_; clear en_))
                                have GB29 := Aside0.mk gb29
                                have GG29 := Aside0.mk HG29
                                clear gb29 gl29 HG29
                                obtain ⟨hx29_0, hf29_0⟩ := Kd.R_celln 0 HO_11.out (x49_3 : Int) p29 q29
                                replace p29 := eq_true p29
                                replace q29 := eq_true q29
                                have HP30 := Kd.R_putg HO_11.out (x49_3 : Int) 1
                                go_wp2_with (first | ((with_reducible refine gate_store (t := 3) (p := 60) rfl ?_); refine store_event (t := 3) (p := 60) (v := ?vo_w31) (w1 := (wr.setCell ⟨go29, (x49_3 : Int).toNat, none⟩ (.int .i64 1))) ?hg ?ho ?hn ?hr ?_; (case ho => rfl); (case hg => rfl); (case hn => rfl); (case hr => first | (go_simp; done) | (go_simp; rfl)); intro w31 hw; have hg : wr.grownBy w31 (some go29) := (by rw [hw]; exact HP30.2); have hp_ : Kd.R (Kd.int .i64) 3 w31 w.heap.size (fun _ => True) (.slice (some ⟨go29, 0, none⟩) x11_3.length co23) y159 := (by rw [hw, Ny159.out]; exact HP30.1); clear HP30; have n0_ := Aside0.mk (hp_); have n1_ := Aside0.mk ((by rw [hw]; exact below_set (HB.out) GB29.out : Below w.heap.size w w31)); clear HO_11; clear HB; have HO_11 := n0_; have HB := n1_; clear n0_ n1_; clear hg hw hp_))
                                (try simp only [← hl11_3])
                                go_roundg k3
                                case measure => have := HJ2.out; have := HK2.out; have := HK3.out; omega
                                case rel => exact ⟨(y159), (wrap64 (x49_3 + 1)), (by first | rfl | (simp; done) | (simp [*]; done)), H', ⟨by have := HJ2.out; have := HK2.out; have := HK3.out; omega⟩, ⟨by (try simp only [hl11_3]); (with_reducible repeat (first | apply Kd.R_alloc | apply Kd.R_drewN | apply Kd.R_drew)); exact HO_11.out⟩, ⟨by repeat (first | (with_reducible first | exact HB.out | apply below_alloc | apply pw_below_drewN | apply below_drew1) | exact HB.out)⟩⟩
                              · rw [if_neg c28] at H
                                exact absurd H (by simp)
                            · rw [if_neg c27] at H
                              have c27b0 : ((Go.bits .and .i64 (ji26) 1) == 1) = false := beq_eq_false_iff_ne.mpr c27
                              have c27b1 : ((Go.bits .and .i64 (ji26) 1) != 1) = true := bne_iff_ne.mpr c27
                              have c32b0 := eq_true (of_decide_eq_true (by first | (with_reducible assumption) | assumption) : 0 ≤ x49_3)
                              obtain ⟨ji33, hji33⟩ : ∃ j_ : Int, (shr .i64 x8_2 x49_3) = j_ := ⟨_, rfl⟩
                              replace H : (if (Go.bits .and .i64 (ji33) 1) = 1 then (if x49_3 < (x11_3.length : Int) then (impl_LineForced.l1 k3 x7_2 x8_2 (x11_3.set (x49_3 : Int).toNat (-1)) (y156.length : Int) (wrap64 (x49_3 + 1))) else (none)) else (impl_LineForced.l1 k3 x7_2 x8_2 x11_3 (y156.length : Int) (wrap64 (x49_3 + 1)))) = some (r1, r2) := by first | (rw [hji33] at H; exact H) | (simp only [hji33] at H ⊢; exact H)
                              have hji33_ : (x8_2 / 2 ^ min x49_3.toNat 64) = ji33 := hji33
                              have hji33z : x49_3 ≤ 64 → (x8_2 / 2 ^ x49_3.toNat) = ji33 := shr_small hji33
                              by_cases c34 : (Go.bits .and .i64 (ji33) 1) = 1
                              · rw [if_pos c34] at H
                                have c34b0 : ((Go.bits .and .i64 (ji33) 1) == 1) = true := beq_iff_eq.mpr c34
                                have c34b1 : ((Go.bits .and .i64 (ji33) 1) != 1) = false := bne_eq_false_iff_eq.mpr c34
                                clear c34
                                by_cases c35 : x49_3 < (x11_3.length : Int)
                                · rw [if_pos c35] at H
                                  have c35b0 : decide (x49_3 < (x11_3.length : Int)) = true := decide_eq_true c35
                                  clear c35
                                  obtain ⟨y160, hy160⟩ : ∃ y_ : List Int, y_ = (x11_3.set (x49_3 : Int).toNat (-1)) := ⟨_, rfl⟩
                                  replace H : (impl_LineForced.l1 k3 x7_2 x8_2 y160 (y156.length : Int) (wrap64 (x49_3 + 1))) = some (r1, r2) := by first | (rw [hy160]; with_reducible exact H) | (have H2_ := (Option.bind_some _ _).symm.trans H; rw [hy160]; with_reducible exact H2_) | (have H2_ := (Option.bind_some _ _).symm.trans H; with_reducible exact H2_) | with_reducible exact H | (rw [hy160]; exact H) | exact H
                                  have Ny160 := Aside0.mk hy160
                                  clear hy160
                                  have H' := Aside0.mk H
                                  clear H
                                  have p36 : 0 ≤ (x49_3 : Int) := of_decide_eq_true (by first | (with_reducible assumption) | assumption)
                                  have q36 : (x49_3 : Int) < ((x11_3.length : Int) : Int) := of_decide_eq_true (by first | (with_reducible assumption) | assumption)
                                  obtain ⟨go36, co36, eo36, gb36, gl36, cl36, HG36⟩ := Kd.R_form HO_11.out (by omega)
                                  (first | cases eo36 | (injection eo36 with ea_ en_ ec_; (first | subst ea_ | (injection ea_ with ea_; subst ea_)); subst ec_; clear en_))
                                  have GB36 := Aside0.mk gb36
                                  have GG36 := Aside0.mk HG36
                                  clear gb36 gl36 HG36
                                  obtain ⟨hx36_0, hf36_0⟩ := Kd.R_celln 0 HO_11.out (x49_3 : Int) p36 q36
                                  replace p36 := eq_true p36
                                  replace q36 := eq_true q36
                                  have HP37 := Kd.R_putg HO_11.out (x49_3 : Int) (-1)
                                  go_wp2_with (first | ((with_reducible refine gate_store (t := 3) (p := 69) rfl ?_); refine store_event (t := 3) (p := 69) (v := ?vo_w38) (w1 := (wr.setCell ⟨go36, (x49_3 : Int).toNat, none⟩ (.int .i64 (-1)))) ?hg ?ho ?hn ?hr ?_; (case ho => rfl); (case hg => rfl); (case hn => rfl); (case hr => first | (go_simp; done) | (go_simp; rfl)); intro w38 hw; have hg : wr.grownBy w38 (some go36) := (by rw [hw]; exact HP37.2); have hp_ : Kd.R (Kd.int .i64) 3 w38 w.heap.size (fun _ => True) (.slice (some ⟨go36, 0, none⟩) x11_3.length co23) y160 := (by rw [hw, Ny160.out]; exact HP37.1); clear HP37; have n0_ := Aside0.mk (hp_); have n1_ := Aside0.mk ((by rw [hw]; exact below_set (HB.out) GB36.out : Below w.heap.size w w38)); clear HO_11; clear HB; have HO_11 := n0_; have HB := n1_; clear n0_ n1_; clear hg hw hp_))
                                  (try simp only [← hl11_3])
                                  go_roundg k3
                                  case measure => have := HJ2.out; have := HK2.out; have := HK3.out; omega
                                  case rel => exact ⟨(y160), (wrap64 (x49_3 + 1)), (by first | rfl | (simp; done) | (simp [*]; done)), H', ⟨by have := HJ2.out; have := HK2.out; have := HK3.out; omega⟩, ⟨by (try simp only [hl11_3]); (with_reducible repeat (first | apply Kd.R_alloc | apply Kd.R_drewN | apply Kd.R_drew)); exact HO_11.out⟩, ⟨by repeat (first | (with_reducible first | exact HB.out | apply below_alloc | apply pw_below_drewN | apply below_drew1) | exact HB.out)⟩⟩
                                · rw [if_neg c35] at H
                                  exact absurd H (by simp)
                              · rw [if_neg c34] at H
                                have c34b0 : ((Go.bits .and .i64 (ji33) 1) == 1) = false := beq_eq_false_iff_ne.mpr c34
                                have c34b1 : ((Go.bits .and .i64 (ji33) 1) != 1) = true := bne_iff_ne.mpr c34
                                have H' := Aside0.mk H
                                clear H
                                go_wp2
                                (try simp only [← hl11_3])
                                go_roundg k3
                                case measure => have := HJ2.out; have := HK2.out; have := HK3.out; omega
                                case rel => exact ⟨(x11_3), (wrap64 (x49_3 + 1)), (by first | rfl | (simp; done) | (simp [*]; done)), H', ⟨by have := HJ2.out; have := HK2.out; have := HK3.out; omega⟩, ⟨by (try simp only [hl11_3]); (with_reducible repeat (first | apply Kd.R_alloc | apply Kd.R_drewN | apply Kd.R_drew)); exact HO_11.out⟩, ⟨by repeat (first | (with_reducible first | exact HB.out | apply below_alloc | apply pw_below_drewN | apply below_drew1) | exact HB.out)⟩⟩
                          · rw [if_neg c25] at H
                            exact absurd H (by simp)
                        · rw [if_neg c24] at H
                          have c24b0 : decide (x49_3 < (y156.length : Int)) = false := decide_eq_false c24
                          (try (have c24b0_x11_3 : decide (x49_3 < (x11_3.length : Int)) = false := by rw [← hl11_3]; exact c24b0))
                          clear c24
                          simp only [Option.some.injEq, Prod.mk.injEq] at H
                          obtain ⟨rfl, rfl⟩ := H
                          go_wp2
                          go_ret2
                          exact ⟨_, by first | rfl | (simp [errW_none, errW_some] <;> rfl) | (simp [*, errW_none, errW_some] <;> rfl), by (with_reducible repeat (first | apply Kd.R_alloc | apply Kd.R_drewN | apply Kd.R_drew)); exact HO_11.out, by repeat (first | (with_reducible first | exact HB.out | apply below_alloc | apply pw_below_drewN | apply below_drew1) | exact HB.out)⟩
                  · rw [if_neg c20] at H
                    exact absurd H (by simp)
                · rw [if_neg c19] at H
                  exact absurd H (by simp)

end Go.Proofs.Ytapnohcfnclleaa.PFnExactPictureLines
