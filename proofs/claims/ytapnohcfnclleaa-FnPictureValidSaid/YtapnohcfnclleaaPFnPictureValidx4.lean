-- Made by a program of this session (the kit print, its indentation halved): the kit print itself does not give this text
import Derived.Test.YtapnohcfnclleaaPFnPictureValidx0
import Derived.Test.YtapnohcfnclleaaPFnPictureValidx1
import Derived.Test.YtapnohcfnclleaaPFnPictureValidx2
import Derived.Test.YtapnohcfnclleaaPFnPictureValidx3
namespace Go.Proofs.Ytapnohcfnclleaa.PFnPictureValid
open Go.RowKit Go.Proofs.YtapnohcfnclleaaW.PrintWords Go.Proofs.YtapnohcfnclleaaW.PrintLast Go.Proofs.YtapnohcfnclleaaW.PrintMore
attribute [local go_sem] max2_int min2_int max_two min_two max_three min_three max_four min_four   -- for this text's walks alone
set_option linter.unusedVariables false
set_option linter.unusedSimpArgs false

/-! ### spec_PictureOf: function 28 -/
mutual
def spec_PictureOf.j0 : Nat → List (List Bool) → Bool → Option ((List (List Int)) × (List (List Int)) × Bool)
 | 0, _, _ => none
 | k + 1, x0, x21 => if x21 = true then (some (([] : List (List Int)), ([] : List (List Int)), false)) else (spec_PictureOf.l0 k x0 0 ([] : List (List Int)))
def spec_PictureOf.l0 : Nat → List (List Bool) → Int → List (List Int) → Option ((List (List Int)) × (List (List Int)) × Bool)
 | 0, _, _, _ => none
 | k + 1, x0, x5, x159000 => if x5 < (x0.length : Int) then (if 0 ≤ x5 then (if 0 < (x0.length : Int) then (if ((rd_L3 x0 x5).length : Int) = ((rd_L3 x0 0).length : Int) then ((spec_ClueOf.f k (rd_L3 x0 x5)).bind fun t165 => (if x159000.length < 5864062014805 then (spec_PictureOf.l0 k x0 (wrap64 (x5 + 1)) (x159000 ++ [t165])) else (none))) else (some (([] : List (List Int)), ([] : List (List Int)), false))) else (none)) else (none)) else (spec_PictureOf.l1 k x0 0 x159000 ([] : List (List Int)))
def spec_PictureOf.l1 : Nat → List (List Bool) → Int → List (List Int) → List (List Int) → Option ((List (List Int)) × (List (List Int)) × Bool)
 | 0, _, _, _, _ => none
 | k + 1, x0, x6, x159000, x159001 => if 0 < (x0.length : Int) then (if x6 < ((rd_L3 x0 0).length : Int) then ((spec_l13Column.f k x0 x6).bind fun t172 => ((spec_ClueOf.f k t172).bind fun t175 => (if x159001.length < 5864062014805 then (spec_PictureOf.l1 k x0 (wrap64 (x6 + 1)) x159000 (x159001 ++ [t175])) else (none)))) else (some (x159000, x159001, true))) else (none)
end
def spec_PictureOf.f (k : Nat) (l0 : List (List Bool)) : Option ((List (List Int)) × (List (List Int)) × Bool) := (spec_l1OwnRowsBool.f k l0).bind fun t155 => ((spec_l1In.f (t155.length : Int) 1 5).bind fun t159 => (if t159 = true then (if 0 < (t155.length : Int) then ((spec_l1In.f ((rd_L3 t155 0).length : Int) 1 5).bind fun t161 => (spec_PictureOf.j0 k t155 (!t161))) else (none)) else (spec_PictureOf.j0 k t155 true)))
theorem spec_PictureOf.mono_l : ∀ k, (∀ y0 y1, LeO (spec_PictureOf.j0 k y0 y1) (spec_PictureOf.j0 (k + 1) y0 y1)) ∧ (∀ y0 y1 y2, LeO (spec_PictureOf.l0 k y0 y1 y2) (spec_PictureOf.l0 (k + 1) y0 y1 y2)) ∧ (∀ y0 y1 y2 y3, LeO (spec_PictureOf.l1 k y0 y1 y2 y3) (spec_PictureOf.l1 (k + 1) y0 y1 y2 y3))
 | 0 => ⟨fun _ _ r h => by simp [spec_PictureOf.j0] at h, fun _ _ _ r h => by simp [spec_PictureOf.l0] at h, fun _ _ _ _ r h => by simp [spec_PictureOf.l1] at h⟩
 | k + 1 => by
  obtain ⟨ih0, ih1, ih2⟩ := spec_PictureOf.mono_l k
  refine ⟨?_, ?_, ?_⟩
  ·intro y0 y1
   unfold spec_PictureOf.j0
   repeat' first
   | (with_reducible exact ih0 _ _)
   | (with_reducible exact ih1 _ _ _)
   | (with_reducible exact ih2 _ _ _ _)
   | (with_reducible exact spec_ClueOf.mono _ _)
   | (with_reducible exact spec_l13Column.mono _ _ _)
   | (with_reducible exact spec_l1OwnRowsBool.mono _ _)
   | (with_reducible exact LeO.refl _)
   | (with_reducible exact LeO.none _)
   | (with_reducible refine LeO.ite ?_ ?_)
   | (with_reducible refine LeO.bind ?_ (fun _ => ?_))
   | exact ih0 _ _
   | exact ih1 _ _ _
   | exact ih2 _ _ _ _
   | exact spec_ClueOf.mono _ _
   | exact spec_l13Column.mono _ _ _
   | exact spec_l1OwnRowsBool.mono _ _
   | exact LeO.none _
   | refine LeO.ite ?_ ?_
   | refine LeO.bind ?_ (fun _ => ?_)
  ·intro y0 y1 y2
   unfold spec_PictureOf.l0
   repeat' first
   | (with_reducible exact ih0 _ _)
   | (with_reducible exact ih1 _ _ _)
   | (with_reducible exact ih2 _ _ _ _)
   | (with_reducible exact spec_ClueOf.mono _ _)
   | (with_reducible exact spec_l13Column.mono _ _ _)
   | (with_reducible exact spec_l1OwnRowsBool.mono _ _)
   | (with_reducible exact LeO.refl _)
   | (with_reducible exact LeO.none _)
   | (with_reducible refine LeO.ite ?_ ?_)
   | (with_reducible refine LeO.bind ?_ (fun _ => ?_))
   | exact ih0 _ _
   | exact ih1 _ _ _
   | exact ih2 _ _ _ _
   | exact spec_ClueOf.mono _ _
   | exact spec_l13Column.mono _ _ _
   | exact spec_l1OwnRowsBool.mono _ _
   | exact LeO.none _
   | refine LeO.ite ?_ ?_
   | refine LeO.bind ?_ (fun _ => ?_)
  ·intro y0 y1 y2 y3
   unfold spec_PictureOf.l1
   repeat' first
   | (with_reducible exact ih0 _ _)
   | (with_reducible exact ih1 _ _ _)
   | (with_reducible exact ih2 _ _ _ _)
   | (with_reducible exact spec_ClueOf.mono _ _)
   | (with_reducible exact spec_l13Column.mono _ _ _)
   | (with_reducible exact spec_l1OwnRowsBool.mono _ _)
   | (with_reducible exact LeO.refl _)
   | (with_reducible exact LeO.none _)
   | (with_reducible refine LeO.ite ?_ ?_)
   | (with_reducible refine LeO.bind ?_ (fun _ => ?_))
   | exact ih0 _ _
   | exact ih1 _ _ _
   | exact ih2 _ _ _ _
   | exact spec_ClueOf.mono _ _
   | exact spec_l13Column.mono _ _ _
   | exact spec_l1OwnRowsBool.mono _ _
   | exact LeO.none _
   | refine LeO.ite ?_ ?_
   | refine LeO.bind ?_ (fun _ => ?_)
theorem spec_PictureOf.mono : ∀ a0 k, LeO (spec_PictureOf.f k a0) (spec_PictureOf.f (k + 1) a0) := by
 intro a0 k
 obtain ⟨ih0, ih1, ih2⟩ := spec_PictureOf.mono_l k
 unfold spec_PictureOf.f
 repeat' first
   | (with_reducible exact ih0 _ _)
   | (with_reducible exact ih1 _ _ _)
   | (with_reducible exact ih2 _ _ _ _)
   | (with_reducible exact spec_ClueOf.mono _ _)
   | (with_reducible exact spec_l13Column.mono _ _ _)
   | (with_reducible exact spec_l1OwnRowsBool.mono _ _)
   | (with_reducible exact LeO.refl _)
   | (with_reducible exact LeO.none _)
   | (with_reducible refine LeO.ite ?_ ?_)
   | (with_reducible refine LeO.bind ?_ (fun _ => ?_))
   | exact ih0 _ _
   | exact ih1 _ _ _
   | exact ih2 _ _ _ _
   | exact spec_ClueOf.mono _ _
   | exact spec_l13Column.mono _ _ _
   | exact spec_l1OwnRowsBool.mono _ _
   | exact LeO.none _
   | refine LeO.ite ?_ ?_
   | refine LeO.bind ?_ (fun _ => ?_)
def spec_PictureOf.T8 : Bool × List (List Nat × List Nat) := (true, [([], []), ([], []), ([0, 1], [0, 1]), ([2], [2]), ([3], [3]), ([], []), ([5], [5]), ([6], [6]), ([7], [7]), ([4, 8], [4, 8])])
def spec_PictureOf.B8 : List Nat := [0, 0, 3, 7, 15, 0, 32, 96, 224, 511]
theorem spec_PictureOf.tab8 : rtab .any (opsOf Try.f28 8) = spec_PictureOf.T8 := by kernel_rfl
theorem spec_PictureOf.bits8 : waitsOk spec_PictureOf.T8.2 spec_PictureOf.B8 = true := by kernel_rfl
def spec_PictureOf.T10 : Bool × List (List Nat × List Nat) := (true, [([], []), ([0], [0]), ([], []), ([], []), ([2, 3], [2, 3]), ([4], [4]), ([5], [5]), ([6], [6]), ([1, 7, 6], [1, 7]), ([0, 1, 2, 3, 4, 5, 6, 7, 8], []), ([9, 8, 8, 0, 1, 2, 3, 4, 5, 6, 7, 8], [8, 9])])
def spec_PictureOf.B10 : List Nat := [0, 1, 0, 0, 12, 28, 60, 124, 255, 511, 1023]
theorem spec_PictureOf.tab10 : rtab .any (opsOf Try.f28 10) = spec_PictureOf.T10 := by kernel_rfl
theorem spec_PictureOf.bits10 : waitsOk spec_PictureOf.T10.2 spec_PictureOf.B10 = true := by kernel_rfl
def spec_PictureOf.T14 : Bool × List (List Nat × List Nat) := (true, [([], []), ([0], [0]), ([], []), ([], []), ([2, 3], [2, 3]), ([4, 4], [4]), ([5], [5]), ([1, 6, 5], [1, 6]), ([0, 1, 2, 3, 4, 5, 6, 7], []), ([8, 7, 7, 0, 1, 2, 3, 4, 5, 6, 7], [7, 8])])
def spec_PictureOf.B14 : List Nat := [0, 1, 0, 0, 12, 28, 60, 127, 255, 511]
theorem spec_PictureOf.tab14 : rtab .any (opsOf Try.f28 14) = spec_PictureOf.T14 := by kernel_rfl
theorem spec_PictureOf.bits14 : waitsOk spec_PictureOf.T14.2 spec_PictureOf.B14 = true := by kernel_rfl
set_option maxHeartbeats 8000000 in
set_option maxRecDepth 100000 in
theorem spec_PictureOf.calls (k : Nat) (A0 : Option Addr) (c0 : Nat) (l0 : List (List Bool)) (r1 : List (List Int)) (r2 : List (List Int)) (r3 : Bool) (w : World) (hr0 : Kd.C (Kd.slice 4 Kd.bool) w A0 l0.length l0) (hc0 : l0.length ≤ c0) (h : spec_PictureOf.f k l0 = some (r1, r2, r3)) :
  Calls Try.prog 28 #[.slice A0 l0.length c0] w fun e w' => ∃ v0_ v1_ : Value, e = .returned (.tuple #[.agg #[v0_, v1_], .bool r3]) ∧ Kd.R (Kd.slice 3 (Kd.int .i64)) 36 w' w.heap.size (fun k_ => some k_ ≠ (v1_ : Value).ownBlock) v0_ r1 ∧ Kd.R (Kd.slice 3 (Kd.int .i64)) 36 w' w.heap.size (fun k_ => some k_ ≠ (v0_ : Value).ownBlock) v1_ r2 ∧ Below w.heap.size w w' := by
 have hu25 := Try.underlying25
 have HR0 := Aside0.mk hr0
 have HC0 := Aside0.mk hc0
 clear hr0 hc0
 have HB := Aside0.mk (Below.refl w.heap.size w)
 have H : ((spec_l1OwnRowsBool.f k l0).bind fun t155 => ((spec_l1In.f (t155.length : Int) 1 5).bind fun t159 => (if t159 = true then (if 0 < (t155.length : Int) then ((spec_l1In.f ((rd_L3 t155 0).length : Int) 1 5).bind fun t161 => (spec_PictureOf.j0 k t155 (!t161))) else (none)) else (spec_PictureOf.j0 k t155 true)))) = some (r1, r2, r3) := h
 clear h
 replace H := Option.bind_eq_some_iff.mp H
 obtain ⟨t155, A20, H⟩ := H
 replace H : ((spec_l1In.f (t155.length : Int) 1 5).bind fun t159 => (if t159 = true then (if 0 < (t155.length : Int) then ((spec_l1In.f ((rd_L3 t155 0).length : Int) 1 5).bind fun t161 => (spec_PictureOf.j0 k t155 (!t161))) else (none)) else (spec_PictureOf.j0 k t155 true))) = some (r1, r2, r3) := H
 have A2 := Aside0.mk A20
 clear A20
 have HC3 := Aside0.mk H
 clear H
 go_enter Try.func28, Try.ntmps28
 go_upto_region 3 with (first | ((with_reducible refine gate_dst (N := 2) rfl ?_); (try (refine gate_guard (by rfl) ?_; dsimp only)); refine box_event ?hg (N := 2) ?hd (cs := #[.slice none 0 0, .slice none 0 0]) (t := 25) ?hr ?_; (case hd => rfl); (case hg => rfl); (case hr => first | (go_simp; done) | (go_simp; rfl)); intro gb154 hg w4 hbox hb; have n0_ := Aside0.mk (below_step (by repeat (first | (with_reducible first | exact HB.out | apply below_alloc | apply pw_below_drewN | apply below_drew1) | exact HB.out)) hb); have n1_ := Aside0.mk (hbox); have n2_ := Aside0.mk ((by rw [hg]; exact (below_size (by repeat (first | (with_reducible first | exact HB.out | apply below_alloc | apply pw_below_drewN | apply below_drew1) | exact HB.out))) : w.heap.size ≤ gb154)); have n3_ := Aside0.mk ((by rw [hg]; exact (below_size (by repeat (first | (with_reducible first | exact HB.out | apply below_alloc | apply pw_below_drewN | apply below_drew1) | exact HB.out))) : w.heap.size ≤ gb154)); clear HB; have HB := n0_; have BK154 := n1_; have GW154 := n2_; have GE154 := n3_; clear n0_ n1_ n2_ n3_; clear hb hbox hg) | ((with_reducible refine gate_callee (f := 61) rfl ?_); refine goesL_ (some 8) rfl rfl Try.func61 (by kernel_rfl) rfl #[.slice A0 l0.length c0] rfl (by (try simp only [List.map_toArray, List.map_cons, List.map_nil]); first | done | rfl | (simp only [List.length_drop, List.length_take]; rfl)) ?_; (with_reducible refine (spec_l1OwnRowsBool.calls k _ _ l0 t155 _ ?side1 ?side2 A2.out).mono ?_); (case side1 => repeat (first | exact (Kd.C_below HR0.out HB.out) | (with_reducible refine Kd.C_alloc ?_ _) | (with_reducible refine Kd.C_drewN ?_ _) | (with_reducible refine Kd.C_drew ?_))); (case side2 => exact HC0.out); rintro e w5 ⟨v156, rfl, ho0, hb⟩; refine ⟨_, rfl, ?_⟩; have n0_ := Aside0.mk (Kd.R_lower ho0 (below_size (by repeat (first | (with_reducible first | exact HB.out | apply below_alloc | apply pw_below_drewN | apply below_drew1 | refine below_set ?_ GE154.out) | exact HB.out)))); have n1_ := Aside0.mk (blk_below (g := gb154) (o := .cells #[.slice none 0 0, .slice none 0 0] 25 (0, 0)) (by (with_reducible repeat (first | refine blk_drewN ?_ _ | refine blk_drew ?_ | refine blk_alloc ?_ _)); exact BK154.out) hb); have n2_ := Aside0.mk (below_step (by repeat (first | (with_reducible first | exact HB.out | apply below_alloc | apply pw_below_drewN | apply below_drew1 | refine below_set ?_ GE154.out) | exact HB.out)) hb); clear BK154; clear HB; have HO157 := n0_; have BK154 := n1_; have HB := n2_; clear n0_ n1_ n2_; (try clear hb); (try clear hb2); (try clear hk); (try clear hi); (try clear ho0)) | ((with_reducible refine gate_dst (N := 4) rfl ?_); (try (refine gate_guard (by rfl) ?_; dsimp only)); refine box_event ?hg (N := 4) ?hd (cs := #[.slice none 0 0, .slice none 0 0]) (t := 25) ?hr ?_; (case hd => rfl); (case hg => rfl); (case hr => first | (go_simp; done) | (go_simp; rfl)); intro gb158 hg w6 hbox hb; have n0_ := Aside0.mk (Kd.R_below (by (with_reducible repeat (first | apply Kd.R_alloc | apply Kd.R_drewN | apply Kd.R_drew)); exact HO157.out) hb); have n1_ := Aside0.mk (blk_below (g := gb154) (o := .cells #[.slice none 0 0, .slice none 0 0] 25 (0, 0)) (by (with_reducible repeat (first | refine blk_drewN ?_ _ | refine blk_drew ?_ | refine blk_alloc ?_ _)); exact BK154.out) hb); have n2_ := Aside0.mk (below_step (by repeat (first | (with_reducible first | exact HB.out | apply below_alloc | apply pw_below_drewN | apply below_drew1 | refine below_set ?_ GE154.out) | exact HB.out)) hb); have n3_ := Aside0.mk (hbox); have n4_ := Aside0.mk ((by rw [hg]; exact (below_size (by repeat (first | (with_reducible first | exact HB.out | apply below_alloc | apply pw_below_drewN | apply below_drew1 | refine below_set ?_ GE154.out) | exact HB.out))) : w.heap.size ≤ gb158)); have n5_ := Aside0.mk ((by rw [hg]; exact (below_size (by repeat (first | (with_reducible first | exact HB.out | apply below_alloc | apply pw_below_drewN | apply below_drew1 | refine below_set ?_ GE154.out) | exact HB.out))) : w.heap.size ≤ gb158)); have n6_ := Aside0.mk ((by rw [hg]; exact Nat.ne_of_lt (blk_lt (g := gb154) (o := .cells #[.slice none 0 0, .slice none 0 0] 25 (0, 0)) (by (with_reducible repeat (first | refine blk_drewN ?_ _ | refine blk_drew ?_ | refine blk_alloc ?_ _)); exact BK154.out)) : gb154 ≠ gb158)); have n7_ := Aside0.mk ((by rw [hg]; exact Nat.ne_of_gt (blk_lt (g := gb154) (o := .cells #[.slice none 0 0, .slice none 0 0] 25 (0, 0)) (by (with_reducible repeat (first | refine blk_drewN ?_ _ | refine blk_drew ?_ | refine blk_alloc ?_ _)); exact BK154.out)) : gb158 ≠ gb154)); clear HO157; clear BK154; clear HB; have HO157 := n0_; have BK154 := n1_; have HB := n2_; have BK158 := n3_; have GW158 := n4_; have GE158 := n5_; have NB154_158 := n6_; have NB158_154 := n7_; clear n0_ n1_ n2_ n3_ n4_ n5_ n6_ n7_; clear hb hbox hg; have hnb7 := NB158_154.out; have hnc7 := NB154_158.out; have hcz8_0 : w6.cell? ⟨gb158, 0, none⟩ = some (.slice none 0 0) := (blk_cell BK158.out 0).trans rfl; have hcz8_1 : w6.cell? ⟨gb158, 1, none⟩ = some (.slice none 0 0) := (blk_cell BK158.out 1).trans rfl; have hfz8_0 := blk_frozen BK158.out 0; have hfz8_1 := blk_frozen BK158.out 1))
 (try simp only [Act.put, List.setIfInBounds_toArray, List.set_cons_zero, List.set_cons_succ])
 go_cut [21] (fun v21 wc => ∃ (kq : Nat) (x21_2 : Bool), v21 = .bool x21_2 ∧ Aside0 (spec_PictureOf.j0 kq t155 x21_2 = some (r1, r2, r3)) ∧ Aside0 (kq ≤ k) ∧ Aside0 (Kd.R (Kd.slice 4 Kd.bool) 37 wc w.heap.size (fun _ => True) v156 t155) ∧ Aside0 (wc.heap[gb154]? = some (.cells #[(.slice none 0 0), (.slice none 0 0)] 25 (0, 0))) ∧ Aside0 (wc.heap[gb158]? = some (.cells #[(.slice none 0 0), (.slice none 0 0)] 25 (0, 0))) ∧ Aside0 (Below w.heap.size w wc))
 case first =>
  have H := HC3.out
  clear HC3
  replace H := Option.bind_eq_some_iff.mp H
  obtain ⟨t159, A90, H⟩ := H
  replace H : (if t159 = true then (if 0 < (t155.length : Int) then ((spec_l1In.f ((rd_L3 t155 0).length : Int) 1 5).bind fun t161 => (spec_PictureOf.j0 k t155 (!t161))) else (none)) else (spec_PictureOf.j0 k t155 true)) = some (r1, r2, r3) := H
  have A9 := Aside0.mk A90
  clear A90
  by_cases c10 : t159 = true
  ·subst c10
   have H1 : (if 0 < (t155.length : Int) then ((spec_l1In.f ((rd_L3 t155 0).length : Int) 1 5).bind fun t161 => (spec_PictureOf.j0 k t155 (!t161))) else (none)) = some (r1, r2, r3) := by rw [if_pos rfl] at H; exact H
   clear H
   have H := H1
   clear H1
   by_cases c11 : 0 < (t155.length : Int)
   ·rw [if_pos c11] at H
    have c11b0 : decide (0 < (t155.length : Int)) = true := decide_eq_true c11
    have c11b1 : decide (0 < t155.length) = true := decide_eq_true (by omega)
    clear c11
    (first | rw [c11b0] | (simp only [i64_w, i32_w]; rw [c11b0]) | skip)
    replace H := Option.bind_eq_some_iff.mp H
    obtain ⟨t161, A120, H⟩ := H
    replace H : (spec_PictureOf.j0 k t155 (!t161)) = some (r1, r2, r3) := H
    have A12 := Aside0.mk A120
    clear A120
    have H' := Aside0.mk H
    clear H
    obtain ⟨Ao13, co13, eo13⟩ := Kd.R_slice HO157.out
    subst eo13
    go_wp2_with (first | ((with_reducible refine gate_callee (f := 53) rfl ?_); refine goesL_ (some 12) rfl rfl Try.func53 (by kernel_rfl) rfl #[.int .i64 (t155.length : Int), .int .i64 1, .int .i64 5] rfl (by (try simp only [List.map_toArray, List.map_cons, List.map_nil]); first | done | rfl | (simp only [List.length_drop, List.length_take]; rfl)) ?_; (with_reducible refine (spec_l1In.calls (t155.length : Int) 1 5 true _ A9.out).mono ?_); rintro e w' ⟨rfl, ⟨nd, rfl⟩⟩; refine ⟨_, rfl, ?_⟩; have p160 : 0 ≤ (0 : Int) := (by omega); have q160 : 0 < (t155.length : Int) := of_decide_eq_true (by first | (with_reducible assumption) | assumption); obtain ⟨ad160, A160_0, c160_0, e160, hx160_0, hl160_0, hi160_0⟩ := at_L3 (Kd.R_reads' HO157.out).2.2 0 p160 q160; cases e160; have qi160 : (0 < t155.length) = True := eq_true (by omega); (try rw [show ((0 : Int)).toNat = 0 from rfl] at hx160_0); (try rw [Addr.add_zero'] at hx160_0); have hn160_0 : ad160.block ≠ gb158 := Kd.own_blk (Kd.R_ne HO157.out BK158.out (by decide)); have hn160_1 : ad160.block ≠ gb158 := Kd.own_blk (Kd.R_ne HO157.out BK158.out (by decide)); have HR160_0 := Aside0.mk hi160_0; have HC160_0 := Aside0.mk hl160_0; clear hi160_0 hl160_0; replace hx160_0 := (cell_far (p := ⟨gb158, 0, none⟩) (by first | (rw [add_block]; exact hn160_0) | (show (Addr.add _ _).block ≠ _; rw [add_block]; exact hn160_0) | exact hn160_0) (.slice none 0 0)).trans hx160_0; replace hx160_0 := (cell_far (p := ⟨gb158, 1, none⟩) (by first | (rw [add_block]; exact hn160_1) | (show (Addr.add _ _).block ≠ _; rw [add_block]; exact hn160_1) | exact hn160_1) (.slice none 0 0)).trans hx160_0; clear hn160_0; clear hn160_1; replace p160 := eq_true p160; replace q160 := eq_true q160) | (go_at_call 53; (with_reducible refine (spec_l1In.calls ((rd_L3 t155 0).length : Int) 1 5 t161 _ A12.out).mono ?_); rintro e w' ⟨rfl, ⟨nd, rfl⟩⟩))
    go_meet
    case rel => exact ⟨_, (!t161), (by first | rfl | (simp; done) | (simp [*]; done)), H', ⟨by first | omega | exact Nat.le_refl _⟩, ⟨by (with_reducible repeat (first | apply Kd.R_alloc | apply Kd.R_drewN | apply Kd.R_drew)); exact Kd.R_mono (Kd.R_far (p := ⟨gb158, 1, none⟩) (Kd.R_far (p := ⟨gb158, 0, none⟩) (Kd.R_types HO157.out BK158.out (by decide)) (fun _ hk => hk.2) (.slice none 0 0)) (fun _ hk => hk.2) (.slice none 0 0)) (fun _ hk => trivial)⟩, ⟨by (with_reducible repeat (first | refine blk_drewN ?_ _ | refine blk_drew ?_ | refine blk_alloc ?_ _)); refine blk_far ?_ NB154_158.out _; (with_reducible repeat (first | refine blk_drewN ?_ _ | refine blk_drew ?_ | refine blk_alloc ?_ _)); refine blk_far ?_ NB154_158.out _; (with_reducible repeat (first | refine blk_drewN ?_ _ | refine blk_drew ?_ | refine blk_alloc ?_ _)); exact BK154.out⟩, ⟨by (with_reducible repeat (first | refine blk_drewN ?_ _ | refine blk_drew ?_ | refine blk_alloc ?_ _)); refine blk_put (cs := #[.slice none 0 0, .slice none 0 0]) ?_ 1 _ rfl; (with_reducible repeat (first | refine blk_drewN ?_ _ | refine blk_drew ?_ | refine blk_alloc ?_ _)); refine blk_put (cs := #[.slice none 0 0, .slice none 0 0]) ?_ 0 _ rfl; (with_reducible repeat (first | refine blk_drewN ?_ _ | refine blk_drew ?_ | refine blk_alloc ?_ _)); exact BK158.out⟩, ⟨by repeat (first | (with_reducible first | exact HB.out | apply below_alloc | apply pw_below_drewN | apply below_drew1 | refine below_set ?_ GE154.out | refine below_set ?_ GE158.out) | exact HB.out)⟩⟩
   ·rw [if_neg c11] at H
    exact absurd H (by simp)
  ·replace c10 := Bool.eq_false_iff.mpr c10
   subst c10
   have H1 : (spec_PictureOf.j0 k t155 true) = some (r1, r2, r3) := by rw [if_neg (show ¬ (false = true) by decide)] at H; exact H
   clear H
   have H := H1
   clear H1
   have H' := Aside0.mk H
   clear H
   obtain ⟨Ao14, co14, eo14⟩ := Kd.R_slice HO157.out
   subst eo14
   go_wp2_with (first | ((with_reducible refine gate_callee (f := 53) rfl ?_); refine goesL_ (some 12) rfl rfl Try.func53 (by kernel_rfl) rfl #[.int .i64 (t155.length : Int), .int .i64 1, .int .i64 5] rfl (by (try simp only [List.map_toArray, List.map_cons, List.map_nil]); first | done | rfl | (simp only [List.length_drop, List.length_take]; rfl)) ?_; (with_reducible refine (spec_l1In.calls (t155.length : Int) 1 5 false _ A9.out).mono ?_); rintro e w' ⟨rfl, ⟨nd, rfl⟩⟩; refine ⟨_, rfl, ?_⟩))
   go_meet
   case rel => exact ⟨_, (true), (by first | rfl | (simp; done) | (simp [*]; done)), H', ⟨by first | omega | exact Nat.le_refl _⟩, ⟨by (with_reducible repeat (first | apply Kd.R_alloc | apply Kd.R_drewN | apply Kd.R_drew)); exact Kd.R_mono (Kd.R_far (p := ⟨gb158, 1, none⟩) (Kd.R_far (p := ⟨gb158, 0, none⟩) (Kd.R_types HO157.out BK158.out (by decide)) (fun _ hk => hk.2) (.slice none 0 0)) (fun _ hk => hk.2) (.slice none 0 0)) (fun _ hk => trivial)⟩, ⟨by (with_reducible repeat (first | refine blk_drewN ?_ _ | refine blk_drew ?_ | refine blk_alloc ?_ _)); refine blk_far ?_ NB154_158.out _; (with_reducible repeat (first | refine blk_drewN ?_ _ | refine blk_drew ?_ | refine blk_alloc ?_ _)); refine blk_far ?_ NB154_158.out _; (with_reducible repeat (first | refine blk_drewN ?_ _ | refine blk_drew ?_ | refine blk_alloc ?_ _)); exact BK154.out⟩, ⟨by (with_reducible repeat (first | refine blk_drewN ?_ _ | refine blk_drew ?_ | refine blk_alloc ?_ _)); refine blk_put (cs := #[.slice none 0 0, .slice none 0 0]) ?_ 1 _ rfl; (with_reducible repeat (first | refine blk_drewN ?_ _ | refine blk_drew ?_ | refine blk_alloc ?_ _)); refine blk_put (cs := #[.slice none 0 0, .slice none 0 0]) ?_ 0 _ rfl; (with_reducible repeat (first | refine blk_drewN ?_ _ | refine blk_drew ?_ | refine blk_alloc ?_ _)); exact BK158.out⟩, ⟨by repeat (first | (with_reducible first | exact HB.out | apply below_alloc | apply pw_below_drewN | apply below_drew1 | refine below_set ?_ GE154.out | refine below_set ?_ GE158.out) | exact HB.out)⟩⟩
 case rest =>
  clear HC3
  try clear c1
  try clear p1
  try clear q1
  try clear hx1
  try clear qi1
  try clear c2
  try clear p2
  try clear c5
  try clear c6
  try clear c7
  try clear c10
  try clear c11
  try clear c11b0
  try clear c11b1
  try clear hcz8_0
  try clear hcz8_1
  try clear hfz8_0
  try clear hfz8_1
  try clear hx160_0
  try clear p160
  try clear q160
  obtain ⟨kq, x21_2, rfl, HA, HJ2, HO_0, BK154, BK158, HB⟩ := hcut
  cases kq with
  | zero => exact absurd HA.out (by simp [spec_PictureOf.j0])
  | succ kj2 =>
   have H := HA.out
   clear HA
   simp only [spec_PictureOf.j0] at H
   by_cases c15 : x21_2 = true
   ·subst c15
    have H1 : (some (([] : List (List Int)), ([] : List (List Int)), false)) = some (r1, r2, r3) := by rw [if_pos rfl] at H; exact H
    clear H
    have H := H1
    clear H1
    simp only [Option.some.injEq, Prod.mk.injEq] at H
    obtain ⟨rfl, rfl, rfl⟩ := H
    have hnb16 := NB158_154.out
    have hnc16 := NB154_158.out
    have hcz17_0 : wc.cell? ⟨gb158, 0, none⟩ = some (.slice none 0 0) := (blk_cell BK158.out 0).trans rfl
    have hcz17_1 : wc.cell? ⟨gb158, 1, none⟩ = some (.slice none 0 0) := (blk_cell BK158.out 1).trans rfl
    have hfz17_0 := blk_frozen BK158.out 0
    have hfz17_1 := blk_frozen BK158.out 1
    have hcz18_0 : wc.cell? ⟨gb154, 0, none⟩ = some (.slice none 0 0) := (blk_cell BK154.out 0).trans rfl
    have hcz18_1 : wc.cell? ⟨gb154, 1, none⟩ = some (.slice none 0 0) := (blk_cell BK154.out 1).trans rfl
    have hfz18_0 := blk_frozen BK154.out 0
    have hfz18_1 := blk_frozen BK154.out 1
    go_wp2
    refine bodyPost_ret (results_ct rfl _ _ gb154 25 #[.slice none 0 0, .slice none 0 0] (0, 0) _ rfl (by (with_reducible repeat (first | refine blk_drewN ?_ _ | refine blk_drew ?_ | refine blk_alloc ?_ _)); refine blk_put (cs := #[.slice none 0 0, .slice none 0 0]) ?_ 1 _ rfl; (with_reducible repeat (first | refine blk_drewN ?_ _ | refine blk_drew ?_ | refine blk_alloc ?_ _)); refine blk_put (cs := #[.slice none 0 0, .slice none 0 0]) ?_ 0 _ rfl; (with_reducible repeat (first | refine blk_drewN ?_ _ | refine blk_drew ?_ | refine blk_alloc ?_ _)); exact BK154.out) Try.underlying25 rfl (by kernel_rfl)) rfl ?_
    exact ⟨_, _, by first | rfl | (simp [errW_none, errW_some] <;> rfl) | (simp [*, errW_none, errW_some] <;> rfl), by first | exact Kd.R_nil _ _ _ _ _ | exact Kd.N_nil _ _ _ _ _ | exact Kd.V_nil _ _ _ _ _ | exact Kd.Q_nil _ _ _ _ _ | exact Kd.S_nil _ _ _ _ _, by first | exact Kd.R_nil _ _ _ _ _ | exact Kd.N_nil _ _ _ _ _ | exact Kd.V_nil _ _ _ _ _ | exact Kd.Q_nil _ _ _ _ _ | exact Kd.S_nil _ _ _ _ _, by repeat (first | (with_reducible first | exact HB.out | apply below_alloc | apply pw_below_drewN | apply below_drew1 | refine below_set ?_ GE154.out | refine below_set ?_ GE158.out) | exact HB.out)⟩
   ·replace c15 := Bool.eq_false_iff.mpr c15
    subst c15
    have H1 : (spec_PictureOf.l0 kj2 t155 0 ([] : List (List Int))) = some (r1, r2, r3) := by rw [if_neg (show ¬ (false = true) by decide)] at H; exact H
    clear H
    have H := H1
    clear H1
    have H' := Aside0.mk H
    clear H
    go_wp2
    go_loopg [5] kj2 (fun kq v5 w' => ∃ (x5_2 : Int) (x159000_2 : List (List Int)) (u159000 : Value), v5 = .int .i64 x5_2 ∧ Aside0 (spec_PictureOf.l0 kq t155 x5_2 x159000_2 = some (r1, r2, r3)) ∧ Aside0 (kq ≤ kj2) ∧ Aside0 (Kd.R (Kd.slice 4 Kd.bool) 37 w' w.heap.size (fun _ => True) v156 t155) ∧ Aside0 (Kd.R (Kd.slice 3 (Kd.int .i64)) 36 w' w.heap.size (fun _ => True) u159000 x159000_2) ∧ Aside0 (w'.heap[gb154]? = some (.cells #[(.slice none 0 0), (.slice none 0 0)] 25 (0, 0))) ∧ Aside0 (w'.heap[gb158]? = some (.cells #[u159000, (.slice none 0 0)] 25 (0, 0))) ∧ Aside0 (Below w.heap.size w w'))
    case atStart => exact ⟨(0), (([] : List (List Int))), (.slice none 0 0), (by first | rfl | (simp; done) | (simp [*]; done)), H', ⟨Nat.le_refl _⟩, ⟨by (with_reducible repeat (first | apply Kd.R_alloc | apply Kd.R_drewN | apply Kd.R_drew)); exact HO_0.out⟩, ⟨by first | exact Kd.R_nil _ _ _ _ _ | exact Kd.N_nil _ _ _ _ _ | exact Kd.V_nil _ _ _ _ _ | exact Kd.Q_nil _ _ _ _ _ | exact Kd.S_nil _ _ _ _ _⟩, ⟨by (with_reducible repeat (first | refine blk_drewN ?_ _ | refine blk_drew ?_ | refine blk_alloc ?_ _)); exact BK154.out⟩, ⟨by (with_reducible repeat (first | refine blk_drewN ?_ _ | refine blk_drew ?_ | refine blk_alloc ?_ _)); exact BK158.out⟩, ⟨by repeat (first | (with_reducible first | exact HB.out | apply below_alloc | apply pw_below_drewN | apply below_drew1 | refine below_set ?_ GE154.out | refine below_set ?_ GE158.out) | exact HB.out)⟩⟩
    case round =>
     clear H'
     try clear c1
     try clear p1
     try clear q1
     try clear hx1
     try clear qi1
     try clear c2
     try clear p2
     try clear c5
     try clear c6
     try clear c7
     try clear c10
     try clear c11
     try clear c11b0
     try clear c11b1
     try clear c15
     try clear c16
     try clear p16
     try clear q16
     try clear hx16
     try clear qi16
     try clear hcz17_0
     try clear hcz17_1
     try clear hcz18_0
     try clear hcz18_1
     try clear hcz8_0
     try clear hcz8_1
     try clear hfz17_0
     try clear hfz17_1
     try clear hfz18_0
     try clear hfz18_1
     try clear hfz8_0
     try clear hfz8_1
     try clear hx160_0
     try clear p1
     try clear p160
     try clear p2
     try clear q1
     try clear q160
     obtain ⟨x5_2, x159000_2, u159000, rfl, HA, HK2, HO_0, HO_159000, BK154, BK158, HB⟩ := hrel
     cases gk with
     | zero => exact absurd HA.out (by simp [spec_PictureOf.l0])
     | succ k2 =>
      have H := HA.out
      clear HA
      simp only [spec_PictureOf.l0] at H
      by_cases c19 : x5_2 < (t155.length : Int)
      ·rw [if_pos c19] at H
       have c19b0 : decide (x5_2 < (t155.length : Int)) = true := decide_eq_true c19
       clear c19
       by_cases c20 : 0 ≤ x5_2
       ·rw [if_pos c20] at H
        have c20b0 : decide (0 ≤ x5_2) = true := decide_eq_true c20
        clear c20
        by_cases c21 : 0 < (t155.length : Int)
        ·rw [if_pos c21] at H
         have c21b0 : decide (0 < (t155.length : Int)) = true := decide_eq_true c21
         have c21b1 : decide (0 < t155.length) = true := decide_eq_true (by omega)
         clear c21
         by_cases c22 : ((rd_L3 t155 x5_2).length : Int) = ((rd_L3 t155 0).length : Int)
         ·rw [if_pos c22] at H
          have c22b0 : (((rd_L3 t155 x5_2).length : Int) == ((rd_L3 t155 0).length : Int)) = true := beq_iff_eq.mpr c22
          have c22b1 : (((rd_L3 t155 x5_2).length : Int) != ((rd_L3 t155 0).length : Int)) = false := bne_eq_false_iff_eq.mpr c22
          have c22b2 : ((rd_L3 t155 x5_2).length == (rd_L3 t155 0).length) = true := by first | simpa using c22 | (simp at c22 ⊢; omega)
          clear c22
          replace H := Option.bind_eq_some_iff.mp H
          obtain ⟨t165, A230, H⟩ := H
          replace H : (if x159000_2.length < 5864062014805 then (spec_PictureOf.l0 k2 t155 (wrap64 (x5_2 + 1)) (x159000_2 ++ [t165])) else (none)) = some (r1, r2, r3) := H
          have A23 := Aside0.mk A230
          clear A230
          by_cases c24 : x159000_2.length < 5864062014805
          ·rw [if_pos c24] at H
           have LMc24 := Aside0.mk c24
           clear c24
           obtain ⟨y168, hy168⟩ : ∃ y_ : List (List Int), y_ = (x159000_2 ++ [t165]) := ⟨_, rfl⟩
           replace H : (spec_PictureOf.l0 k2 t155 (wrap64 (x5_2 + 1)) y168) = some (r1, r2, r3) := by first | (rw [hy168]; with_reducible exact H) | (have H2_ := (Option.bind_some _ _).symm.trans H; rw [hy168]; with_reducible exact H2_) | (have H2_ := (Option.bind_some _ _).symm.trans H; with_reducible exact H2_) | with_reducible exact H | (rw [hy168]; exact H) | exact H
           have Ny168 := Aside0.mk hy168
           clear hy168
           have H' := Aside0.mk H
           clear H
           obtain ⟨Ao25, co25, eo25⟩ := Kd.R_slice HO_0.out
           subst eo25
           try go_wp2
           have n0_ := Aside0.mk (Kd.R_drew HO_0.out)
           have n1_ := Aside0.mk (Kd.R_drew HO_159000.out)
           have n2_ := Aside0.mk (blk_drew BK154.out)
           have n3_ := Aside0.mk (blk_drew BK158.out)
           have n4_ := Aside0.mk (below_drew1 HB.out)
           clear HO_0
           clear HO_159000
           clear BK154
           clear BK158
           clear HB
           have HO_0 := n0_
           have HO_159000 := n1_
           have BK154 := n2_
           have BK158 := n3_
           have HB := n4_
           clear n0_ n1_ n2_ n3_ n4_
           have p162 : 0 ≤ (x5_2 : Int) := of_decide_eq_true (by first | (with_reducible assumption) | assumption)
           have q162 : x5_2 < (t155.length : Int) := of_decide_eq_true (by first | (with_reducible assumption) | assumption)
           obtain ⟨ad162, A162_0, c162_0, e162, hx162_0, hl162_0, hi162_0⟩ := at_L3 (Kd.R_reads' HO_0.out).2.2 x5_2 p162 q162
           cases e162
           obtain ⟨ce162, hce162, hMe162, hcc162⟩ := Kd.R_get HO_0.out [] x5_2 p162 (by first | exact q162 | exact of_decide_eq_true (by first | (with_reducible assumption) | assumption) | (have e_ := (Kd.R_reads' HO_0.out).1; omega))
           obtain ⟨ve162_0, rfl, ge162_0⟩ := hMe162
           have hv162_0 := hcc162 0 _ rfl
           rw [Nat.add_zero, show ((Kd.slice 4 Kd.bool)).sz = 1 from rfl, Nat.mul_one] at hv162_0
           replace hv162_0 := Option.some.inj (hv162_0.symm.trans hx162_0)
           rw [hv162_0] at ge162_0
           have HL162_0 := Aside0.mk (show Kd.R Kd.bool 4 _ _ _ _ (rd_L3 t155 x5_2) from ge162_0)
           clear hv162_0 ge162_0
           clear hcc162 hce162
           have HR162_0 := Aside0.mk hi162_0
           have HC162_0 := Aside0.mk hl162_0
           clear hi162_0 hl162_0
           replace p162 := eq_true p162
           replace q162 := eq_true q162
           have p163 : 0 ≤ (0 : Int) := (by omega)
           have q163 : 0 < (t155.length : Int) := of_decide_eq_true (by first | (with_reducible assumption) | assumption)
           obtain ⟨ad163, A163_0, c163_0, e163, hx163_0, hl163_0, hi163_0⟩ := at_L3 (Kd.R_reads' HO_0.out).2.2 0 p163 q163
           obtain rfl : ad162 = ad163 := (by injection e163)
           obtain ⟨ce163, hce163, hMe163, hcc163⟩ := Kd.R_get HO_0.out [] 0 p163 (by first | exact q163 | exact of_decide_eq_true (by first | (with_reducible assumption) | assumption) | (have e_ := (Kd.R_reads' HO_0.out).1; omega))
           obtain ⟨ve163_0, rfl, ge163_0⟩ := hMe163
           have hv163_0 := hcc163 0 _ rfl
           rw [Nat.add_zero, show ((Kd.slice 4 Kd.bool)).sz = 1 from rfl, Nat.mul_one] at hv163_0
           replace hv163_0 := Option.some.inj (hv163_0.symm.trans hx163_0)
           rw [hv163_0] at ge163_0
           have HL163_0 := Aside0.mk (show Kd.R Kd.bool 4 _ _ _ _ (rd_L3 t155 0) from ge163_0)
           clear hv163_0 ge163_0
           clear hcc163 hce163
           have qi163 : (0 < t155.length) = True := eq_true (by omega)
           (try rw [show ((0 : Int)).toNat = 0 from rfl] at hx163_0)
           (try rw [Addr.add_zero'] at hx163_0)
           have HR163_0 := Aside0.mk hi163_0
           have HC163_0 := Aside0.mk hl163_0
           clear hi163_0 hl163_0
           replace p163 := eq_true p163
           replace q163 := eq_true q163
           refine start_ (n := 10) (S := fun w' => w'.cell? (ad162.add (x5_2).toNat) = some (.slice A162_0 (rd_L3 t155 x5_2).length c162_0) ∧ w'.cell? ad162 = some (.slice A163_0 (rd_L3 t155 0).length c163_0)) (ds := []) #[false, false, false, false, false, false, false, false, false, false] (by kernel_rfl) rfl rfl ⟨hx162_0, hx163_0⟩ (fun hHeld => ?_); refine with_tabW spec_PictureOf.tab8 spec_PictureOf.bits8 (fun HT_ HW_ => ?_)
           generalize wr.drew = w26 at HO_0 HO_159000 BK154 BK158 HB HL162_0 HL163_0 HR162_0 HR163_0 hx162_0 hx163_0 hHeld ⊢
           refine pure_ (i := 0) (N := some 29) (v := ?_) (a' := ?_) #[true, false, false, false, false, false, false, false, false, false] rfl rfl (any_of HT_.out (by kernel_rfl)) (fun _ _ _ h => h) (Or.inl ⟨by rfl, ?_⟩) ?_ ?_
           rotate_left
           ·intro w'
            go_simp
            with_reducible rfl
           rotate_left
           ·simp only [Act.put, List.setIfInBounds_toArray, List.set_cons_zero, List.set_cons_succ, i64_w, i32_w]
            rfl
           refine pure_ (i := 1) (N := some 30) (v := ?_) (a' := ?_) #[true, true, false, false, false, false, false, false, false, false] rfl rfl (any_of HT_.out (by kernel_rfl)) (fun _ _ _ h => h) (Or.inl ⟨by rfl, ?_⟩) ?_ ?_
           rotate_left
           ·intro w'
            go_simp
            with_reducible rfl
           rotate_left
           ·simp only [Act.put, List.setIfInBounds_toArray, List.set_cons_zero, List.set_cons_succ, i64_w, i32_w]
            rfl
           refine pure_ (i := 2) (N := some 31) (v := ?_) (a' := ?_) #[true, true, true, false, false, false, false, false, false, false] rfl rfl (any_of HT_.out (by kernel_rfl)) (fun _ _ _ h => h) (Or.inl ⟨by rfl, ?_⟩) ?_ ?_
           rotate_left
           ·intro w'
            go_simp
            with_reducible rfl
           rotate_left
           ·simp only [Act.put, List.setIfInBounds_toArray, List.set_cons_zero, List.set_cons_succ, i64_w, i32_w]
            rfl
           refine pure_ (i := 5) (N := some 34) (v := ?_) (a' := ?_) #[true, true, true, false, false, true, false, false, false, false] rfl rfl (any_of HT_.out (by kernel_rfl)) (fun _ _ _ h => h) (Or.inl ⟨by rfl, ?_⟩) ?_ ?_
           rotate_left
           ·intro w'
            go_simp
            with_reducible rfl
           rotate_left
           ·simp only [Act.put, List.setIfInBounds_toArray, List.set_cons_zero, List.set_cons_succ, i64_w, i32_w]
            rfl
           refine pure_ (i := 6) (N := some 35) (v := ?_) (a' := ?_) #[true, true, true, false, false, true, true, false, false, false] rfl rfl (any_of HT_.out (by kernel_rfl)) (fun _ _ _ h => h) (Or.inl ⟨by rfl, ?_⟩) ?_ ?_
           rotate_left
           ·intro w'
            go_simp
            with_reducible rfl
           rotate_left
           ·simp only [Act.put, List.setIfInBounds_toArray, List.set_cons_zero, List.set_cons_succ, i64_w, i32_w]
            rfl
           refine take_ (i := 3) (N := some 32) (v := ?_) (a' := ?_) #[true, true, true, true, false, true, true, false, false, false] rfl rfl (take_ofW HT_.out HW_.out (by kernel_rfl)) (fun _ _ _ h => h) (Or.inl ⟨by rfl, ?_⟩) hHeld ?_ ?_
           rotate_left
           ·rintro w' ⟨s0, s1⟩
            go_simp
            with_reducible rfl
           rotate_left
           ·simp only [Act.put, List.setIfInBounds_toArray, List.set_cons_zero, List.set_cons_succ, i64_w, i32_w]
            rfl
           refine pure_ (i := 4) (N := some 33) (v := ?_) (a' := ?_) #[true, true, true, true, true, true, true, false, false, false] rfl rfl (any_of HT_.out (by kernel_rfl)) (fun _ _ _ h => h) (Or.inl ⟨by rfl, ?_⟩) ?_ ?_
           rotate_left
           ·intro w'
            go_simp
            with_reducible rfl
           rotate_left
           ·simp only [Act.put, List.setIfInBounds_toArray, List.set_cons_zero, List.set_cons_succ, i64_w, i32_w]
            rfl
           refine take_ (i := 7) (N := some 36) (v := ?_) (a' := ?_) #[true, true, true, true, true, true, true, true, false, false] rfl rfl (take_ofW HT_.out HW_.out (by kernel_rfl)) (fun _ _ _ h => h) (Or.inl ⟨by rfl, ?_⟩) hHeld ?_ ?_
           rotate_left
           ·rintro w' ⟨s0, s1⟩
            go_simp
            with_reducible rfl
           rotate_left
           ·simp only [Act.put, List.setIfInBounds_toArray, List.set_cons_zero, List.set_cons_succ, i64_w, i32_w]
            rfl
           refine pure_ (i := 8) (N := some 37) (v := ?_) (a' := ?_) #[true, true, true, true, true, true, true, true, true, false] rfl rfl (any_of HT_.out (by kernel_rfl)) (fun _ _ _ h => h) (Or.inl ⟨by rfl, ?_⟩) ?_ ?_
           rotate_left
           ·intro w'
            go_simp
            with_reducible rfl
           rotate_left
           ·simp only [Act.put, List.setIfInBounds_toArray, List.set_cons_zero, List.set_cons_succ, i64_w, i32_w]
            rfl
           refine pure_ (i := 9) (N := some 38) (v := ?_) (a' := ?_) #[true, true, true, true, true, true, true, true, true, true] rfl rfl (any_of HT_.out (by kernel_rfl)) (fun _ _ _ h => h) (Or.inl ⟨by rfl, ?_⟩) ?_ ?_
           rotate_left
           ·intro w'
            go_simp
            with_reducible rfl
           rotate_left
           ·simp only [Act.put, List.setIfInBounds_toArray, List.set_cons_zero, List.set_cons_succ, i64_w, i32_w]
            rfl
           refine done_ (done_of HT_.out (by kernel_rfl)) ?_
           try go_wp2
           have n0_ := Aside0.mk (Kd.R_drew HO_0.out)
           have n1_ := Aside0.mk (Kd.R_drew HO_159000.out)
           have n2_ := Aside0.mk (Kd.R_drew HL162_0.out)
           have n3_ := Aside0.mk (Kd.R_drew HL163_0.out)
           have n4_ := Aside0.mk (blk_drew BK154.out)
           have n5_ := Aside0.mk (blk_drew BK158.out)
           have n6_ := Aside0.mk (Kd.C_drew HR162_0.out)
           have n7_ := Aside0.mk (Kd.C_drew HR163_0.out)
           have n8_ := Aside0.mk (below_drew1 HB.out)
           clear HO_0
           clear HO_159000
           clear HL162_0
           clear HL163_0
           clear BK154
           clear BK158
           clear HR162_0
           clear HR163_0
           clear HB
           have HO_0 := n0_
           have HO_159000 := n1_
           have HL162_0 := n2_
           have HL163_0 := n3_
           have BK154 := n4_
           have BK158 := n5_
           have HR162_0 := n6_
           have HR163_0 := n7_
           have HB := n8_
           clear n0_ n1_ n2_ n3_ n4_ n5_ n6_ n7_ n8_
           have p164 : 0 ≤ (x5_2 : Int) := of_decide_eq_true (by first | (with_reducible assumption) | assumption)
           have q164 : x5_2 < (t155.length : Int) := of_decide_eq_true (by first | (with_reducible assumption) | assumption)
           obtain ⟨ad164, A164_0, c164_0, e164, hx164_0, hl164_0, hi164_0⟩ := at_L3 (Kd.R_reads' HO_0.out).2.2 x5_2 p164 q164
           obtain rfl : ad162 = ad164 := (by injection e164)
           obtain ⟨ce164, hce164, hMe164, hcc164⟩ := Kd.R_get HO_0.out [] x5_2 p164 (by first | exact q164 | exact of_decide_eq_true (by first | (with_reducible assumption) | assumption) | (have e_ := (Kd.R_reads' HO_0.out).1; omega))
           obtain ⟨ve164_0, rfl, ge164_0⟩ := hMe164
           have hv164_0 := hcc164 0 _ rfl
           rw [Nat.add_zero, show ((Kd.slice 4 Kd.bool)).sz = 1 from rfl, Nat.mul_one] at hv164_0
           replace hv164_0 := Option.some.inj (hv164_0.symm.trans hx164_0)
           rw [hv164_0] at ge164_0
           have HL164_0 := Aside0.mk (show Kd.R Kd.bool 4 _ _ _ _ (rd_L3 t155 x5_2) from ge164_0)
           clear hv164_0 ge164_0
           clear hcc164 hce164
           have HR164_0 := Aside0.mk hi164_0
           have HC164_0 := Aside0.mk hl164_0
           clear hi164_0 hl164_0
           replace p164 := eq_true p164
           replace q164 := eq_true q164
           refine start_ (n := 11) (S := fun w' => w'.cell? ⟨gb158, 0, none⟩ = some (u159000) ∧ w'.cell? ⟨gb158, 1, none⟩ = some (.slice none 0 0) ∧ w'.cell? (ad162.add (x5_2).toNat) = some (.slice A164_0 (rd_L3 t155 x5_2).length c164_0)) (ds := [8, 10]) #[false, false, false, false, false, false, false, false, false, false, false] (by kernel_rfl) rfl rfl ⟨(blk_cell BK158.out 0).trans rfl, (blk_cell BK158.out 1).trans rfl, hx164_0⟩ (fun hHeld => ?_); refine with_tabW spec_PictureOf.tab10 spec_PictureOf.bits10 (fun HT_ HW_ => ?_)
           generalize w26.drew = w27 at HO_0 HO_159000 HL162_0 HL163_0 BK154 BK158 HR162_0 HR163_0 HB HL164_0 HR164_0 hx164_0 hHeld ⊢
           refine pure_ (i := 0) (N := some 40) (v := ?_) (a' := ?_) #[true, false, false, false, false, false, false, false, false, false, false] rfl rfl (any_of HT_.out (by kernel_rfl)) (fun _ _ _ h => h) (Or.inl ⟨by rfl, ?_⟩) ?_ ?_
           rotate_left
           ·intro w'
            go_simp
            with_reducible rfl
           rotate_left
           ·simp only [Act.put, List.setIfInBounds_toArray, List.set_cons_zero, List.set_cons_succ, i64_w, i32_w]
            rfl
           refine pure_ (i := 2) (N := some 42) (v := ?_) (a' := ?_) #[true, false, true, false, false, false, false, false, false, false, false] rfl rfl (any_of HT_.out (by kernel_rfl)) (fun _ _ _ h => h) (Or.inl ⟨by rfl, ?_⟩) ?_ ?_
           rotate_left
           ·intro w'
            go_simp
            with_reducible rfl
           rotate_left
           ·simp only [Act.put, List.setIfInBounds_toArray, List.set_cons_zero, List.set_cons_succ, i64_w, i32_w]
            rfl
           refine pure_ (i := 3) (N := some 43) (v := ?_) (a' := ?_) #[true, false, true, true, false, false, false, false, false, false, false] rfl rfl (any_of HT_.out (by kernel_rfl)) (fun _ _ _ h => h) (Or.inl ⟨by rfl, ?_⟩) ?_ ?_
           rotate_left
           ·intro w'
            go_simp
            with_reducible rfl
           rotate_left
           ·simp only [Act.put, List.setIfInBounds_toArray, List.set_cons_zero, List.set_cons_succ, i64_w, i32_w]
            rfl
           refine pure_ (i := 4) (N := some 44) (v := ?_) (a' := ?_) #[true, false, true, true, true, false, false, false, false, false, false] rfl rfl (any_of HT_.out (by kernel_rfl)) (fun _ _ _ h => h) (Or.inl ⟨by rfl, ?_⟩) ?_ ?_
           rotate_left
           ·intro w'
            go_simp
            with_reducible rfl
           rotate_left
           ·simp only [Act.put, List.setIfInBounds_toArray, List.set_cons_zero, List.set_cons_succ, i64_w, i32_w]
            rfl
           refine take_ (i := 1) (N := some 41) (v := ?_) (a' := ?_) #[true, true, true, true, true, false, false, false, false, false, false] rfl rfl (take_ofW HT_.out HW_.out (by kernel_rfl)) (fun _ _ _ h => h) (Or.inl ⟨by rfl, ?_⟩) hHeld ?_ ?_
           rotate_left
           ·rintro w' ⟨s0, s1, s2⟩
            go_simp
            with_reducible rfl
           rotate_left
           ·simp only [Act.put, List.setIfInBounds_toArray, List.set_cons_zero, List.set_cons_succ, i64_w, i32_w]
            rfl
           refine take_ (i := 5) (N := some 45) (v := ?_) (a' := ?_) #[true, true, true, true, true, true, false, false, false, false, false] rfl rfl (take_ofW HT_.out HW_.out (by kernel_rfl)) (fun _ _ _ h => h) (Or.inl ⟨by rfl, ?_⟩) hHeld ?_ ?_
           rotate_left
           ·rintro w' ⟨s0, s1, s2⟩
            go_simp
            with_reducible rfl
           rotate_left
           ·simp only [Act.put, List.setIfInBounds_toArray, List.set_cons_zero, List.set_cons_succ, i64_w, i32_w]
            rfl
           refine one_ (i := 6) (N := some 46) #[true, true, true, true, true, true, true, false, false, false, false] rfl rfl (one_of HT_.out (by kernel_rfl)) (by decide) (fun K hK => ?_)
           refine goes_ Try.func62 (by kernel_rfl) rfl #[.slice A164_0 (rd_L3 t155 x5_2).length c164_0] (by rfl) rfl rfl (by (try simp only [List.map_toArray, List.map_cons, List.map_nil]); first | done | rfl | (simp only [List.length_drop, List.length_take]; rfl)) ?_
           with_reducible refine (spec_ClueOf.calls k2 _ _ (rd_L3 t155 x5_2) t165 _ ?side1 ?side2 A23.out).mono ?_
           (case side1 => repeat (first | exact (by repeat (first | (with_reducible exact HR164_0.out) | (with_reducible refine Kd.C_alloc ?_ _) | (with_reducible refine Kd.C_drewN ?_ _) | (with_reducible refine Kd.C_drew ?_) | exact HR164_0.out)) | (with_reducible refine Kd.C_alloc ?_ _) | (with_reducible refine Kd.C_drewN ?_ _) | (with_reducible refine Kd.C_drew ?_)))
           (case side2 => exact HC164_0.out)
           rintro e w28 ⟨v166, rfl, ho0, hb⟩
           have HS2_ := (hb.cell (World.block_lt_of_cell? _ _ (hHeld.2.2))).trans (hHeld.2.2)
           refine ⟨_, rfl, ?_⟩
           have n0_ := Aside0.mk (Kd.R_below (by (with_reducible repeat (first | apply Kd.R_alloc | apply Kd.R_drewN | apply Kd.R_drew)); exact HO_0.out) hb)
           have n1_ := Aside0.mk (Kd.R_elder' (by (with_reducible repeat (first | apply Kd.R_alloc | apply Kd.R_drewN | apply Kd.R_drew)); exact HO_159000.out) (Kd.R_base ho0) hb)
           have n2_ := Aside0.mk (Kd.R_below (by (with_reducible repeat (first | apply Kd.R_alloc | apply Kd.R_drewN | apply Kd.R_drew)); exact HL162_0.out) hb)
           have n3_ := Aside0.mk (Kd.R_below (by (with_reducible repeat (first | apply Kd.R_alloc | apply Kd.R_drewN | apply Kd.R_drew)); exact HL163_0.out) hb)
           have n4_ := Aside0.mk (Kd.R_below (by (with_reducible repeat (first | apply Kd.R_alloc | apply Kd.R_drewN | apply Kd.R_drew)); exact HL164_0.out) hb)
           have n5_ := Aside0.mk (Kd.R_lower ho0 (below_size (by repeat (first | (with_reducible first | exact HB.out | apply below_alloc | apply pw_below_drewN | apply below_drew1 | refine below_set ?_ GE154.out | refine below_set ?_ GE158.out) | exact HB.out))))
           have n6_ := Aside0.mk (blk_below (g := gb154) (o := .cells #[.slice none 0 0, .slice none 0 0] 25 (0, 0)) (by (with_reducible repeat (first | refine blk_drewN ?_ _ | refine blk_drew ?_ | refine blk_alloc ?_ _)); exact BK154.out) hb)
           have n7_ := Aside0.mk (blk_below (g := gb158) (o := .cells #[u159000, .slice none 0 0] 25 (0, 0)) (by (with_reducible repeat (first | refine blk_drewN ?_ _ | refine blk_drew ?_ | refine blk_alloc ?_ _)); exact BK158.out) hb)
           have n8_ := Aside0.mk (Kd.C_below (by repeat (first | (with_reducible exact HR162_0.out) | (with_reducible refine Kd.C_alloc ?_ _) | (with_reducible refine Kd.C_drewN ?_ _) | (with_reducible refine Kd.C_drew ?_) | exact HR162_0.out)) hb)
           have n9_ := Aside0.mk (Kd.C_below (by repeat (first | (with_reducible exact HR163_0.out) | (with_reducible refine Kd.C_alloc ?_ _) | (with_reducible refine Kd.C_drewN ?_ _) | (with_reducible refine Kd.C_drew ?_) | exact HR163_0.out)) hb)
           have n10_ := Aside0.mk (Kd.C_below (by repeat (first | (with_reducible exact HR164_0.out) | (with_reducible refine Kd.C_alloc ?_ _) | (with_reducible refine Kd.C_drewN ?_ _) | (with_reducible refine Kd.C_drew ?_) | exact HR164_0.out)) hb)
           have n11_ := Aside0.mk (below_step (by repeat (first | (with_reducible first | exact HB.out | apply below_alloc | apply pw_below_drewN | apply below_drew1 | refine below_set ?_ GE154.out | refine below_set ?_ GE158.out) | exact HB.out)) hb)
           clear HO_0
           clear HO_159000
           clear HL162_0
           clear HL163_0
           clear HL164_0
           clear BK154
           clear BK158
           clear HR162_0
           clear HR163_0
           clear HR164_0
           clear HB
           have HO_0 := n0_
           have HO_159000 := n1_
           have HL162_0 := n2_
           have HL163_0 := n3_
           have HL164_0 := n4_
           have HO167 := n5_
           have BK154 := n6_
           have BK158 := n7_
           have HR162_0 := n8_
           have HR163_0 := n9_
           have HR164_0 := n10_
           have HB := n11_
           clear n0_ n1_ n2_ n3_ n4_ n5_ n6_ n7_ n8_ n9_ n10_ n11_
           (try clear hb)
           (try clear hb2)
           (try clear hk)
           (try clear hi)
           (try clear ho0)
           obtain ⟨Ao30, co30, eo30⟩ := Kd.R_slice HO167.out
           (first | subst eo30 | (injection eo30 with f1_ f2_ f3_; have f4_ := f1_.symm; have f5_ := f3_.symm; clear f1_ f2_ f3_; subst f4_; subst f5_))
           refine hK.out _ _ ⟨(blk_cell BK158.out 0).trans rfl, (blk_cell BK158.out 1).trans rfl, HS2_⟩ (fun hHeld => ?_)
           clear hK K
           refine norm_ (a' := ?_) ?_ ?_
           rotate_left
           ·show Act.put _ (some 46) _ = _
            simp only [Act.put, List.setIfInBounds_toArray, List.set_cons_zero, List.set_cons_succ, i64_w, i32_w]
            rfl
           refine one_ (i := 7) (N := some 47) #[true, true, true, true, true, true, true, true, false, false, false] rfl rfl (one_of HT_.out (by kernel_rfl)) (by decide) (fun K hK => ?_)
           refine value_ (w1 := ?_) (v := ?_) (by rfl) rfl ?_ ?_
           rotate_left 2
           ·go_simp
            constructor
            ·rfl
            ·rfl
           refine hK.out _ _ ⟨(blk_cell (blk_alloc BK158.out _) 0).trans rfl, (blk_cell (blk_alloc BK158.out _) 1).trans rfl, (World.cell?_alloc_lt _ _ _ (World.block_lt_of_cell? _ _ (hHeld.2.2))).trans (hHeld.2.2)⟩ (fun hHeld => ?_)
           clear hK K
           refine norm_ (a' := ?_) ?_ ?_
           rotate_left
           ·show Act.put _ (some 47) _ = _
            simp only [Act.put, List.setIfInBounds_toArray, List.set_cons_zero, List.set_cons_succ, i64_w, i32_w]
            rfl
           refine last_ (i := 8) (N := some 48) #[true, true, true, true, true, true, true, true, true, false, false] rfl rfl (one_of HT_.out (by kernel_rfl)) (by decide) (fun K hK => ?_)
           refine Kd.R_append_step (Kd.slice 3 (Kd.int .i64)) (w0 := w) w.heap.size (by rfl) (.tmp 41) (.tmp 47) 23 36 (.slice none 0 0) 24 rfl Try.underlying23 info36 rfl (by decide) (by omega) u159000 x159000_2 t165 [.slice Ao30 t165.length co30] (fun _ => True) (fun k_ => ((fun _ => True)) k_ ∧ some k_ ≠ (u159000 : Value).ownBlock) rfl rfl ?aP (fun _ hk => hk) ?aF ?aO ?aB ?aS ?aL ?_
           (case aP => exact Kd.M_row (Kd.R_mono (Kd.R_apart' (HO167.out) (Kd.R_typed HO_159000.out) (by decide)) (fun k_ hk => ⟨trivial, hk.2⟩)))
           (case aB => exact (by repeat (first | (with_reducible first | exact HB.out | apply below_alloc | apply pw_below_drewN | apply below_drew1 | refine below_set ?_ GE154.out | refine below_set ?_ GE158.out) | exact HB.out)))
           (case aF => exact (fun _ _ => trivial))
           (case aO => exact (by (with_reducible repeat (first | apply Kd.R_alloc | apply Kd.R_drewN | apply Kd.R_drew)); exact Kd.R_mono HO_159000.out (fun _ hk => trivial)))
           (case aS => exact (below_size (by repeat (first | (with_reducible first | exact HB.out | apply below_alloc | apply pw_below_drewN | apply below_drew1 | refine below_set ?_ GE154.out | refine below_set ?_ GE158.out) | exact HB.out))))
           (case aL => have := LMc24.out; omega)
           intro v169 w29 ho hb hg hat
           rw [← Ny168.out] at ho
           have n0_ := Aside0.mk (Kd.R_over' (by (with_reducible repeat (first | apply Kd.R_alloc | apply Kd.R_drewN | apply Kd.R_drew)); exact HO_0.out) (Kd.R_typed (by (with_reducible repeat (first | apply Kd.R_alloc | apply Kd.R_drewN | apply Kd.R_drew)); exact HO_159000.out)) (by decide) hg)
           have n1_ := Aside0.mk (blk_grown (g := gb154) (o := .cells #[.slice none 0 0, .slice none 0 0] 25 (0, 0)) (by (with_reducible repeat (first | refine blk_drewN ?_ _ | refine blk_drew ?_ | refine blk_alloc ?_ _)); exact BK154.out) hg (Kd.R_ne HO_159000.out BK154.out (by decide)))
           have n2_ := Aside0.mk (blk_grown (g := gb158) (o := .cells #[u159000, .slice none 0 0] 25 (0, 0)) (by (with_reducible repeat (first | refine blk_drewN ?_ _ | refine blk_drew ?_ | refine blk_alloc ?_ _)); exact BK158.out) hg (Kd.R_ne HO_159000.out BK158.out (by decide)))
           have n3_ := Aside0.mk (Kd.R_over' (by (with_reducible repeat (first | apply Kd.R_alloc | apply Kd.R_drewN | apply Kd.R_drew)); exact HL162_0.out) (Kd.R_typed (by (with_reducible repeat (first | apply Kd.R_alloc | apply Kd.R_drewN | apply Kd.R_drew)); exact HO_159000.out)) (by decide) hg)
           have n4_ := Aside0.mk (Kd.R_over' (by (with_reducible repeat (first | apply Kd.R_alloc | apply Kd.R_drewN | apply Kd.R_drew)); exact HL163_0.out) (Kd.R_typed (by (with_reducible repeat (first | apply Kd.R_alloc | apply Kd.R_drewN | apply Kd.R_drew)); exact HO_159000.out)) (by decide) hg)
           have n5_ := Aside0.mk (Kd.R_over' (by (with_reducible repeat (first | apply Kd.R_alloc | apply Kd.R_drewN | apply Kd.R_drew)); exact HL164_0.out) (Kd.R_typed (by (with_reducible repeat (first | apply Kd.R_alloc | apply Kd.R_drewN | apply Kd.R_drew)); exact HO_159000.out)) (by decide) hg)
           have n6_ := Aside0.mk (hb)
           have n7_ := Aside0.mk (ho)
           clear HO_0
           clear BK154
           clear BK158
           clear HL162_0
           clear HL163_0
           clear HL164_0
           clear HB
           clear HO_159000
           clear HO167
           have HO_0 := n0_
           have BK154 := n1_
           have BK158 := n2_
           have HL162_0 := n3_
           have HL163_0 := n4_
           have HL164_0 := n5_
           have HB := n6_
           have HO170 := n7_
           clear n0_ n1_ n2_ n3_ n4_ n5_ n6_ n7_
           clear ho hb hg hat
           obtain ⟨Ao31, co31, eo31⟩ := Kd.R_slice HO170.out
           (first | subst eo31 | (injection eo31 with f1_ f2_ f3_; have f4_ := f1_.symm; have f5_ := f3_.symm; clear f1_ f2_ f3_; subst f4_; subst f5_))
           refine hK.out _ _ ?_
           clear hK K
           refine norm_ (a' := ?_) ?_ ?_
           rotate_left
           ·show Act.put _ (some 48) _ = _
            simp only [Act.put, List.setIfInBounds_toArray, List.set_cons_zero, List.set_cons_succ, i64_w, i32_w]
            rfl
           refine pure_ (i := 9) (N := some 49) (v := ?_) (a' := ?_) #[true, true, true, true, true, true, true, true, true, true, false] rfl rfl (any_of HT_.out (by kernel_rfl)) (fun _ _ _ h => h) (Or.inl ⟨by rfl, ?_⟩) ?_ ?_
           rotate_left
           ·intro w'
            go_simp
            with_reducible rfl
           rotate_left
           ·simp only [Act.put, List.setIfInBounds_toArray, List.set_cons_zero, List.set_cons_succ, i64_w, i32_w]
            rfl
           refine last_ (i := 10) (N := none) #[true, true, true, true, true, true, true, true, true, true, true] rfl rfl (one_of HT_.out (by kernel_rfl)) (by decide) (fun K hK => ?_)
           have hs32 : w29.cell? ⟨gb158, 0, none⟩ = some (u159000) := (blk_cell BK158.out 0).trans rfl
           have hfs32 := blk_frozen BK158.out 0
           have hns32_0 := NB154_158.out
           have hms32_0 := NB158_154.out
           refine skip_ (w1 := ?_) (by rfl) rfl ?_ ?_
           rotate_left
           ·go_simp
            rfl
           refine hK.out _ _ ?_
           clear hK K
           refine done_ (done_of HT_.out (by kernel_rfl)) ?_
           try go_wp2
           go_roundg k2
           case measure => have := HJ2.out; have := HK2.out; omega
           case rel => exact ⟨(wrap64 (x5_2 + 1)), (y168), (.slice Ao31 y168.length co31), (by first | rfl | (simp; done) | (simp [*]; done)), H', ⟨by have := HJ2.out; have := HK2.out; omega⟩, ⟨by (with_reducible repeat (first | apply Kd.R_alloc | apply Kd.R_drewN | apply Kd.R_drew)); exact Kd.R_mono (Kd.R_far (p := ⟨gb158, 0, none⟩) (Kd.R_types HO_0.out BK158.out (by decide)) (fun _ hk => hk.2) (.slice Ao31 y168.length co31)) (fun _ hk => trivial)⟩, ⟨by (with_reducible repeat (first | apply Kd.R_alloc | apply Kd.R_drewN | apply Kd.R_drew)); exact Kd.R_mono (Kd.R_far (p := ⟨gb158, 0, none⟩) (Kd.R_types HO170.out BK158.out (by decide)) (fun _ hk => hk.2) (.slice Ao31 y168.length co31)) (fun _ hk => trivial)⟩, ⟨by (with_reducible repeat (first | refine blk_drewN ?_ _ | refine blk_drew ?_ | refine blk_alloc ?_ _)); refine blk_far ?_ NB154_158.out _; (with_reducible repeat (first | refine blk_drewN ?_ _ | refine blk_drew ?_ | refine blk_alloc ?_ _)); exact BK154.out⟩, ⟨by (with_reducible repeat (first | refine blk_drewN ?_ _ | refine blk_drew ?_ | refine blk_alloc ?_ _)); refine blk_put (cs := #[u159000, .slice none 0 0]) ?_ 0 _ rfl; (with_reducible repeat (first | refine blk_drewN ?_ _ | refine blk_drew ?_ | refine blk_alloc ?_ _)); exact BK158.out⟩, ⟨by repeat (first | (with_reducible first | exact HB.out | apply below_alloc | apply pw_below_drewN | apply below_drew1 | refine below_set ?_ GE154.out | refine below_set ?_ GE158.out) | exact HB.out)⟩⟩
          ·rw [if_neg c24] at H
           exact absurd H (by simp)
         ·rw [if_neg c22] at H
          have c22b0 : (((rd_L3 t155 x5_2).length : Int) == ((rd_L3 t155 0).length : Int)) = false := beq_eq_false_iff_ne.mpr c22
          have c22b1 : (((rd_L3 t155 x5_2).length : Int) != ((rd_L3 t155 0).length : Int)) = true := bne_iff_ne.mpr c22
          have c22b2 : ((rd_L3 t155 x5_2).length == (rd_L3 t155 0).length) = false := by first | simpa using c22 | (simp at c22 ⊢; omega)
          simp only [Option.some.injEq, Prod.mk.injEq] at H
          obtain ⟨rfl, rfl, rfl⟩ := H
          obtain ⟨Ao33, co33, eo33⟩ := Kd.R_slice HO_0.out
          subst eo33
          try go_wp2
          have n0_ := Aside0.mk (Kd.R_drew HO_0.out)
          have n1_ := Aside0.mk (Kd.R_drew HO_159000.out)
          have n2_ := Aside0.mk (blk_drew BK154.out)
          have n3_ := Aside0.mk (blk_drew BK158.out)
          have n4_ := Aside0.mk (below_drew1 HB.out)
          clear HO_0
          clear HO_159000
          clear BK154
          clear BK158
          clear HB
          have HO_0 := n0_
          have HO_159000 := n1_
          have BK154 := n2_
          have BK158 := n3_
          have HB := n4_
          clear n0_ n1_ n2_ n3_ n4_
          have p162 : 0 ≤ (x5_2 : Int) := of_decide_eq_true (by first | (with_reducible assumption) | assumption)
          have q162 : x5_2 < (t155.length : Int) := of_decide_eq_true (by first | (with_reducible assumption) | assumption)
          obtain ⟨ad162, A162_0, c162_0, e162, hx162_0, hl162_0, hi162_0⟩ := at_L3 (Kd.R_reads' HO_0.out).2.2 x5_2 p162 q162
          cases e162
          obtain ⟨ce162, hce162, hMe162, hcc162⟩ := Kd.R_get HO_0.out [] x5_2 p162 (by first | exact q162 | exact of_decide_eq_true (by first | (with_reducible assumption) | assumption) | (have e_ := (Kd.R_reads' HO_0.out).1; omega))
          obtain ⟨ve162_0, rfl, ge162_0⟩ := hMe162
          have hv162_0 := hcc162 0 _ rfl
          rw [Nat.add_zero, show ((Kd.slice 4 Kd.bool)).sz = 1 from rfl, Nat.mul_one] at hv162_0
          replace hv162_0 := Option.some.inj (hv162_0.symm.trans hx162_0)
          rw [hv162_0] at ge162_0
          have HL162_0 := Aside0.mk (show Kd.R Kd.bool 4 _ _ _ _ (rd_L3 t155 x5_2) from ge162_0)
          clear hv162_0 ge162_0
          clear hcc162 hce162
          have HR162_0 := Aside0.mk hi162_0
          have HC162_0 := Aside0.mk hl162_0
          clear hi162_0 hl162_0
          replace p162 := eq_true p162
          replace q162 := eq_true q162
          have p163 : 0 ≤ (0 : Int) := (by omega)
          have q163 : 0 < (t155.length : Int) := of_decide_eq_true (by first | (with_reducible assumption) | assumption)
          obtain ⟨ad163, A163_0, c163_0, e163, hx163_0, hl163_0, hi163_0⟩ := at_L3 (Kd.R_reads' HO_0.out).2.2 0 p163 q163
          obtain rfl : ad162 = ad163 := (by injection e163)
          obtain ⟨ce163, hce163, hMe163, hcc163⟩ := Kd.R_get HO_0.out [] 0 p163 (by first | exact q163 | exact of_decide_eq_true (by first | (with_reducible assumption) | assumption) | (have e_ := (Kd.R_reads' HO_0.out).1; omega))
          obtain ⟨ve163_0, rfl, ge163_0⟩ := hMe163
          have hv163_0 := hcc163 0 _ rfl
          rw [Nat.add_zero, show ((Kd.slice 4 Kd.bool)).sz = 1 from rfl, Nat.mul_one] at hv163_0
          replace hv163_0 := Option.some.inj (hv163_0.symm.trans hx163_0)
          rw [hv163_0] at ge163_0
          have HL163_0 := Aside0.mk (show Kd.R Kd.bool 4 _ _ _ _ (rd_L3 t155 0) from ge163_0)
          clear hv163_0 ge163_0
          clear hcc163 hce163
          have qi163 : (0 < t155.length) = True := eq_true (by omega)
          (try rw [show ((0 : Int)).toNat = 0 from rfl] at hx163_0)
          (try rw [Addr.add_zero'] at hx163_0)
          have HR163_0 := Aside0.mk hi163_0
          have HC163_0 := Aside0.mk hl163_0
          clear hi163_0 hl163_0
          replace p163 := eq_true p163
          replace q163 := eq_true q163
          refine start_ (n := 10) (S := fun w' => w'.cell? (ad162.add (x5_2).toNat) = some (.slice A162_0 (rd_L3 t155 x5_2).length c162_0) ∧ w'.cell? ad162 = some (.slice A163_0 (rd_L3 t155 0).length c163_0)) (ds := []) #[false, false, false, false, false, false, false, false, false, false] (by kernel_rfl) rfl rfl ⟨hx162_0, hx163_0⟩ (fun hHeld => ?_); refine with_tabW spec_PictureOf.tab8 spec_PictureOf.bits8 (fun HT_ HW_ => ?_)
          generalize wr.drew = w34 at HO_0 HO_159000 BK154 BK158 HB HL162_0 HL163_0 HR162_0 HR163_0 hx162_0 hx163_0 hHeld ⊢
          refine pure_ (i := 0) (N := some 29) (v := ?_) (a' := ?_) #[true, false, false, false, false, false, false, false, false, false] rfl rfl (any_of HT_.out (by kernel_rfl)) (fun _ _ _ h => h) (Or.inl ⟨by rfl, ?_⟩) ?_ ?_
          rotate_left
          ·intro w'
           go_simp
           with_reducible rfl
          rotate_left
          ·simp only [Act.put, List.setIfInBounds_toArray, List.set_cons_zero, List.set_cons_succ, i64_w, i32_w]
           rfl
          refine pure_ (i := 1) (N := some 30) (v := ?_) (a' := ?_) #[true, true, false, false, false, false, false, false, false, false] rfl rfl (any_of HT_.out (by kernel_rfl)) (fun _ _ _ h => h) (Or.inl ⟨by rfl, ?_⟩) ?_ ?_
          rotate_left
          ·intro w'
           go_simp
           with_reducible rfl
          rotate_left
          ·simp only [Act.put, List.setIfInBounds_toArray, List.set_cons_zero, List.set_cons_succ, i64_w, i32_w]
           rfl
          refine pure_ (i := 2) (N := some 31) (v := ?_) (a' := ?_) #[true, true, true, false, false, false, false, false, false, false] rfl rfl (any_of HT_.out (by kernel_rfl)) (fun _ _ _ h => h) (Or.inl ⟨by rfl, ?_⟩) ?_ ?_
          rotate_left
          ·intro w'
           go_simp
           with_reducible rfl
          rotate_left
          ·simp only [Act.put, List.setIfInBounds_toArray, List.set_cons_zero, List.set_cons_succ, i64_w, i32_w]
           rfl
          refine pure_ (i := 5) (N := some 34) (v := ?_) (a' := ?_) #[true, true, true, false, false, true, false, false, false, false] rfl rfl (any_of HT_.out (by kernel_rfl)) (fun _ _ _ h => h) (Or.inl ⟨by rfl, ?_⟩) ?_ ?_
          rotate_left
          ·intro w'
           go_simp
           with_reducible rfl
          rotate_left
          ·simp only [Act.put, List.setIfInBounds_toArray, List.set_cons_zero, List.set_cons_succ, i64_w, i32_w]
           rfl
          refine pure_ (i := 6) (N := some 35) (v := ?_) (a' := ?_) #[true, true, true, false, false, true, true, false, false, false] rfl rfl (any_of HT_.out (by kernel_rfl)) (fun _ _ _ h => h) (Or.inl ⟨by rfl, ?_⟩) ?_ ?_
          rotate_left
          ·intro w'
           go_simp
           with_reducible rfl
          rotate_left
          ·simp only [Act.put, List.setIfInBounds_toArray, List.set_cons_zero, List.set_cons_succ, i64_w, i32_w]
           rfl
          refine take_ (i := 3) (N := some 32) (v := ?_) (a' := ?_) #[true, true, true, true, false, true, true, false, false, false] rfl rfl (take_ofW HT_.out HW_.out (by kernel_rfl)) (fun _ _ _ h => h) (Or.inl ⟨by rfl, ?_⟩) hHeld ?_ ?_
          rotate_left
          ·rintro w' ⟨s0, s1⟩
           go_simp
           with_reducible rfl
          rotate_left
          ·simp only [Act.put, List.setIfInBounds_toArray, List.set_cons_zero, List.set_cons_succ, i64_w, i32_w]
           rfl
          refine pure_ (i := 4) (N := some 33) (v := ?_) (a' := ?_) #[true, true, true, true, true, true, true, false, false, false] rfl rfl (any_of HT_.out (by kernel_rfl)) (fun _ _ _ h => h) (Or.inl ⟨by rfl, ?_⟩) ?_ ?_
          rotate_left
          ·intro w'
           go_simp
           with_reducible rfl
          rotate_left
          ·simp only [Act.put, List.setIfInBounds_toArray, List.set_cons_zero, List.set_cons_succ, i64_w, i32_w]
           rfl
          refine take_ (i := 7) (N := some 36) (v := ?_) (a' := ?_) #[true, true, true, true, true, true, true, true, false, false] rfl rfl (take_ofW HT_.out HW_.out (by kernel_rfl)) (fun _ _ _ h => h) (Or.inl ⟨by rfl, ?_⟩) hHeld ?_ ?_
          rotate_left
          ·rintro w' ⟨s0, s1⟩
           go_simp
           with_reducible rfl
          rotate_left
          ·simp only [Act.put, List.setIfInBounds_toArray, List.set_cons_zero, List.set_cons_succ, i64_w, i32_w]
           rfl
          refine pure_ (i := 8) (N := some 37) (v := ?_) (a' := ?_) #[true, true, true, true, true, true, true, true, true, false] rfl rfl (any_of HT_.out (by kernel_rfl)) (fun _ _ _ h => h) (Or.inl ⟨by rfl, ?_⟩) ?_ ?_
          rotate_left
          ·intro w'
           go_simp
           with_reducible rfl
          rotate_left
          ·simp only [Act.put, List.setIfInBounds_toArray, List.set_cons_zero, List.set_cons_succ, i64_w, i32_w]
           rfl
          refine pure_ (i := 9) (N := some 38) (v := ?_) (a' := ?_) #[true, true, true, true, true, true, true, true, true, true] rfl rfl (any_of HT_.out (by kernel_rfl)) (fun _ _ _ h => h) (Or.inl ⟨by rfl, ?_⟩) ?_ ?_
          rotate_left
          ·intro w'
           go_simp
           with_reducible rfl
          rotate_left
          ·simp only [Act.put, List.setIfInBounds_toArray, List.set_cons_zero, List.set_cons_succ, i64_w, i32_w]
           rfl
          refine done_ (done_of HT_.out (by kernel_rfl)) ?_
          have hnb35 := NB154_158.out
          have hnc35 := NB158_154.out
          have hcz36_0 : w34.cell? ⟨gb154, 0, none⟩ = some (.slice none 0 0) := (blk_cell BK154.out 0).trans rfl
          have hcz36_1 : w34.cell? ⟨gb154, 1, none⟩ = some (.slice none 0 0) := (blk_cell BK154.out 1).trans rfl
          have hfz36_0 := blk_frozen BK154.out 0
          have hfz36_1 := blk_frozen BK154.out 1
          try go_wp2
          refine bodyPost_ret (results_ct rfl _ _ gb154 25 #[.slice none 0 0, .slice none 0 0] (0, 0) _ rfl (by (with_reducible repeat (first | refine blk_drewN ?_ _ | refine blk_drew ?_ | refine blk_alloc ?_ _)); refine blk_put (cs := #[.slice none 0 0, .slice none 0 0]) ?_ 1 _ rfl; (with_reducible repeat (first | refine blk_drewN ?_ _ | refine blk_drew ?_ | refine blk_alloc ?_ _)); refine blk_put (cs := #[.slice none 0 0, .slice none 0 0]) ?_ 0 _ rfl; (with_reducible repeat (first | refine blk_drewN ?_ _ | refine blk_drew ?_ | refine blk_alloc ?_ _)); exact BK154.out) Try.underlying25 rfl (by kernel_rfl)) rfl ?_
          exact ⟨_, _, by first | rfl | (simp [errW_none, errW_some] <;> rfl) | (simp [*, errW_none, errW_some] <;> rfl), by first | exact Kd.R_nil _ _ _ _ _ | exact Kd.N_nil _ _ _ _ _ | exact Kd.V_nil _ _ _ _ _ | exact Kd.Q_nil _ _ _ _ _ | exact Kd.S_nil _ _ _ _ _, by first | exact Kd.R_nil _ _ _ _ _ | exact Kd.N_nil _ _ _ _ _ | exact Kd.V_nil _ _ _ _ _ | exact Kd.Q_nil _ _ _ _ _ | exact Kd.S_nil _ _ _ _ _, by repeat (first | (with_reducible first | exact HB.out | apply below_alloc | apply pw_below_drewN | apply below_drew1 | refine below_set ?_ GE154.out | refine below_set ?_ GE158.out) | exact HB.out)⟩
        ·rw [if_neg c21] at H
         exact absurd H (by simp)
       ·rw [if_neg c20] at H
        exact absurd H (by simp)
      ·rw [if_neg c19] at H
       have c19b0 : decide (x5_2 < (t155.length : Int)) = false := decide_eq_false c19
       clear c19
       have H' := Aside0.mk H
       clear H
       obtain ⟨Ao37, co37, eo37⟩ := Kd.R_slice HO_0.out
       subst eo37
       go_wp2
       go_loopg [6] k2 (fun kq v6 w' => ∃ (x6_3 : Int) (x159001_3 : List (List Int)) (u159001 : Value), v6 = .int .i64 x6_3 ∧ Aside0 (spec_PictureOf.l1 kq t155 x6_3 x159000_2 x159001_3 = some (r1, r2, r3)) ∧ Aside0 (kq ≤ k2) ∧ Aside0 (Kd.R (Kd.slice 4 Kd.bool) 37 w' w.heap.size (fun _ => True) (.slice Ao37 t155.length co37) t155) ∧ Aside0 (Kd.R (Kd.slice 3 (Kd.int .i64)) 36 w' w.heap.size (fun k_ => some k_ ≠ (u159001 : Value).ownBlock) u159000 x159000_2) ∧ Aside0 (Kd.R (Kd.slice 3 (Kd.int .i64)) 36 w' w.heap.size (fun k_ => some k_ ≠ (u159000 : Value).ownBlock) u159001 x159001_3) ∧ Aside0 (w'.heap[gb154]? = some (.cells #[(.slice none 0 0), (.slice none 0 0)] 25 (0, 0))) ∧ Aside0 (w'.heap[gb158]? = some (.cells #[u159000, u159001] 25 (0, 0))) ∧ Aside0 (Below w.heap.size w w'))
       case atStart => exact ⟨(0), (([] : List (List Int))), (.slice none 0 0), (by first | rfl | (simp; done) | (simp [*]; done)), H', ⟨Nat.le_refl _⟩, ⟨by (with_reducible repeat (first | apply Kd.R_alloc | apply Kd.R_drewN | apply Kd.R_drew)); exact HO_0.out⟩, ⟨by (with_reducible repeat (first | apply Kd.R_alloc | apply Kd.R_drewN | apply Kd.R_drew)); exact Kd.R_mono HO_159000.out (fun _ hk => (by simp [Value.ownBlock]))⟩, ⟨by first | exact Kd.R_nil _ _ _ _ _ | exact Kd.N_nil _ _ _ _ _ | exact Kd.V_nil _ _ _ _ _ | exact Kd.Q_nil _ _ _ _ _ | exact Kd.S_nil _ _ _ _ _⟩, ⟨by (with_reducible repeat (first | refine blk_drewN ?_ _ | refine blk_drew ?_ | refine blk_alloc ?_ _)); exact BK154.out⟩, ⟨by (with_reducible repeat (first | refine blk_drewN ?_ _ | refine blk_drew ?_ | refine blk_alloc ?_ _)); exact BK158.out⟩, ⟨by repeat (first | (with_reducible first | exact HB.out | apply below_alloc | apply pw_below_drewN | apply below_drew1 | refine below_set ?_ GE154.out | refine below_set ?_ GE158.out) | exact HB.out)⟩⟩
       case round =>
        clear H'
        try clear c1
        try clear p1
        try clear q1
        try clear hx1
        try clear qi1
        try clear c2
        try clear p2
        try clear c3
        try clear c6
        try clear p6
        try clear c16
        try clear p16
        try clear q16
        try clear hx16
        try clear qi16
        try clear c19
        try clear c19b0
        try clear c20
        try clear c20b0
        try clear c21
        try clear c21b0
        try clear c21b1
        try clear c22
        try clear c22b0
        try clear c22b1
        try clear c22b2
        try clear c24
        try clear c35
        try clear hcz36_0
        try clear hcz36_1
        try clear hfz36_0
        try clear hfz36_1
        try clear hx162_0
        try clear hx163_0
        try clear hx164_0
        try clear p1
        try clear p160
        try clear p162
        try clear p163
        try clear p164
        try clear p2
        try clear q1
        try clear q160
        try clear q162
        try clear q163
        try clear q164
        obtain ⟨x6_3, x159001_3, u159001, rfl, HA, HK3, HO_0, HO_159000, HO_159001, BK154, BK158, HB⟩ := hrel
        cases gk with
        | zero => exact absurd HA.out (by simp [spec_PictureOf.l1])
        | succ k3 =>
         have H := HA.out
         clear HA
         simp only [spec_PictureOf.l1] at H
         by_cases c38 : 0 < (t155.length : Int)
         ·rw [if_pos c38] at H
          have c38b0 : decide (0 < (t155.length : Int)) = true := decide_eq_true c38
          have c38b1 : decide (0 < t155.length) = true := decide_eq_true (by omega)
          clear c38
          by_cases c39 : x6_3 < ((rd_L3 t155 0).length : Int)
          ·rw [if_pos c39] at H
           have c39b0 : decide (x6_3 < ((rd_L3 t155 0).length : Int)) = true := decide_eq_true c39
           clear c39
           replace H := Option.bind_eq_some_iff.mp H
           obtain ⟨t172, A400, H⟩ := H
           replace H : ((spec_ClueOf.f k3 t172).bind fun t175 => (if x159001_3.length < 5864062014805 then (spec_PictureOf.l1 k3 t155 (wrap64 (x6_3 + 1)) x159000_2 (x159001_3 ++ [t175])) else (none))) = some (r1, r2, r3) := H
           have A40 := Aside0.mk A400
           clear A400
           replace H := Option.bind_eq_some_iff.mp H
           obtain ⟨t175, A410, H⟩ := H
           replace H : (if x159001_3.length < 5864062014805 then (spec_PictureOf.l1 k3 t155 (wrap64 (x6_3 + 1)) x159000_2 (x159001_3 ++ [t175])) else (none)) = some (r1, r2, r3) := H
           have A41 := Aside0.mk A410
           clear A410
           by_cases c42 : x159001_3.length < 5864062014805
           ·rw [if_pos c42] at H
            have LMc42 := Aside0.mk c42
            clear c42
            obtain ⟨y178, hy178⟩ : ∃ y_ : List (List Int), y_ = (x159001_3 ++ [t175]) := ⟨_, rfl⟩
            replace H : (spec_PictureOf.l1 k3 t155 (wrap64 (x6_3 + 1)) x159000_2 y178) = some (r1, r2, r3) := by first | (rw [hy178]; with_reducible exact H) | (have H2_ := (Option.bind_some _ _).symm.trans H; rw [hy178]; with_reducible exact H2_) | (have H2_ := (Option.bind_some _ _).symm.trans H; with_reducible exact H2_) | with_reducible exact H | (rw [hy178]; exact H) | exact H
            have Ny178 := Aside0.mk hy178
            clear hy178
            have H' := Aside0.mk H
            clear H
            have p171 : 0 ≤ (0 : Int) := (by omega)
            have q171 : 0 < (t155.length : Int) := of_decide_eq_true (by first | (with_reducible assumption) | assumption)
            obtain ⟨ad171, A171_0, c171_0, e171, hx171_0, hl171_0, hi171_0⟩ := at_L3 (Kd.R_reads' HO_0.out).2.2 0 p171 q171
            cases e171
            obtain ⟨ce171, hce171, hMe171, hcc171⟩ := Kd.R_get HO_0.out [] 0 p171 (by first | exact q171 | exact of_decide_eq_true (by first | (with_reducible assumption) | assumption) | (have e_ := (Kd.R_reads' HO_0.out).1; omega))
            obtain ⟨ve171_0, rfl, ge171_0⟩ := hMe171
            have hv171_0 := hcc171 0 _ rfl
            rw [Nat.add_zero, show ((Kd.slice 4 Kd.bool)).sz = 1 from rfl, Nat.mul_one] at hv171_0
            replace hv171_0 := Option.some.inj (hv171_0.symm.trans hx171_0)
            rw [hv171_0] at ge171_0
            have HL171_0 := Aside0.mk (show Kd.R Kd.bool 4 _ _ _ _ (rd_L3 t155 0) from ge171_0)
            clear hv171_0 ge171_0
            clear hcc171 hce171
            have qi171 : (0 < t155.length) = True := eq_true (by omega)
            (try rw [show ((0 : Int)).toNat = 0 from rfl] at hx171_0)
            (try rw [Addr.add_zero'] at hx171_0)
            have HR171_0 := Aside0.mk hi171_0
            have HC171_0 := Aside0.mk hl171_0
            clear hi171_0 hl171_0
            replace p171 := eq_true p171
            replace q171 := eq_true q171
            try go_wp2
            have n0_ := Aside0.mk (Kd.R_drew HO_0.out)
            have n1_ := Aside0.mk (Kd.R_drew HO_159000.out)
            have n2_ := Aside0.mk (Kd.R_drew HO_159001.out)
            have n3_ := Aside0.mk (Kd.R_drew HL171_0.out)
            have n4_ := Aside0.mk (blk_drew BK154.out)
            have n5_ := Aside0.mk (blk_drew BK158.out)
            have n6_ := Aside0.mk (Kd.C_drew HR171_0.out)
            have n7_ := Aside0.mk (below_drew1 HB.out)
            clear HO_0
            clear HO_159000
            clear HO_159001
            clear HL171_0
            clear BK154
            clear BK158
            clear HR171_0
            clear HB
            have HO_0 := n0_
            have HO_159000 := n1_
            have HO_159001 := n2_
            have HL171_0 := n3_
            have BK154 := n4_
            have BK158 := n5_
            have HR171_0 := n6_
            have HB := n7_
            clear n0_ n1_ n2_ n3_ n4_ n5_ n6_ n7_
            refine start_ (n := 10) (S := fun w' => w'.cell? ⟨gb158, 0, none⟩ = some (u159000) ∧ w'.cell? ⟨gb158, 1, none⟩ = some (u159001)) (ds := [9]) #[false, false, false, false, false, false, false, false, false, false] (by kernel_rfl) rfl rfl ⟨(blk_cell BK158.out 0).trans rfl, (blk_cell BK158.out 1).trans rfl⟩ (fun hHeld => ?_); refine with_tabW spec_PictureOf.tab14 spec_PictureOf.bits14 (fun HT_ HW_ => ?_)
            generalize wr.drew = w43 at HO_0 HO_159000 HO_159001 HL171_0 BK154 BK158 HR171_0 HB hHeld ⊢
            refine pure_ (i := 0) (N := some 58) (v := ?_) (a' := ?_) #[true, false, false, false, false, false, false, false, false, false] rfl rfl (any_of HT_.out (by kernel_rfl)) (fun _ _ _ h => h) (Or.inl ⟨by rfl, ?_⟩) ?_ ?_
            rotate_left
            ·intro w'
             go_simp
             with_reducible rfl
            rotate_left
            ·simp only [Act.put, List.setIfInBounds_toArray, List.set_cons_zero, List.set_cons_succ, i64_w, i32_w]
             rfl
            refine pure_ (i := 2) (N := some 60) (v := ?_) (a' := ?_) #[true, false, true, false, false, false, false, false, false, false] rfl rfl (any_of HT_.out (by kernel_rfl)) (fun _ _ _ h => h) (Or.inl ⟨by rfl, ?_⟩) ?_ ?_
            rotate_left
            ·intro w'
             go_simp
             with_reducible rfl
            rotate_left
            ·simp only [Act.put, List.setIfInBounds_toArray, List.set_cons_zero, List.set_cons_succ, i64_w, i32_w]
             rfl
            refine pure_ (i := 3) (N := some 61) (v := ?_) (a' := ?_) #[true, false, true, true, false, false, false, false, false, false] rfl rfl (any_of HT_.out (by kernel_rfl)) (fun _ _ _ h => h) (Or.inl ⟨by rfl, ?_⟩) ?_ ?_
            rotate_left
            ·intro w'
             go_simp
             with_reducible rfl
            rotate_left
            ·simp only [Act.put, List.setIfInBounds_toArray, List.set_cons_zero, List.set_cons_succ, i64_w, i32_w]
             rfl
            refine take_ (i := 1) (N := some 59) (v := ?_) (a' := ?_) #[true, true, true, true, false, false, false, false, false, false] rfl rfl (take_ofW HT_.out HW_.out (by kernel_rfl)) (fun _ _ _ h => h) (Or.inl ⟨by rfl, ?_⟩) hHeld ?_ ?_
            rotate_left
            ·rintro w' ⟨s0, s1⟩
             go_simp
             with_reducible rfl
            rotate_left
            ·simp only [Act.put, List.setIfInBounds_toArray, List.set_cons_zero, List.set_cons_succ, i64_w, i32_w]
             rfl
            refine one_ (i := 4) (N := some 62) #[true, true, true, true, true, false, false, false, false, false] rfl rfl (one_of HT_.out (by kernel_rfl)) (by decide) (fun K hK => ?_)
            refine goes_ Try.func63 (by kernel_rfl) rfl #[.slice (some ad171) t155.length co37, .int .i64 x6_3] (by rfl) rfl rfl (by (try simp only [List.map_toArray, List.map_cons, List.map_nil]); first | done | rfl | (simp only [List.length_drop, List.length_take]; rfl)) ?_
            with_reducible refine (spec_l13Column.calls k3 _ _ t155 x6_3 t172 _ ?side1 ?side2 A40.out).mono ?_
            (case side1 => repeat (first | exact (Kd.R_reads' HO_0.out).2.2 | (with_reducible refine Kd.C_alloc ?_ _) | (with_reducible refine Kd.C_drewN ?_ _) | (with_reducible refine Kd.C_drew ?_)))
            (case side2 => exact (Kd.R_reads' HO_0.out).2.1)
            rintro e w44 ⟨v173, rfl, ho0, hb⟩
            refine ⟨_, rfl, ?_⟩
            have n0_ := Aside0.mk (Kd.R_elder' (by (with_reducible repeat (first | apply Kd.R_alloc | apply Kd.R_drewN | apply Kd.R_drew)); exact HO_0.out) (Kd.R_base ho0) hb)
            have n1_ := Aside0.mk (Kd.R_below (by (with_reducible repeat (first | apply Kd.R_alloc | apply Kd.R_drewN | apply Kd.R_drew)); exact HO_159000.out) hb)
            have n2_ := Aside0.mk (Kd.R_below (by (with_reducible repeat (first | apply Kd.R_alloc | apply Kd.R_drewN | apply Kd.R_drew)); exact HO_159001.out) hb)
            have n3_ := Aside0.mk (Kd.R_elder' (by (with_reducible repeat (first | apply Kd.R_alloc | apply Kd.R_drewN | apply Kd.R_drew)); exact HL171_0.out) (Kd.R_base ho0) hb)
            have n4_ := Aside0.mk (Kd.R_lower (Kd.R_new' ho0 (Kd.R_lt (by (with_reducible repeat (first | apply Kd.R_alloc | apply Kd.R_drewN | apply Kd.R_drew)); exact HL171_0.out))) (below_size (by repeat (first | (with_reducible first | exact HB.out | apply below_alloc | apply pw_below_drewN | apply below_drew1 | refine below_set ?_ GE154.out | refine below_set ?_ GE158.out) | exact HB.out))))
            have n5_ := Aside0.mk (blk_below (g := gb154) (o := .cells #[.slice none 0 0, .slice none 0 0] 25 (0, 0)) (by (with_reducible repeat (first | refine blk_drewN ?_ _ | refine blk_drew ?_ | refine blk_alloc ?_ _)); exact BK154.out) hb)
            have n6_ := Aside0.mk (blk_below (g := gb158) (o := .cells #[u159000, u159001] 25 (0, 0)) (by (with_reducible repeat (first | refine blk_drewN ?_ _ | refine blk_drew ?_ | refine blk_alloc ?_ _)); exact BK158.out) hb)
            have n7_ := Aside0.mk (Kd.C_below (by repeat (first | (with_reducible exact HR171_0.out) | (with_reducible refine Kd.C_alloc ?_ _) | (with_reducible refine Kd.C_drewN ?_ _) | (with_reducible refine Kd.C_drew ?_) | exact HR171_0.out)) hb)
            have n8_ := Aside0.mk (below_step (by repeat (first | (with_reducible first | exact HB.out | apply below_alloc | apply pw_below_drewN | apply below_drew1 | refine below_set ?_ GE154.out | refine below_set ?_ GE158.out) | exact HB.out)) hb)
            clear HO_0
            clear HO_159000
            clear HO_159001
            clear HL171_0
            clear BK154
            clear BK158
            clear HR171_0
            clear HB
            have HO_0 := n0_
            have HO_159000 := n1_
            have HO_159001 := n2_
            have HL171_0 := n3_
            have HO174 := n4_
            have BK154 := n5_
            have BK158 := n6_
            have HR171_0 := n7_
            have HB := n8_
            clear n0_ n1_ n2_ n3_ n4_ n5_ n6_ n7_ n8_
            (try clear hb)
            (try clear hb2)
            (try clear hk)
            (try clear hi)
            (try clear ho0)
            obtain ⟨Ao45, co45, eo45⟩ := Kd.R_slice HO174.out
            (first | subst eo45 | (injection eo45 with f1_ f2_ f3_; have f4_ := f1_.symm; have f5_ := f3_.symm; clear f1_ f2_ f3_; subst f4_; subst f5_))
            refine hK.out _ _ ⟨(blk_cell BK158.out 0).trans rfl, (blk_cell BK158.out 1).trans rfl⟩ (fun hHeld => ?_)
            clear hK K
            refine norm_ (a' := ?_) ?_ ?_
            rotate_left
            ·show Act.put _ (some 62) _ = _
             simp only [Act.put, List.setIfInBounds_toArray, List.set_cons_zero, List.set_cons_succ, i64_w, i32_w]
             rfl
            refine one_ (i := 5) (N := some 63) #[true, true, true, true, true, true, false, false, false, false] rfl rfl (one_of HT_.out (by kernel_rfl)) (by decide) (fun K hK => ?_)
            refine goes_ Try.func62 (by kernel_rfl) rfl #[.slice Ao45 t172.length co45] (by rfl) rfl rfl (by (try simp only [List.map_toArray, List.map_cons, List.map_nil]); first | done | rfl | (simp only [List.length_drop, List.length_take]; rfl)) ?_
            with_reducible refine (spec_ClueOf.calls k3 _ _ t172 t175 _ ?side1 ?side2 A41.out).mono ?_
            (case side1 => repeat (first | exact (Kd.R_reads' HO174.out).2.2 | (with_reducible refine Kd.C_alloc ?_ _) | (with_reducible refine Kd.C_drewN ?_ _) | (with_reducible refine Kd.C_drew ?_)))
            (case side2 => exact (Kd.R_reads' HO174.out).2.1)
            rintro e w46 ⟨v176, rfl, ho0, hb⟩
            refine ⟨_, rfl, ?_⟩
            have n0_ := Aside0.mk (Kd.R_below (by (with_reducible repeat (first | apply Kd.R_alloc | apply Kd.R_drewN | apply Kd.R_drew)); exact HO_0.out) hb)
            have n1_ := Aside0.mk (Kd.R_elder' (by (with_reducible repeat (first | apply Kd.R_alloc | apply Kd.R_drewN | apply Kd.R_drew)); exact HO_159000.out) (Kd.R_base ho0) hb)
            have n2_ := Aside0.mk (Kd.R_elder' (by (with_reducible repeat (first | apply Kd.R_alloc | apply Kd.R_drewN | apply Kd.R_drew)); exact HO_159001.out) (Kd.R_base ho0) hb)
            have n3_ := Aside0.mk (Kd.R_below (by (with_reducible repeat (first | apply Kd.R_alloc | apply Kd.R_drewN | apply Kd.R_drew)); exact HL171_0.out) hb)
            have n4_ := Aside0.mk (Kd.R_below (by (with_reducible repeat (first | apply Kd.R_alloc | apply Kd.R_drewN | apply Kd.R_drew)); exact HO174.out) hb)
            have n5_ := Aside0.mk (Kd.R_lower ho0 (below_size (by repeat (first | (with_reducible first | exact HB.out | apply below_alloc | apply pw_below_drewN | apply below_drew1 | refine below_set ?_ GE154.out | refine below_set ?_ GE158.out) | exact HB.out))))
            have n6_ := Aside0.mk (blk_below (g := gb154) (o := .cells #[.slice none 0 0, .slice none 0 0] 25 (0, 0)) (by (with_reducible repeat (first | refine blk_drewN ?_ _ | refine blk_drew ?_ | refine blk_alloc ?_ _)); exact BK154.out) hb)
            have n7_ := Aside0.mk (blk_below (g := gb158) (o := .cells #[u159000, u159001] 25 (0, 0)) (by (with_reducible repeat (first | refine blk_drewN ?_ _ | refine blk_drew ?_ | refine blk_alloc ?_ _)); exact BK158.out) hb)
            have n8_ := Aside0.mk (Kd.C_below (by repeat (first | (with_reducible exact HR171_0.out) | (with_reducible refine Kd.C_alloc ?_ _) | (with_reducible refine Kd.C_drewN ?_ _) | (with_reducible refine Kd.C_drew ?_) | exact HR171_0.out)) hb)
            have n9_ := Aside0.mk (below_step (by repeat (first | (with_reducible first | exact HB.out | apply below_alloc | apply pw_below_drewN | apply below_drew1 | refine below_set ?_ GE154.out | refine below_set ?_ GE158.out) | exact HB.out)) hb)
            clear HO_0
            clear HO_159000
            clear HO_159001
            clear HL171_0
            clear HO174
            clear BK154
            clear BK158
            clear HR171_0
            clear HB
            have HO_0 := n0_
            have HO_159000 := n1_
            have HO_159001 := n2_
            have HL171_0 := n3_
            have HO174 := n4_
            have HO177 := n5_
            have BK154 := n6_
            have BK158 := n7_
            have HR171_0 := n8_
            have HB := n9_
            clear n0_ n1_ n2_ n3_ n4_ n5_ n6_ n7_ n8_ n9_
            (try clear hb)
            (try clear hb2)
            (try clear hk)
            (try clear hi)
            (try clear ho0)
            obtain ⟨Ao48, co48, eo48⟩ := Kd.R_slice HO177.out
            (first | subst eo48 | (injection eo48 with f1_ f2_ f3_; have f4_ := f1_.symm; have f5_ := f3_.symm; clear f1_ f2_ f3_; subst f4_; subst f5_))
            refine hK.out _ _ ⟨(blk_cell BK158.out 0).trans rfl, (blk_cell BK158.out 1).trans rfl⟩ (fun hHeld => ?_)
            clear hK K
            refine norm_ (a' := ?_) ?_ ?_
            rotate_left
            ·show Act.put _ (some 63) _ = _
             simp only [Act.put, List.setIfInBounds_toArray, List.set_cons_zero, List.set_cons_succ, i64_w, i32_w]
             rfl
            refine one_ (i := 6) (N := some 64) #[true, true, true, true, true, true, true, false, false, false] rfl rfl (one_of HT_.out (by kernel_rfl)) (by decide) (fun K hK => ?_)
            refine value_ (w1 := ?_) (v := ?_) (by rfl) rfl ?_ ?_
            rotate_left 2
            ·go_simp
             constructor
             ·rfl
             ·rfl
            refine hK.out _ _ ⟨(blk_cell (blk_alloc BK158.out _) 0).trans rfl, (blk_cell (blk_alloc BK158.out _) 1).trans rfl⟩ (fun hHeld => ?_)
            clear hK K
            refine norm_ (a' := ?_) ?_ ?_
            rotate_left
            ·show Act.put _ (some 64) _ = _
             simp only [Act.put, List.setIfInBounds_toArray, List.set_cons_zero, List.set_cons_succ, i64_w, i32_w]
             rfl
            refine one_ (i := 7) (N := some 65) #[true, true, true, true, true, true, true, true, false, false] rfl rfl (one_of HT_.out (by kernel_rfl)) (by decide) (fun K hK => ?_)
            refine Kd.R_append_step (Kd.slice 3 (Kd.int .i64)) (w0 := w) w.heap.size (by rfl) (.tmp 59) (.tmp 64) 23 36 (.slice none 0 0) 24 rfl Try.underlying23 info36 rfl (by decide) (by omega) u159001 x159001_3 t175 [.slice Ao48 t175.length co48] (fun k_ => some k_ ≠ (u159000 : Value).ownBlock) (fun k_ => ((fun k_ => some k_ ≠ (u159000 : Value).ownBlock)) k_ ∧ some k_ ≠ (u159001 : Value).ownBlock) rfl rfl ?aP (fun _ hk => hk) ?aF ?aO ?aB ?aS ?aL ?_
            (case aP => exact Kd.M_row (Kd.R_mono (Kd.R_apart' (Kd.R_apart' (HO177.out) (Kd.R_typed HO_159000.out) (by decide)) (Kd.R_typed HO_159001.out) (by decide)) (fun k_ hk => ⟨hk.1.2, hk.2⟩)))
            (case aB => exact (by repeat (first | (with_reducible first | exact HB.out | apply below_alloc | apply pw_below_drewN | apply below_drew1 | refine below_set ?_ GE154.out | refine below_set ?_ GE158.out) | exact HB.out)))
            (case aF => exact (fun k_ hk => Kd.fresh' (Kd.R_lt (by (with_reducible repeat (first | apply Kd.R_alloc | apply Kd.R_drewN | apply Kd.R_drew)); exact HO_159000.out)) k_ hk))
            (case aO => exact (by (with_reducible repeat (first | apply Kd.R_alloc | apply Kd.R_drewN | apply Kd.R_drew)); exact Kd.R_mono HO_159001.out (fun _ hk => hk.1)))
            (case aS => exact (below_size (by repeat (first | (with_reducible first | exact HB.out | apply below_alloc | apply pw_below_drewN | apply below_drew1 | refine below_set ?_ GE154.out | refine below_set ?_ GE158.out) | exact HB.out))))
            (case aL => have := LMc42.out; omega)
            intro v179 w47 ho hb hg hat
            rw [← Ny178.out] at ho
            have n0_ := Aside0.mk (Kd.R_over' (by (with_reducible repeat (first | apply Kd.R_alloc | apply Kd.R_drewN | apply Kd.R_drew)); exact HO_0.out) (Kd.R_typed (by (with_reducible repeat (first | apply Kd.R_alloc | apply Kd.R_drewN | apply Kd.R_drew)); exact HO_159001.out)) (by decide) hg)
            have n1_ := Aside0.mk (Kd.R_after (ok := (fun k_ => some k_ ≠ (.slice Ao48 t175.length co48 : Value).ownBlock)) (by (with_reducible repeat (first | apply Kd.R_alloc | apply Kd.R_drewN | apply Kd.R_drew)); exact Kd.R_mono HO_159000.out (fun _ hk => ⟨hk.2, hk.1⟩)) hg hat)
            have n2_ := Aside0.mk (blk_grown (g := gb154) (o := .cells #[.slice none 0 0, .slice none 0 0] 25 (0, 0)) (by (with_reducible repeat (first | refine blk_drewN ?_ _ | refine blk_drew ?_ | refine blk_alloc ?_ _)); exact BK154.out) hg (Kd.R_ne HO_159001.out BK154.out (by decide)))
            have n3_ := Aside0.mk (blk_grown (g := gb158) (o := .cells #[u159000, u159001] 25 (0, 0)) (by (with_reducible repeat (first | refine blk_drewN ?_ _ | refine blk_drew ?_ | refine blk_alloc ?_ _)); exact BK158.out) hg (Kd.R_ne HO_159001.out BK158.out (by decide)))
            have n4_ := Aside0.mk (Kd.R_over' (by (with_reducible repeat (first | apply Kd.R_alloc | apply Kd.R_drewN | apply Kd.R_drew)); exact HL171_0.out) (Kd.R_typed (by (with_reducible repeat (first | apply Kd.R_alloc | apply Kd.R_drewN | apply Kd.R_drew)); exact HO_159001.out)) (by decide) hg)
            have n5_ := Aside0.mk (Kd.R_over' (by (with_reducible repeat (first | apply Kd.R_alloc | apply Kd.R_drewN | apply Kd.R_drew)); exact HO174.out) (Kd.R_typed (by (with_reducible repeat (first | apply Kd.R_alloc | apply Kd.R_drewN | apply Kd.R_drew)); exact HO_159001.out)) (by decide) hg)
            have n6_ := Aside0.mk (hb)
            have n7_ := Aside0.mk (ho)
            clear HO_0
            clear HO_159000
            clear BK154
            clear BK158
            clear HL171_0
            clear HO174
            clear HB
            clear HO_159001
            clear HO177
            have HO_0 := n0_
            have HO_159000 := n1_
            have BK154 := n2_
            have BK158 := n3_
            have HL171_0 := n4_
            have HO174 := n5_
            have HB := n6_
            have HO180 := n7_
            clear n0_ n1_ n2_ n3_ n4_ n5_ n6_ n7_
            clear ho hb hg hat
            obtain ⟨Ao49, co49, eo49⟩ := Kd.R_slice HO180.out
            (first | subst eo49 | (injection eo49 with f1_ f2_ f3_; have f4_ := f1_.symm; have f5_ := f3_.symm; clear f1_ f2_ f3_; subst f4_; subst f5_))
            refine hK.out _ _ ⟨(blk_cell BK158.out 0).trans rfl, (blk_cell BK158.out 1).trans rfl⟩ (fun hHeld => ?_)
            clear hK K
            refine norm_ (a' := ?_) ?_ ?_
            rotate_left
            ·show Act.put _ (some 65) _ = _
             simp only [Act.put, List.setIfInBounds_toArray, List.set_cons_zero, List.set_cons_succ, i64_w, i32_w]
             rfl
            refine pure_ (i := 8) (N := some 66) (v := ?_) (a' := ?_) #[true, true, true, true, true, true, true, true, true, false] rfl rfl (any_of HT_.out (by kernel_rfl)) (fun _ _ _ h => h) (Or.inl ⟨by rfl, ?_⟩) ?_ ?_
            rotate_left
            ·intro w'
             go_simp
             with_reducible rfl
            rotate_left
            ·simp only [Act.put, List.setIfInBounds_toArray, List.set_cons_zero, List.set_cons_succ, i64_w, i32_w]
             rfl
            refine last_ (i := 9) (N := none) #[true, true, true, true, true, true, true, true, true, true] rfl rfl (one_of HT_.out (by kernel_rfl)) (by decide) (fun K hK => ?_)
            have hs50 : w47.cell? ⟨gb158, 1, none⟩ = some (u159001) := (blk_cell BK158.out 1).trans rfl
            have hfs50 := blk_frozen BK158.out 1
            have hns50_0 := NB154_158.out
            have hms50_0 := NB158_154.out
            refine skip_ (w1 := ?_) (by rfl) rfl ?_ ?_
            rotate_left
            ·go_simp
             rfl
            refine hK.out _ _ ?_
            clear hK K
            refine done_ (done_of HT_.out (by kernel_rfl)) ?_
            try go_wp2
            go_roundg k3
            case measure => have := HJ2.out; have := HK2.out; have := HK3.out; omega
            case rel => exact ⟨(wrap64 (x6_3 + 1)), (y178), (.slice Ao49 y178.length co49), (by first | rfl | (simp; done) | (simp [*]; done)), H', ⟨by have := HJ2.out; have := HK2.out; have := HK3.out; omega⟩, ⟨by (with_reducible repeat (first | apply Kd.R_alloc | apply Kd.R_drewN | apply Kd.R_drew)); exact Kd.R_mono (Kd.R_far (p := ⟨gb158, 1, none⟩) (Kd.R_types HO_0.out BK158.out (by decide)) (fun _ hk => hk.2) (.slice Ao49 y178.length co49)) (fun _ hk => trivial)⟩, ⟨by (with_reducible repeat (first | apply Kd.R_alloc | apply Kd.R_drewN | apply Kd.R_drew)); exact Kd.R_mono (Kd.R_far (p := ⟨gb158, 1, none⟩) (Kd.R_types HO_159000.out BK158.out (by decide)) (fun _ hk => hk.2) (.slice Ao49 y178.length co49)) (fun _ hk => hk.1.2)⟩, ⟨by (with_reducible repeat (first | apply Kd.R_alloc | apply Kd.R_drewN | apply Kd.R_drew)); exact Kd.R_mono (Kd.R_far (p := ⟨gb158, 1, none⟩) (Kd.R_types HO180.out BK158.out (by decide)) (fun _ hk => hk.2) (.slice Ao49 y178.length co49)) (fun _ hk => hk.1)⟩, ⟨by (with_reducible repeat (first | refine blk_drewN ?_ _ | refine blk_drew ?_ | refine blk_alloc ?_ _)); refine blk_far ?_ NB154_158.out _; (with_reducible repeat (first | refine blk_drewN ?_ _ | refine blk_drew ?_ | refine blk_alloc ?_ _)); exact BK154.out⟩, ⟨by (with_reducible repeat (first | refine blk_drewN ?_ _ | refine blk_drew ?_ | refine blk_alloc ?_ _)); refine blk_put (cs := #[u159000, u159001]) ?_ 1 _ rfl; (with_reducible repeat (first | refine blk_drewN ?_ _ | refine blk_drew ?_ | refine blk_alloc ?_ _)); exact BK158.out⟩, ⟨by repeat (first | (with_reducible first | exact HB.out | apply below_alloc | apply pw_below_drewN | apply below_drew1 | refine below_set ?_ GE154.out | refine below_set ?_ GE158.out) | exact HB.out)⟩⟩
           ·rw [if_neg c42] at H
            exact absurd H (by simp)
          ·rw [if_neg c39] at H
           have c39b0 : decide (x6_3 < ((rd_L3 t155 0).length : Int)) = false := decide_eq_false c39
           clear c39
           simp only [Option.some.injEq, Prod.mk.injEq] at H
           obtain ⟨rfl, rfl, rfl⟩ := H
           have p171 : 0 ≤ (0 : Int) := (by omega)
           have q171 : 0 < (t155.length : Int) := of_decide_eq_true (by first | (with_reducible assumption) | assumption)
           obtain ⟨ad171, A171_0, c171_0, e171, hx171_0, hl171_0, hi171_0⟩ := at_L3 (Kd.R_reads' HO_0.out).2.2 0 p171 q171
           cases e171
           obtain ⟨ce171, hce171, hMe171, hcc171⟩ := Kd.R_get HO_0.out [] 0 p171 (by first | exact q171 | exact of_decide_eq_true (by first | (with_reducible assumption) | assumption) | (have e_ := (Kd.R_reads' HO_0.out).1; omega))
           obtain ⟨ve171_0, rfl, ge171_0⟩ := hMe171
           have hv171_0 := hcc171 0 _ rfl
           rw [Nat.add_zero, show ((Kd.slice 4 Kd.bool)).sz = 1 from rfl, Nat.mul_one] at hv171_0
           replace hv171_0 := Option.some.inj (hv171_0.symm.trans hx171_0)
           rw [hv171_0] at ge171_0
           have HL171_0 := Aside0.mk (show Kd.R Kd.bool 4 _ _ _ _ (rd_L3 t155 0) from ge171_0)
           clear hv171_0 ge171_0
           clear hcc171 hce171
           have qi171 : (0 < t155.length) = True := eq_true (by omega)
           (try rw [show ((0 : Int)).toNat = 0 from rfl] at hx171_0)
           (try rw [Addr.add_zero'] at hx171_0)
           have HR171_0 := Aside0.mk hi171_0
           have HC171_0 := Aside0.mk hl171_0
           clear hi171_0 hl171_0
           replace p171 := eq_true p171
           replace q171 := eq_true q171
           have hnb51 := NB158_154.out
           have hnc51 := NB154_158.out
           have hcz52_0 : wr.cell? ⟨gb158, 0, none⟩ = some (u159000) := (blk_cell BK158.out 0).trans rfl
           have hcz52_1 : wr.cell? ⟨gb158, 1, none⟩ = some (u159001) := (blk_cell BK158.out 1).trans rfl
           have hfz52_0 := blk_frozen BK158.out 0
           have hfz52_1 := blk_frozen BK158.out 1
           obtain ⟨Ao53, co53, eo53⟩ := Kd.R_slice HO_159000.out
           subst eo53
           have hcz54_0 : wr.cell? ⟨gb154, 0, none⟩ = some (.slice none 0 0) := (blk_cell BK154.out 0).trans rfl
           have hcz54_1 : wr.cell? ⟨gb154, 1, none⟩ = some (.slice none 0 0) := (blk_cell BK154.out 1).trans rfl
           have hfz54_0 := blk_frozen BK154.out 0
           have hfz54_1 := blk_frozen BK154.out 1
           obtain ⟨Ao55, co55, eo55⟩ := Kd.R_slice HO_159001.out
           subst eo55
           go_wp2
           refine bodyPost_ret (results_ct rfl _ _ gb154 25 #[.slice Ao53 x159000_2.length co53, .slice Ao55 x159001_3.length co55] (0, 0) _ rfl (by (with_reducible repeat (first | refine blk_drewN ?_ _ | refine blk_drew ?_ | refine blk_alloc ?_ _)); refine blk_put (cs := #[.slice Ao53 x159000_2.length co53, .slice none 0 0]) ?_ 1 _ rfl; (with_reducible repeat (first | refine blk_drewN ?_ _ | refine blk_drew ?_ | refine blk_alloc ?_ _)); refine blk_put (cs := #[.slice none 0 0, .slice none 0 0]) ?_ 0 _ rfl; (with_reducible repeat (first | refine blk_drewN ?_ _ | refine blk_drew ?_ | refine blk_alloc ?_ _)); exact BK154.out) Try.underlying25 rfl (by kernel_rfl)) rfl ?_
           exact ⟨_, _, by first | rfl | (simp [errW_none, errW_some] <;> rfl) | (simp [*, errW_none, errW_some] <;> rfl), by (with_reducible repeat (first | apply Kd.R_alloc | apply Kd.R_drewN | apply Kd.R_drew)); exact Kd.R_mono (Kd.R_far (p := ⟨gb154, 1, none⟩) (Kd.R_far (p := ⟨gb154, 0, none⟩) (Kd.R_types HO_159000.out BK154.out (by decide)) (fun _ hk => hk.2) (.slice Ao53 x159000_2.length co53)) (fun _ hk => hk.2) (.slice Ao55 x159001_3.length co55)) (fun _ hk => hk.1), by (with_reducible repeat (first | apply Kd.R_alloc | apply Kd.R_drewN | apply Kd.R_drew)); exact Kd.R_mono (Kd.R_far (p := ⟨gb154, 1, none⟩) (Kd.R_far (p := ⟨gb154, 0, none⟩) (Kd.R_types HO_159001.out BK154.out (by decide)) (fun _ hk => hk.2) (.slice Ao53 x159000_2.length co53)) (fun _ hk => hk.2) (.slice Ao55 x159001_3.length co55)) (fun _ hk => hk.1), by repeat (first | (with_reducible first | exact HB.out | apply below_alloc | apply pw_below_drewN | apply below_drew1 | refine below_set ?_ GE154.out | refine below_set ?_ GE158.out) | exact HB.out)⟩
         ·rw [if_neg c38] at H
          exact absurd H (by simp)

end Go.Proofs.Ytapnohcfnclleaa.PFnPictureValid
