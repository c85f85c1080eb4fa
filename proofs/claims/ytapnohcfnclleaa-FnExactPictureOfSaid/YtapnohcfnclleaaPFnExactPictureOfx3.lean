-- PRINTED BY print.sh 35421559b90ae4d0a3588c463048766b98c2df88dd9212a6774a882060cdf62d: not written by this session
import Derived.Test.YtapnohcfnclleaaPFnExactPictureOfx0
import Derived.Test.YtapnohcfnclleaaPFnExactPictureOfx1
import Derived.Test.YtapnohcfnclleaaPFnExactPictureOfx2
namespace Go.Proofs.Ytapnohcfnclleaa.PFnExactPictureOf
open Go.RowKit Go.Proofs.YtapnohcfnclleaaW.PrintWords Go.Proofs.YtapnohcfnclleaaW.PrintLast Go.Proofs.YtapnohcfnclleaaW.PrintMore
attribute [local go_sem] max2_int min2_int max_two min_two max_three min_three max_four min_four   -- for this text's walks alone
set_option linter.unusedVariables false
set_option linter.unusedSimpArgs false

/-! ### spec_PictureOf: function 28 -/
mutual
def spec_PictureOf.j0 : Nat → List (List Bool) → Bool → Option ((List (List Int)) × (List (List Int)) × Bool)
  | 0, _, _ => none
  | k + 1, x0, x21 => if x21 = true then (some (([] : List (List Int)), ([] : List (List Int)), false)) else (spec_PictureOf.l0 k x0 0 ([] : List (List Int)))
def spec_PictureOf.l0 : Nat → List (List Bool) → Int → List (List Int) → Option ((List (List Int)) × (List (List Int)) × Bool)
  | 0, _, _, _ => none
  | k + 1, x0, x5, x145000 => if x5 < (x0.length : Int) then (if 0 ≤ x5 then (if 0 < (x0.length : Int) then (if ((rd_L3 x0 x5).length : Int) = ((rd_L3 x0 0).length : Int) then ((spec_ClueOf.f k (rd_L3 x0 x5)).bind fun t151 => (if x145000.length < 5864062014805 then (spec_PictureOf.l0 k x0 (wrap64 (x5 + 1)) (x145000 ++ [t151])) else (none))) else (some (([] : List (List Int)), ([] : List (List Int)), false))) else (none)) else (none)) else (spec_PictureOf.l1 k x0 0 x145000 ([] : List (List Int)))
def spec_PictureOf.l1 : Nat → List (List Bool) → Int → List (List Int) → List (List Int) → Option ((List (List Int)) × (List (List Int)) × Bool)
  | 0, _, _, _, _ => none
  | k + 1, x0, x6, x145000, x145001 => if 0 < (x0.length : Int) then (if x6 < ((rd_L3 x0 0).length : Int) then ((spec_l13Column.f k x0 x6).bind fun t158 => ((spec_ClueOf.f k t158).bind fun t161 => (if x145001.length < 5864062014805 then (spec_PictureOf.l1 k x0 (wrap64 (x6 + 1)) x145000 (x145001 ++ [t161])) else (none)))) else (some (x145000, x145001, true))) else (none)
end
def spec_PictureOf.f (k : Nat) (l0 : List (List Bool)) : Option ((List (List Int)) × (List (List Int)) × Bool) := (spec_l1OwnRowsBool.f k l0).bind fun t141 => ((spec_l1In.f (t141.length : Int) 1 5).bind fun t145 => (if t145 = true then (if 0 < (t141.length : Int) then ((spec_l1In.f ((rd_L3 t141 0).length : Int) 1 5).bind fun t147 => (spec_PictureOf.j0 k t141 (!t147))) else (none)) else (spec_PictureOf.j0 k t141 true)))
theorem spec_PictureOf.mono_l : ∀ k, (∀ y0 y1, LeO (spec_PictureOf.j0 k y0 y1) (spec_PictureOf.j0 (k + 1) y0 y1)) ∧ (∀ y0 y1 y2, LeO (spec_PictureOf.l0 k y0 y1 y2) (spec_PictureOf.l0 (k + 1) y0 y1 y2)) ∧ (∀ y0 y1 y2 y3, LeO (spec_PictureOf.l1 k y0 y1 y2 y3) (spec_PictureOf.l1 (k + 1) y0 y1 y2 y3))
  | 0 => ⟨fun _ _ r h => by simp [spec_PictureOf.j0] at h, fun _ _ _ r h => by simp [spec_PictureOf.l0] at h, fun _ _ _ _ r h => by simp [spec_PictureOf.l1] at h⟩
  | k + 1 => by
    obtain ⟨ih0, ih1, ih2⟩ := spec_PictureOf.mono_l k
    refine ⟨?_, ?_, ?_⟩
    · intro y0 y1
      unfold spec_PictureOf.j0
      repeat' first
      | (with_reducible exact ih0 _ _)
      | (with_reducible exact ih1 _ _ _)
      | (with_reducible exact ih2 _ _ _ _)
      | (with_reducible exact spec_ClueOf.mono _ _)
      | (with_reducible exact spec_l13Column.mono _ _ _)
      | (with_reducible exact spec_l1OwnRowsBool.mono _ _)
      | (with_reducible exact LeO.refl _)
      | (with_reducible exact LeO.none _)
      | (with_reducible refine LeO.ite ?_ ?_)
      | (with_reducible refine LeO.bind ?_ (fun _ => ?_))
      | exact ih0 _ _
      | exact ih1 _ _ _
      | exact ih2 _ _ _ _
      | exact spec_ClueOf.mono _ _
      | exact spec_l13Column.mono _ _ _
      | exact spec_l1OwnRowsBool.mono _ _
      | exact LeO.none _
      | refine LeO.ite ?_ ?_
      | refine LeO.bind ?_ (fun _ => ?_)
    · intro y0 y1 y2
      unfold spec_PictureOf.l0
      repeat' first
      | (with_reducible exact ih0 _ _)
      | (with_reducible exact ih1 _ _ _)
      | (with_reducible exact ih2 _ _ _ _)
      | (with_reducible exact spec_ClueOf.mono _ _)
      | (with_reducible exact spec_l13Column.mono _ _ _)
      | (with_reducible exact spec_l1OwnRowsBool.mono _ _)
      | (with_reducible exact LeO.refl _)
      | (with_reducible exact LeO.none _)
      | (with_reducible refine LeO.ite ?_ ?_)
      | (with_reducible refine LeO.bind ?_ (fun _ => ?_))
      | exact ih0 _ _
      | exact ih1 _ _ _
      | exact ih2 _ _ _ _
      | exact spec_ClueOf.mono _ _
      | exact spec_l13Column.mono _ _ _
      | exact spec_l1OwnRowsBool.mono _ _
      | exact LeO.none _
      | refine LeO.ite ?_ ?_
      | refine LeO.bind ?_ (fun _ => ?_)
    · intro y0 y1 y2 y3
      unfold spec_PictureOf.l1
      repeat' first
      | (with_reducible exact ih0 _ _)
      | (with_reducible exact ih1 _ _ _)
      | (with_reducible exact ih2 _ _ _ _)
      | (with_reducible exact spec_ClueOf.mono _ _)
      | (with_reducible exact spec_l13Column.mono _ _ _)
      | (with_reducible exact spec_l1OwnRowsBool.mono _ _)
      | (with_reducible exact LeO.refl _)
      | (with_reducible exact LeO.none _)
      | (with_reducible refine LeO.ite ?_ ?_)
      | (with_reducible refine LeO.bind ?_ (fun _ => ?_))
      | exact ih0 _ _
      | exact ih1 _ _ _
      | exact ih2 _ _ _ _
      | exact spec_ClueOf.mono _ _
      | exact spec_l13Column.mono _ _ _
      | exact spec_l1OwnRowsBool.mono _ _
      | exact LeO.none _
      | refine LeO.ite ?_ ?_
      | refine LeO.bind ?_ (fun _ => ?_)
theorem spec_PictureOf.mono : ∀ a0 k, LeO (spec_PictureOf.f k a0) (spec_PictureOf.f (k + 1) a0) := by
  intro a0 k
  obtain ⟨ih0, ih1, ih2⟩ := spec_PictureOf.mono_l k
  unfold spec_PictureOf.f
  repeat' first
      | (with_reducible exact ih0 _ _)
      | (with_reducible exact ih1 _ _ _)
      | (with_reducible exact ih2 _ _ _ _)
      | (with_reducible exact spec_ClueOf.mono _ _)
      | (with_reducible exact spec_l13Column.mono _ _ _)
      | (with_reducible exact spec_l1OwnRowsBool.mono _ _)
      | (with_reducible exact LeO.refl _)
      | (with_reducible exact LeO.none _)
      | (with_reducible refine LeO.ite ?_ ?_)
      | (with_reducible refine LeO.bind ?_ (fun _ => ?_))
      | exact ih0 _ _
      | exact ih1 _ _ _
      | exact ih2 _ _ _ _
      | exact spec_ClueOf.mono _ _
      | exact spec_l13Column.mono _ _ _
      | exact spec_l1OwnRowsBool.mono _ _
      | exact LeO.none _
      | refine LeO.ite ?_ ?_
      | refine LeO.bind ?_ (fun _ => ?_)
def spec_PictureOf.T8 : Bool × List (List Nat × List Nat) := (true, [([], []), ([], []), ([0, 1], [0, 1]), ([2], [2]), ([3], [3]), ([], []), ([5], [5]), ([6], [6]), ([7], [7]), ([4, 8], [4, 8])])
def spec_PictureOf.B8 : List Nat := [0, 0, 3, 7, 15, 0, 32, 96, 224, 511]
theorem spec_PictureOf.tab8 : rtab .any (opsOf Try.f28 8) = spec_PictureOf.T8 := by kernel_rfl
theorem spec_PictureOf.bits8 : waitsOk spec_PictureOf.T8.2 spec_PictureOf.B8 = true := by kernel_rfl
def spec_PictureOf.T10 : Bool × List (List Nat × List Nat) := (true, [([], []), ([0], [0]), ([], []), ([], []), ([2, 3], [2, 3]), ([4], [4]), ([5], [5]), ([6], [6]), ([1, 7, 6], [1, 7]), ([0, 1, 2, 3, 4, 5, 6, 7, 8], []), ([9, 8, 8, 0, 1, 2, 3, 4, 5, 6, 7, 8], [8, 9])])
def spec_PictureOf.B10 : List Nat := [0, 1, 0, 0, 12, 28, 60, 124, 255, 511, 1023]
theorem spec_PictureOf.tab10 : rtab .any (opsOf Try.f28 10) = spec_PictureOf.T10 := by kernel_rfl
theorem spec_PictureOf.bits10 : waitsOk spec_PictureOf.T10.2 spec_PictureOf.B10 = true := by kernel_rfl
def spec_PictureOf.T14 : Bool × List (List Nat × List Nat) := (true, [([], []), ([0], [0]), ([], []), ([], []), ([2, 3], [2, 3]), ([4, 4], [4]), ([5], [5]), ([1, 6, 5], [1, 6]), ([0, 1, 2, 3, 4, 5, 6, 7], []), ([8, 7, 7, 0, 1, 2, 3, 4, 5, 6, 7], [7, 8])])
def spec_PictureOf.B14 : List Nat := [0, 1, 0, 0, 12, 28, 60, 127, 255, 511]
theorem spec_PictureOf.tab14 : rtab .any (opsOf Try.f28 14) = spec_PictureOf.T14 := by kernel_rfl
theorem spec_PictureOf.bits14 : waitsOk spec_PictureOf.T14.2 spec_PictureOf.B14 = true := by kernel_rfl
set_option maxHeartbeats 8000000 in
set_option maxRecDepth 100000 in
theorem spec_PictureOf.calls (k : Nat) (A0 : Option Addr) (c0 : Nat) (l0 : List (List Bool)) (r1 : List (List Int)) (r2 : List (List Int)) (r3 : Bool) (w : World) (hr0 : Kd.C (Kd.slice 4 Kd.bool) w A0 l0.length l0) (hc0 : l0.length ≤ c0) (h : spec_PictureOf.f k l0 = some (r1, r2, r3)) :
    Calls Try.prog 28 #[.slice A0 l0.length c0] w fun e w' => ∃ v0_ v1_ : Value, e = .returned (.tuple #[.agg #[v0_, v1_], .bool r3]) ∧ Kd.R (Kd.slice 3 (Kd.int .i64)) 36 w' w.heap.size (fun k_ => some k_ ≠ (v1_ : Value).ownBlock) v0_ r1 ∧ Kd.R (Kd.slice 3 (Kd.int .i64)) 36 w' w.heap.size (fun k_ => some k_ ≠ (v0_ : Value).ownBlock) v1_ r2 ∧ Below w.heap.size w w' := by
  have hu25 := Try.underlying25
  have HR0 := Aside0.mk hr0
  have HC0 := Aside0.mk hc0
  clear hr0 hc0
  have HB := Aside0.mk (Below.refl w.heap.size w)
  have H : ((spec_l1OwnRowsBool.f k l0).bind fun t141 => ((spec_l1In.f (t141.length : Int) 1 5).bind fun t145 => (if t145 = true then (if 0 < (t141.length : Int) then ((spec_l1In.f ((rd_L3 t141 0).length : Int) 1 5).bind fun t147 => (spec_PictureOf.j0 k t141 (!t147))) else (none)) else (spec_PictureOf.j0 k t141 true)))) = some (r1, r2, r3) := h
  clear h
  replace H := Option.bind_eq_some_iff.mp H
  obtain ⟨t141, A20, H⟩ := H
  replace H : ((spec_l1In.f (t141.length : Int) 1 5).bind fun t145 => (if t145 = true then (if 0 < (t141.length : Int) then ((spec_l1In.f ((rd_L3 t141 0).length : Int) 1 5).bind fun t147 => (spec_PictureOf.j0 k t141 (!t147))) else (none)) else (spec_PictureOf.j0 k t141 true))) = some (r1, r2, r3) := H
  have A2 := Aside0.mk A20
  clear A20
  have HC3 := Aside0.mk H
  clear H
  go_enter Try.func28, Try.ntmps28
  go_upto_region 3 with (first | ((with_reducible refine gate_dst (N := 2) rfl ?_); (try (refine gate_guard (by rfl) ?_; dsimp only)); refine box_event ?hg (N := 2) ?hd (cs := #[.slice none 0 0, .slice none 0 0]) (t := 25) ?hr ?_; (case hd => rfl); (case hg => rfl); (case hr => first | (go_simp; done) | (go_simp; rfl)); intro gb140 hg w4 hbox hb; have n0_ := Aside0.mk (below_step (by repeat (first | (with_reducible first | exact HB.out | apply below_alloc | apply pw_below_drewN | apply below_drew1) | exact HB.out)) hb); have n1_ := Aside0.mk (hbox); have n2_ := Aside0.mk ((by rw [hg]; exact (below_size (by repeat (first | (with_reducible first | exact HB.out | apply below_alloc | apply pw_below_drewN | apply below_drew1) | exact HB.out))) : w.heap.size ≤ gb140)); have n3_ := Aside0.mk ((by rw [hg]; exact (below_size (by repeat (first | (with_reducible first | exact HB.out | apply below_alloc | apply pw_below_drewN | apply below_drew1) | exact HB.out))) : w.heap.size ≤ gb140)); clear HB; have HB := n0_; have BK140 := n1_; have GW140 := n2_; have GE140 := n3_; clear n0_ n1_ n2_ n3_; clear hb hbox hg) | ((with_reducible refine gate_callee (f := 61) rfl ?_); refine goesL_ (some 8) rfl rfl Try.func61 (by kernel_rfl) rfl #[.slice A0 l0.length c0] rfl (by (try simp only [List.map_toArray, List.map_cons, List.map_nil]); first | done | rfl | (simp only [List.length_drop, List.length_take]; rfl)) ?_; (with_reducible refine (spec_l1OwnRowsBool.calls k _ _ l0 t141 _ ?side1 ?side2 A2.out).mono ?_); (case side1 => repeat (first | exact (Kd.C_below HR0.out HB.out) | (with_reducible refine Kd.C_alloc ?_ _) | (with_reducible refine Kd.C_drewN ?_ _) | (with_reducible refine Kd.C_drew ?_))); (case side2 => exact HC0.out); rintro e w5 ⟨v142, rfl, ho0, hb⟩; refine ⟨_, rfl, ?_⟩; have n0_ := Aside0.mk (Kd.R_lower ho0 (below_size (by repeat (first | (with_reducible first | exact HB.out | apply below_alloc | apply pw_below_drewN | apply below_drew1 | refine below_set ?_ GE140.out) | exact HB.out)))); have n1_ := Aside0.mk (blk_below (g := gb140) (o := .cells #[.slice none 0 0, .slice none 0 0] 25 (0, 0)) (by (with_reducible repeat (first | refine blk_drewN ?_ _ | refine blk_drew ?_ | refine blk_alloc ?_ _)); exact BK140.out) hb); have n2_ := Aside0.mk (below_step (by repeat (first | (with_reducible first | exact HB.out | apply below_alloc | apply pw_below_drewN | apply below_drew1 | refine below_set ?_ GE140.out) | exact HB.out)) hb); clear BK140; clear HB; have HO143 := n0_; have BK140 := n1_; have HB := n2_; clear n0_ n1_ n2_; (try clear hb); (try clear hb2); (try clear hk); (try clear hi); (try clear ho0)) | ((with_reducible refine gate_dst (N := 4) rfl ?_); (try (refine gate_guard (by rfl) ?_; dsimp only)); refine box_event ?hg (N := 4) ?hd (cs := #[.slice none 0 0, .slice none 0 0]) (t := 25) ?hr ?_; (case hd => rfl); (case hg => rfl); (case hr => first | (go_simp; done) | (go_simp; rfl)); intro gb144 hg w6 hbox hb; have n0_ := Aside0.mk (Kd.R_below (by (with_reducible repeat (first | apply Kd.R_alloc | apply Kd.R_drewN | apply Kd.R_drew)); exact HO143.out) hb); have n1_ := Aside0.mk (blk_below (g := gb140) (o := .cells #[.slice none 0 0, .slice none 0 0] 25 (0, 0)) (by (with_reducible repeat (first | refine blk_drewN ?_ _ | refine blk_drew ?_ | refine blk_alloc ?_ _)); exact BK140.out) hb); have n2_ := Aside0.mk (below_step (by repeat (first | (with_reducible first | exact HB.out | apply below_alloc | apply pw_below_drewN | apply below_drew1 | refine below_set ?_ GE140.out) | exact HB.out)) hb); have n3_ := Aside0.mk (hbox); have n4_ := Aside0.mk ((by rw [hg]; exact (below_size (by repeat (first | (with_reducible first | exact HB.out | apply below_alloc | apply pw_below_drewN | apply below_drew1 | refine below_set ?_ GE140.out) | exact HB.out))) : w.heap.size ≤ gb144)); have n5_ := Aside0.mk ((by rw [hg]; exact (below_size (by repeat (first | (with_reducible first | exact HB.out | apply below_alloc | apply pw_below_drewN | apply below_drew1 | refine below_set ?_ GE140.out) | exact HB.out))) : w.heap.size ≤ gb144)); have n6_ := Aside0.mk ((by rw [hg]; exact Nat.ne_of_lt (blk_lt (g := gb140) (o := .cells #[.slice none 0 0, .slice none 0 0] 25 (0, 0)) (by (with_reducible repeat (first | refine blk_drewN ?_ _ | refine blk_drew ?_ | refine blk_alloc ?_ _)); exact BK140.out)) : gb140 ≠ gb144)); have n7_ := Aside0.mk ((by rw [hg]; exact Nat.ne_of_gt (blk_lt (g := gb140) (o := .cells #[.slice none 0 0, .slice none 0 0] 25 (0, 0)) (by (with_reducible repeat (first | refine blk_drewN ?_ _ | refine blk_drew ?_ | refine blk_alloc ?_ _)); exact BK140.out)) : gb144 ≠ gb140)); clear HO143; clear BK140; clear HB; have HO143 := n0_; have BK140 := n1_; have HB := n2_; have BK144 := n3_; have GW144 := n4_; have GE144 := n5_; have NB140_144 := n6_; have NB144_140 := n7_; clear n0_ n1_ n2_ n3_ n4_ n5_ n6_ n7_; clear hb hbox hg; have hnb7 := NB144_140.out; have hnc7 := NB140_144.out; have hcz8_0 : w6.cell? ⟨gb144, 0, none⟩ = some (.slice none 0 0) := (blk_cell BK144.out 0).trans rfl; have hcz8_1 : w6.cell? ⟨gb144, 1, none⟩ = some (.slice none 0 0) := (blk_cell BK144.out 1).trans rfl; have hfz8_0 := blk_frozen BK144.out 0; have hfz8_1 := blk_frozen BK144.out 1))
  (try simp only [Act.put, List.setIfInBounds_toArray, List.set_cons_zero, List.set_cons_succ])
  go_cut [21] (fun v21 wc => ∃ (kq : Nat) (x21_2 : Bool), v21 = .bool x21_2 ∧ Aside0 (spec_PictureOf.j0 kq t141 x21_2 = some (r1, r2, r3)) ∧ Aside0 (kq ≤ k) ∧ Aside0 (Kd.R (Kd.slice 4 Kd.bool) 37 wc w.heap.size (fun _ => True) v142 t141) ∧ Aside0 (wc.heap[gb140]? = some (.cells #[(.slice none 0 0), (.slice none 0 0)] 25 (0, 0))) ∧ Aside0 (wc.heap[gb144]? = some (.cells #[(.slice none 0 0), (.slice none 0 0)] 25 (0, 0))) ∧ Aside0 (Below w.heap.size w wc))
  case first =>
    have H := HC3.out
    clear HC3
    replace H := Option.bind_eq_some_iff.mp H
    obtain ⟨t145, A90, H⟩ := H
    replace H : (if t145 = true then (if 0 < (t141.length : Int) then ((spec_l1In.f ((rd_L3 t141 0).length : Int) 1 5).bind fun t147 => (spec_PictureOf.j0 k t141 (!t147))) else (none)) else (spec_PictureOf.j0 k t141 true)) = some (r1, r2, r3) := H
    have A9 := Aside0.mk A90
    clear A90
    by_cases c10 : t145 = true
    · subst c10
      have H1 : (if 0 < (t141.length : Int) then ((spec_l1In.f ((rd_L3 t141 0).length : Int) 1 5).bind fun t147 => (spec_PictureOf.j0 k t141 (!t147))) else (none)) = some (r1, r2, r3) := by rw [if_pos rfl] at H; exact H
      clear H
      have H := H1
      clear H1
      by_cases c11 : 0 < (t141.length : Int)
      · rw [if_pos c11] at H
        have c11b0 : decide (0 < (t141.length : Int)) = true := decide_eq_true c11
        have c11b1 : decide (0 < t141.length) = true := decide_eq_true (by omega)
        clear c11
        (first | rw [c11b0] | (simp only [i64_w, i32_w]; rw [c11b0]) | skip)
        replace H := Option.bind_eq_some_iff.mp H
        obtain ⟨t147, A120, H⟩ := H
        replace H : (spec_PictureOf.j0 k t141 (!t147)) = some (r1, r2, r3) := H
        have A12 := Aside0.mk A120
        clear A120
        have H' := Aside0.mk H
        clear H
        obtain ⟨Ao13, co13, eo13⟩ := Kd.R_slice HO143.out
        subst eo13
        go_wp2_with (first | ((with_reducible refine gate_callee (f := 53) rfl ?_); refine goesL_ (some 12) rfl rfl Try.func53 (by kernel_rfl) rfl #[.int .i64 (t141.length : Int), .int .i64 1, .int .i64 5] rfl (by (try simp only [List.map_toArray, List.map_cons, List.map_nil]); first | done | rfl | (simp only [List.length_drop, List.length_take]; rfl)) ?_; (with_reducible refine (spec_l1In.calls (t141.length : Int) 1 5 true _ A9.out).mono ?_); rintro e w' ⟨rfl, ⟨nd, rfl⟩⟩; refine ⟨_, rfl, ?_⟩; have p146 : 0 ≤ (0 : Int) := (by omega); have q146 : 0 < (t141.length : Int) := of_decide_eq_true (by first | (with_reducible assumption) | assumption); obtain ⟨ad146, A146_0, c146_0, e146, hx146_0, hl146_0, hi146_0⟩ := at_L3 (Kd.R_reads' HO143.out).2.2 0 p146 q146; cases e146; have qi146 : (0 < t141.length) = True := eq_true (by omega); (try rw [show ((0 : Int)).toNat = 0 from rfl] at hx146_0); (try rw [Addr.add_zero'] at hx146_0); have hn146_0 : ad146.block ≠ gb144 := Kd.own_blk (Kd.R_ne HO143.out BK144.out (by decide)); have hn146_1 : ad146.block ≠ gb144 := Kd.own_blk (Kd.R_ne HO143.out BK144.out (by decide)); have HR146_0 := Aside0.mk hi146_0; have HC146_0 := Aside0.mk hl146_0; clear hi146_0 hl146_0; replace hx146_0 := (cell_far (p := ⟨gb144, 0, none⟩) (by first | (rw [add_block]; exact hn146_0) | (show (Addr.add _ _).block ≠ _; rw [add_block]; exact hn146_0) | exact hn146_0) (.slice none 0 0)).trans hx146_0; replace hx146_0 := (cell_far (p := ⟨gb144, 1, none⟩) (by first | (rw [add_block]; exact hn146_1) | (show (Addr.add _ _).block ≠ _; rw [add_block]; exact hn146_1) | exact hn146_1) (.slice none 0 0)).trans hx146_0; clear hn146_0; clear hn146_1; replace p146 := eq_true p146; replace q146 := eq_true q146) | (go_at_call 53; (with_reducible refine (spec_l1In.calls ((rd_L3 t141 0).length : Int) 1 5 t147 _ A12.out).mono ?_); rintro e w' ⟨rfl, ⟨nd, rfl⟩⟩))
        go_meet
        case rel => exact ⟨_, (!t147), (by first | rfl | (simp; done) | (simp [*]; done)), H', ⟨by first | omega | exact Nat.le_refl _⟩, ⟨by (with_reducible repeat (first | apply Kd.R_alloc | apply Kd.R_drewN | apply Kd.R_drew)); exact Kd.R_mono (Kd.R_far (p := ⟨gb144, 1, none⟩) (Kd.R_far (p := ⟨gb144, 0, none⟩) (Kd.R_types HO143.out BK144.out (by decide)) (fun _ hk => hk.2) (.slice none 0 0)) (fun _ hk => hk.2) (.slice none 0 0)) (fun _ hk => trivial)⟩, ⟨by (with_reducible repeat (first | refine blk_drewN ?_ _ | refine blk_drew ?_ | refine blk_alloc ?_ _)); refine blk_far ?_ NB140_144.out _; (with_reducible repeat (first | refine blk_drewN ?_ _ | refine blk_drew ?_ | refine blk_alloc ?_ _)); refine blk_far ?_ NB140_144.out _; (with_reducible repeat (first | refine blk_drewN ?_ _ | refine blk_drew ?_ | refine blk_alloc ?_ _)); exact BK140.out⟩, ⟨by (with_reducible repeat (first | refine blk_drewN ?_ _ | refine blk_drew ?_ | refine blk_alloc ?_ _)); refine blk_put (cs := #[.slice none 0 0, .slice none 0 0]) ?_ 1 _ rfl; (with_reducible repeat (first | refine blk_drewN ?_ _ | refine blk_drew ?_ | refine blk_alloc ?_ _)); refine blk_put (cs := #[.slice none 0 0, .slice none 0 0]) ?_ 0 _ rfl; (with_reducible repeat (first | refine blk_drewN ?_ _ | refine blk_drew ?_ | refine blk_alloc ?_ _)); exact BK144.out⟩, ⟨by repeat (first | (with_reducible first | exact HB.out | apply below_alloc | apply pw_below_drewN | apply below_drew1 | refine below_set ?_ GE140.out | refine below_set ?_ GE144.out) | exact HB.out)⟩⟩
      · rw [if_neg c11] at H
        exact absurd H (by simp)
    · replace c10 := Bool.eq_false_iff.mpr c10
      subst c10
      have H1 : (spec_PictureOf.j0 k t141 true) = some (r1, r2, r3) := by rw [if_neg (show ¬ (false = true) by decide)] at H; exact H
      clear H
      have H := H1
      clear H1
      have H' := Aside0.mk H
      clear H
      obtain ⟨Ao14, co14, eo14⟩ := Kd.R_slice HO143.out
      subst eo14
      go_wp2_with (first | ((with_reducible refine gate_callee (f := 53) rfl ?_); refine goesL_ (some 12) rfl rfl Try.func53 (by kernel_rfl) rfl #[.int .i64 (t141.length : Int), .int .i64 1, .int .i64 5] rfl (by (try simp only [List.map_toArray, List.map_cons, List.map_nil]); first | done | rfl | (simp only [List.length_drop, List.length_take]; rfl)) ?_; (with_reducible refine (spec_l1In.calls (t141.length : Int) 1 5 false _ A9.out).mono ?_); rintro e w' ⟨rfl, ⟨nd, rfl⟩⟩; refine ⟨_, rfl, ?_⟩))
      go_meet
      case rel => exact ⟨_, (true), (by first | rfl | (simp; done) | (simp [*]; done)), H', ⟨by first | omega | exact Nat.le_refl _⟩, ⟨by (with_reducible repeat (first | apply Kd.R_alloc | apply Kd.R_drewN | apply Kd.R_drew)); exact Kd.R_mono (Kd.R_far (p := ⟨gb144, 1, none⟩) (Kd.R_far (p := ⟨gb144, 0, none⟩) (Kd.R_types HO143.out BK144.out (by decide)) (fun _ hk => hk.2) (.slice none 0 0)) (fun _ hk => hk.2) (.slice none 0 0)) (fun _ hk => trivial)⟩, ⟨by (with_reducible repeat (first | refine blk_drewN ?_ _ | refine blk_drew ?_ | refine blk_alloc ?_ _)); refine blk_far ?_ NB140_144.out _; (with_reducible repeat (first | refine blk_drewN ?_ _ | refine blk_drew ?_ | refine blk_alloc ?_ _)); refine blk_far ?_ NB140_144.out _; (with_reducible repeat (first | refine blk_drewN ?_ _ | refine blk_drew ?_ | refine blk_alloc ?_ _)); exact BK140.out⟩, ⟨by (with_reducible repeat (first | refine blk_drewN ?_ _ | refine blk_drew ?_ | refine blk_alloc ?_ _)); refine blk_put (cs := #[.slice none 0 0, .slice none 0 0]) ?_ 1 _ rfl; (with_reducible repeat (first | refine blk_drewN ?_ _ | refine blk_drew ?_ | refine blk_alloc ?_ _)); refine blk_put (cs := #[.slice none 0 0, .slice none 0 0]) ?_ 0 _ rfl; (with_reducible repeat (first | refine blk_drewN ?_ _ | refine blk_drew ?_ | refine blk_alloc ?_ _)); exact BK144.out⟩, ⟨by repeat (first | (with_reducible first | exact HB.out | apply below_alloc | apply pw_below_drewN | apply below_drew1 | refine below_set ?_ GE140.out | refine below_set ?_ GE144.out) | exact HB.out)⟩⟩
  case rest =>
    clear HC3
    try clear c1
    try clear p1
    try clear q1
    try clear hx1
    try clear qi1
    try clear c2
    try clear p2
    try clear c5
    try clear c6
    try clear c7
    try clear c10
    try clear c11
    try clear c11b0
    try clear c11b1
    try clear c14
    try clear p14
    try clear q14
    try clear hx14
    try clear qi14
    try clear hcz8_0
    try clear hcz8_1
    try clear hfz8_0
    try clear hfz8_1
    try clear hx146_0
    try clear p146
    try clear q146
    obtain ⟨kq, x21_2, rfl, HA, HJ2, HO_0, BK140, BK144, HB⟩ := hcut
    cases kq with
    | zero => exact absurd HA.out (by simp [spec_PictureOf.j0])
    | succ kj2 =>
      have H := HA.out
      clear HA
      simp only [spec_PictureOf.j0] at H
      by_cases c15 : x21_2 = true
      · subst c15
        have H1 : (some (([] : List (List Int)), ([] : List (List Int)), false)) = some (r1, r2, r3) := by rw [if_pos rfl] at H; exact H
        clear H
        have H := H1
        clear H1
        simp only [Option.some.injEq, Prod.mk.injEq] at H
        obtain ⟨rfl, rfl, rfl⟩ := H
        have hnb16 := NB144_140.out
        have hnc16 := NB140_144.out
        have hcz17_0 : wc.cell? ⟨gb144, 0, none⟩ = some (.slice none 0 0) := (blk_cell BK144.out 0).trans rfl
        have hcz17_1 : wc.cell? ⟨gb144, 1, none⟩ = some (.slice none 0 0) := (blk_cell BK144.out 1).trans rfl
        have hfz17_0 := blk_frozen BK144.out 0
        have hfz17_1 := blk_frozen BK144.out 1
        have hcz18_0 : wc.cell? ⟨gb140, 0, none⟩ = some (.slice none 0 0) := (blk_cell BK140.out 0).trans rfl
        have hcz18_1 : wc.cell? ⟨gb140, 1, none⟩ = some (.slice none 0 0) := (blk_cell BK140.out 1).trans rfl
        have hfz18_0 := blk_frozen BK140.out 0
        have hfz18_1 := blk_frozen BK140.out 1
        go_wp2
        refine bodyPost_ret (results_ct rfl _ _ gb140 25 #[.slice none 0 0, .slice none 0 0] (0, 0) _ rfl (by (with_reducible repeat (first | refine blk_drewN ?_ _ | refine blk_drew ?_ | refine blk_alloc ?_ _)); refine blk_put (cs := #[.slice none 0 0, .slice none 0 0]) ?_ 1 _ rfl; (with_reducible repeat (first | refine blk_drewN ?_ _ | refine blk_drew ?_ | refine blk_alloc ?_ _)); refine blk_put (cs := #[.slice none 0 0, .slice none 0 0]) ?_ 0 _ rfl; (with_reducible repeat (first | refine blk_drewN ?_ _ | refine blk_drew ?_ | refine blk_alloc ?_ _)); exact BK140.out) Try.underlying25 rfl (by kernel_rfl)) rfl ?_
        exact ⟨_, _, by first | rfl | (simp [errW_none, errW_some] <;> rfl) | (simp [*, errW_none, errW_some] <;> rfl), by first | exact Kd.R_nil _ _ _ _ _ | exact Kd.N_nil _ _ _ _ _ | exact Kd.V_nil _ _ _ _ _ | exact Kd.Q_nil _ _ _ _ _ | exact Kd.S_nil _ _ _ _ _, by first | exact Kd.R_nil _ _ _ _ _ | exact Kd.N_nil _ _ _ _ _ | exact Kd.V_nil _ _ _ _ _ | exact Kd.Q_nil _ _ _ _ _ | exact Kd.S_nil _ _ _ _ _, by repeat (first | (with_reducible first | exact HB.out | apply below_alloc | apply pw_below_drewN | apply below_drew1 | refine below_set ?_ GE140.out | refine below_set ?_ GE144.out) | exact HB.out)⟩
      · replace c15 := Bool.eq_false_iff.mpr c15
        subst c15
        have H1 : (spec_PictureOf.l0 kj2 t141 0 ([] : List (List Int))) = some (r1, r2, r3) := by rw [if_neg (show ¬ (false = true) by decide)] at H; exact H
        clear H
        have H := H1
        clear H1
        have H' := Aside0.mk H
        clear H
        go_wp2
        go_loopg [5] kj2 (fun kq v5 w' => ∃ (x5_2 : Int) (x145000_2 : List (List Int)) (u145000 : Value), v5 = .int .i64 x5_2 ∧ Aside0 (spec_PictureOf.l0 kq t141 x5_2 x145000_2 = some (r1, r2, r3)) ∧ Aside0 (kq ≤ kj2) ∧ Aside0 (Kd.R (Kd.slice 4 Kd.bool) 37 w' w.heap.size (fun _ => True) v142 t141) ∧ Aside0 (Kd.R (Kd.slice 3 (Kd.int .i64)) 36 w' w.heap.size (fun _ => True) u145000 x145000_2) ∧ Aside0 (w'.heap[gb140]? = some (.cells #[(.slice none 0 0), (.slice none 0 0)] 25 (0, 0))) ∧ Aside0 (w'.heap[gb144]? = some (.cells #[u145000, (.slice none 0 0)] 25 (0, 0))) ∧ Aside0 (Below w.heap.size w w'))
        case atStart => exact ⟨(0), (([] : List (List Int))), (.slice none 0 0), (by first | rfl | (simp; done) | (simp [*]; done)), H', ⟨Nat.le_refl _⟩, ⟨by (with_reducible repeat (first | apply Kd.R_alloc | apply Kd.R_drewN | apply Kd.R_drew)); exact HO_0.out⟩, ⟨by first | exact Kd.R_nil _ _ _ _ _ | exact Kd.N_nil _ _ _ _ _ | exact Kd.V_nil _ _ _ _ _ | exact Kd.Q_nil _ _ _ _ _ | exact Kd.S_nil _ _ _ _ _⟩, ⟨by (with_reducible repeat (first | refine blk_drewN ?_ _ | refine blk_drew ?_ | refine blk_alloc ?_ _)); exact BK140.out⟩, ⟨by (with_reducible repeat (first | refine blk_drewN ?_ _ | refine blk_drew ?_ | refine blk_alloc ?_ _)); exact BK144.out⟩, ⟨by repeat (first | (with_reducible first | exact HB.out | apply below_alloc | apply pw_below_drewN | apply below_drew1 | refine below_set ?_ GE140.out | refine below_set ?_ GE144.out) | exact HB.out)⟩⟩
        case round =>
          clear H'
          try clear c1
          try clear p1
          try clear q1
          try clear hx1
          try clear qi1
          try clear c2
          try clear p2
          try clear c5
          try clear c6
          try clear c7
          try clear c10
          try clear c11
          try clear c11b0
          try clear c11b1
          try clear c14
          try clear p14
          try clear q14
          try clear hx14
          try clear qi14
          try clear c15
          try clear c16
          try clear hcz17_0
          try clear hcz17_1
          try clear hcz18_0
          try clear hcz18_1
          try clear hcz8_0
          try clear hcz8_1
          try clear hfz17_0
          try clear hfz17_1
          try clear hfz18_0
          try clear hfz18_1
          try clear hfz8_0
          try clear hfz8_1
          try clear hx146_0
          try clear p1
          try clear p14
          try clear p146
          try clear p2
          try clear q1
          try clear q14
          try clear q146
          obtain ⟨x5_2, x145000_2, u145000, rfl, HA, HK2, HO_0, HO_145000, BK140, BK144, HB⟩ := hrel
          cases gk with
          | zero => exact absurd HA.out (by simp [spec_PictureOf.l0])
          | succ k2 =>
            have H := HA.out
            clear HA
            simp only [spec_PictureOf.l0] at H
            by_cases c19 : x5_2 < (t141.length : Int)
            · rw [if_pos c19] at H
              have c19b0 : decide (x5_2 < (t141.length : Int)) = true := decide_eq_true c19
              clear c19
              by_cases c20 : 0 ≤ x5_2
              · rw [if_pos c20] at H
                have c20b0 : decide (0 ≤ x5_2) = true := decide_eq_true c20
                clear c20
                by_cases c21 : 0 < (t141.length : Int)
                · rw [if_pos c21] at H
                  have c21b0 : decide (0 < (t141.length : Int)) = true := decide_eq_true c21
                  have c21b1 : decide (0 < t141.length) = true := decide_eq_true (by omega)
                  clear c21
                  by_cases c22 : ((rd_L3 t141 x5_2).length : Int) = ((rd_L3 t141 0).length : Int)
                  · rw [if_pos c22] at H
                    have c22b0 : (((rd_L3 t141 x5_2).length : Int) == ((rd_L3 t141 0).length : Int)) = true := beq_iff_eq.mpr c22
                    have c22b1 : (((rd_L3 t141 x5_2).length : Int) != ((rd_L3 t141 0).length : Int)) = false := bne_eq_false_iff_eq.mpr c22
                    have c22b2 : ((rd_L3 t141 x5_2).length == (rd_L3 t141 0).length) = true := by first | simpa using c22 | (simp at c22 ⊢; omega)
                    clear c22
                    replace H := Option.bind_eq_some_iff.mp H
                    obtain ⟨t151, A230, H⟩ := H
                    replace H : (if x145000_2.length < 5864062014805 then (spec_PictureOf.l0 k2 t141 (wrap64 (x5_2 + 1)) (x145000_2 ++ [t151])) else (none)) = some (r1, r2, r3) := H
                    have A23 := Aside0.mk A230
                    clear A230
                    by_cases c24 : x145000_2.length < 5864062014805
                    · rw [if_pos c24] at H
                      have LMc24 := Aside0.mk c24
                      clear c24
                      obtain ⟨y154, hy154⟩ : ∃ y_ : List (List Int), y_ = (x145000_2 ++ [t151]) := ⟨_, rfl⟩
                      replace H : (spec_PictureOf.l0 k2 t141 (wrap64 (x5_2 + 1)) y154) = some (r1, r2, r3) := by first | (rw [hy154]; with_reducible exact H) | (have H2_ := (Option.bind_some _ _).symm.trans H; rw [hy154]; with_reducible exact H2_) | (have H2_ := (Option.bind_some _ _).symm.trans H; with_reducible exact H2_) | with_reducible exact H | (rw [hy154]; exact H) | exact H
                      have Ny154 := Aside0.mk hy154
                      clear hy154
                      have H' := Aside0.mk H
                      clear H
                      obtain ⟨Ao25, co25, eo25⟩ := Kd.R_slice HO_0.out
                      subst eo25
                      try go_wp2
                      have n0_ := Aside0.mk (Kd.R_drew HO_0.out)
                      have n1_ := Aside0.mk (Kd.R_drew HO_145000.out)
                      have n2_ := Aside0.mk (blk_drew BK140.out)
                      have n3_ := Aside0.mk (blk_drew BK144.out)
                      have n4_ := Aside0.mk (below_drew1 HB.out)
                      clear HO_0
                      clear HO_145000
                      clear BK140
                      clear BK144
                      clear HB
                      have HO_0 := n0_
                      have HO_145000 := n1_
                      have BK140 := n2_
                      have BK144 := n3_
                      have HB := n4_
                      clear n0_ n1_ n2_ n3_ n4_
                      have p148 : 0 ≤ (x5_2 : Int) := of_decide_eq_true (by first | (with_reducible assumption) | assumption)
                      have q148 : x5_2 < (t141.length : Int) := of_decide_eq_true (by first | (with_reducible assumption) | assumption)
                      obtain ⟨ad148, A148_0, c148_0, e148, hx148_0, hl148_0, hi148_0⟩ := at_L3 (Kd.R_reads' HO_0.out).2.2 x5_2 p148 q148
                      cases e148
                      obtain ⟨ce148, hce148, hMe148, hcc148⟩ := Kd.R_get HO_0.out [] x5_2 p148 (by first | exact q148 | exact of_decide_eq_true (by first | (with_reducible assumption) | assumption) | (have e_ := (Kd.R_reads' HO_0.out).1; omega))
                      obtain ⟨ve148_0, rfl, ge148_0⟩ := hMe148
                      have hv148_0 := hcc148 0 _ rfl
                      rw [Nat.add_zero, show ((Kd.slice 4 Kd.bool)).sz = 1 from rfl, Nat.mul_one] at hv148_0
                      replace hv148_0 := Option.some.inj (hv148_0.symm.trans hx148_0)
                      rw [hv148_0] at ge148_0
                      have HL148_0 := Aside0.mk (show Kd.R Kd.bool 4 _ _ _ _ (rd_L3 t141 x5_2) from ge148_0)
                      clear hv148_0 ge148_0
                      clear hcc148 hce148
                      have HR148_0 := Aside0.mk hi148_0
                      have HC148_0 := Aside0.mk hl148_0
                      clear hi148_0 hl148_0
                      replace p148 := eq_true p148
                      replace q148 := eq_true q148
                      have p149 : 0 ≤ (0 : Int) := (by omega)
                      have q149 : 0 < (t141.length : Int) := of_decide_eq_true (by first | (with_reducible assumption) | assumption)
                      obtain ⟨ad149, A149_0, c149_0, e149, hx149_0, hl149_0, hi149_0⟩ := at_L3 (Kd.R_reads' HO_0.out).2.2 0 p149 q149
                      obtain rfl : ad148 = ad149 := (by injection e149)
                      obtain ⟨ce149, hce149, hMe149, hcc149⟩ := Kd.R_get HO_0.out [] 0 p149 (by first | exact q149 | exact of_decide_eq_true (by first | (with_reducible assumption) | assumption) | (have e_ := (Kd.R_reads' HO_0.out).1; omega))
                      obtain ⟨ve149_0, rfl, ge149_0⟩ := hMe149
                      have hv149_0 := hcc149 0 _ rfl
                      rw [Nat.add_zero, show ((Kd.slice 4 Kd.bool)).sz = 1 from rfl, Nat.mul_one] at hv149_0
                      replace hv149_0 := Option.some.inj (hv149_0.symm.trans hx149_0)
                      rw [hv149_0] at ge149_0
                      have HL149_0 := Aside0.mk (show Kd.R Kd.bool 4 _ _ _ _ (rd_L3 t141 0) from ge149_0)
                      clear hv149_0 ge149_0
                      clear hcc149 hce149
                      have qi149 : (0 < t141.length) = True := eq_true (by omega)
                      (try rw [show ((0 : Int)).toNat = 0 from rfl] at hx149_0)
                      (try rw [Addr.add_zero'] at hx149_0)
                      have HR149_0 := Aside0.mk hi149_0
                      have HC149_0 := Aside0.mk hl149_0
                      clear hi149_0 hl149_0
                      replace p149 := eq_true p149
                      replace q149 := eq_true q149
                      refine start_ (n := 10) (S := fun w' => w'.cell? (ad148.add (x5_2).toNat) = some (.slice A148_0 (rd_L3 t141 x5_2).length c148_0) ∧ w'.cell? ad148 = some (.slice A149_0 (rd_L3 t141 0).length c149_0)) (ds := []) #[false, false, false, false, false, false, false, false, false, false] (by kernel_rfl) rfl rfl ⟨hx148_0, hx149_0⟩ (fun hHeld => ?_); refine with_tabW spec_PictureOf.tab8 spec_PictureOf.bits8 (fun HT_ HW_ => ?_)
                      generalize wr.drew = w26 at HO_0 HO_145000 BK140 BK144 HB HL148_0 HL149_0 HR148_0 HR149_0 hx148_0 hx149_0 hHeld ⊢
                      refine pure_ (i := 0) (N := some 29) (v := ?_) (a' := ?_) #[true, false, false, false, false, false, false, false, false, false] rfl rfl (any_of HT_.out (by kernel_rfl)) (fun _ _ _ h => h) (Or.inl ⟨by rfl, ?_⟩) ?_ ?_
                      rotate_left
                      · intro w'
                        go_simp
                        with_reducible rfl
                      rotate_left
                      · simp only [Act.put, List.setIfInBounds_toArray, List.set_cons_zero, List.set_cons_succ, i64_w, i32_w]
                        rfl
                      refine pure_ (i := 1) (N := some 30) (v := ?_) (a' := ?_) #[true, true, false, false, false, false, false, false, false, false] rfl rfl (any_of HT_.out (by kernel_rfl)) (fun _ _ _ h => h) (Or.inl ⟨by rfl, ?_⟩) ?_ ?_
                      rotate_left
                      · intro w'
                        go_simp
                        with_reducible rfl
                      rotate_left
                      · simp only [Act.put, List.setIfInBounds_toArray, List.set_cons_zero, List.set_cons_succ, i64_w, i32_w]
                        rfl
                      refine pure_ (i := 2) (N := some 31) (v := ?_) (a' := ?_) #[true, true, true, false, false, false, false, false, false, false] rfl rfl (any_of HT_.out (by kernel_rfl)) (fun _ _ _ h => h) (Or.inl ⟨by rfl, ?_⟩) ?_ ?_
                      rotate_left
                      · intro w'
                        go_simp
                        with_reducible rfl
                      rotate_left
                      · simp only [Act.put, List.setIfInBounds_toArray, List.set_cons_zero, List.set_cons_succ, i64_w, i32_w]
                        rfl
                      refine pure_ (i := 5) (N := some 34) (v := ?_) (a' := ?_) #[true, true, true, false, false, true, false, false, false, false] rfl rfl (any_of HT_.out (by kernel_rfl)) (fun _ _ _ h => h) (Or.inl ⟨by rfl, ?_⟩) ?_ ?_
                      rotate_left
                      · intro w'
                        go_simp
                        with_reducible rfl
                      rotate_left
                      · simp only [Act.put, List.setIfInBounds_toArray, List.set_cons_zero, List.set_cons_succ, i64_w, i32_w]
                        rfl
                      refine pure_ (i := 6) (N := some 35) (v := ?_) (a' := ?_) #[true, true, true, false, false, true, true, false, false, false] rfl rfl (any_of HT_.out (by kernel_rfl)) (fun _ _ _ h => h) (Or.inl ⟨by rfl, ?_⟩) ?_ ?_
                      rotate_left
                      · intro w'
                        go_simp
                        with_reducible rfl
                      rotate_left
                      · simp only [Act.put, List.setIfInBounds_toArray, List.set_cons_zero, List.set_cons_succ, i64_w, i32_w]
                        rfl
                      refine take_ (i := 3) (N := some 32) (v := ?_) (a' := ?_) #[true, true, true, true, false, true, true, false, false, false] rfl rfl (take_ofW HT_.out HW_.out (by kernel_rfl)) (fun _ _ _ h => h) (Or.inl ⟨by rfl, ?_⟩) hHeld ?_ ?_
                      rotate_left
                      · rintro w' ⟨s0, s1⟩
                        go_simp
                        with_reducible rfl
                      rotate_left
                      · simp only [Act.put, List.setIfInBounds_toArray, List.set_cons_zero, List.set_cons_succ, i64_w, i32_w]
                        rfl
                      refine pure_ (i := 4) (N := some 33) (v := ?_) (a' := ?_) #[true, true, true, true, true, true, true, false, false, false] rfl rfl (any_of HT_.out (by kernel_rfl)) (fun _ _ _ h => h) (Or.inl ⟨by rfl, ?_⟩) ?_ ?_
                      rotate_left
                      · intro w'
                        go_simp
                        with_reducible rfl
                      rotate_left
                      · simp only [Act.put, List.setIfInBounds_toArray, List.set_cons_zero, List.set_cons_succ, i64_w, i32_w]
                        rfl
                      refine take_ (i := 7) (N := some 36) (v := ?_) (a' := ?_) #[true, true, true, true, true, true, true, true, false, false] rfl rfl (take_ofW HT_.out HW_.out (by kernel_rfl)) (fun _ _ _ h => h) (Or.inl ⟨by rfl, ?_⟩) hHeld ?_ ?_
                      rotate_left
                      · rintro w' ⟨s0, s1⟩
                        go_simp
                        with_reducible rfl
                      rotate_left
                      · simp only [Act.put, List.setIfInBounds_toArray, List.set_cons_zero, List.set_cons_succ, i64_w, i32_w]
                        rfl
                      refine pure_ (i := 8) (N := some 37) (v := ?_) (a' := ?_) #[true, true, true, true, true, true, true, true, true, false] rfl rfl (any_of HT_.out (by kernel_rfl)) (fun _ _ _ h => h) (Or.inl ⟨by rfl, ?_⟩) ?_ ?_
                      rotate_left
                      · intro w'
                        go_simp
                        with_reducible rfl
                      rotate_left
                      · simp only [Act.put, List.setIfInBounds_toArray, List.set_cons_zero, List.set_cons_succ, i64_w, i32_w]
                        rfl
                      refine pure_ (i := 9) (N := some 38) (v := ?_) (a' := ?_) #[true, true, true, true, true, true, true, true, true, true] rfl rfl (any_of HT_.out (by kernel_rfl)) (fun _ _ _ h => h) (Or.inl ⟨by rfl, ?_⟩) ?_ ?_
                      rotate_left
                      · intro w'
                        go_simp
                        with_reducible rfl
                      rotate_left
                      · simp only [Act.put, List.setIfInBounds_toArray, List.set_cons_zero, List.set_cons_succ, i64_w, i32_w]
                        rfl
                      refine done_ (done_of HT_.out (by kernel_rfl)) ?_
                      try go_wp2
                      have n0_ := Aside0.mk (Kd.R_drew HO_0.out)
                      have n1_ := Aside0.mk (Kd.R_drew HO_145000.out)
                      have n2_ := Aside0.mk (Kd.R_drew HL148_0.out)
                      have n3_ := Aside0.mk (Kd.R_drew HL149_0.out)
                      have n4_ := Aside0.mk (blk_drew BK140.out)
                      have n5_ := Aside0.mk (blk_drew BK144.out)
                      have n6_ := Aside0.mk (Kd.C_drew HR148_0.out)
                      have n7_ := Aside0.mk (Kd.C_drew HR149_0.out)
                      have n8_ := Aside0.mk (below_drew1 HB.out)
                      clear HO_0
                      clear HO_145000
                      clear HL148_0
                      clear HL149_0
                      clear BK140
                      clear BK144
                      clear HR148_0
                      clear HR149_0
                      clear HB
                      have HO_0 := n0_
                      have HO_145000 := n1_
                      have HL148_0 := n2_
                      have HL149_0 := n3_
                      have BK140 := n4_
                      have BK144 := n5_
                      have HR148_0 := n6_
                      have HR149_0 := n7_
                      have HB := n8_
                      clear n0_ n1_ n2_ n3_ n4_ n5_ n6_ n7_ n8_
                      have p150 : 0 ≤ (x5_2 : Int) := of_decide_eq_true (by first | (with_reducible assumption) | assumption)
                      have q150 : x5_2 < (t141.length : Int) := of_decide_eq_true (by first | (with_reducible assumption) | assumption)
                      obtain ⟨ad150, A150_0, c150_0, e150, hx150_0, hl150_0, hi150_0⟩ := at_L3 (Kd.R_reads' HO_0.out).2.2 x5_2 p150 q150
                      obtain rfl : ad148 = ad150 := (by injection e150)
                      obtain ⟨ce150, hce150, hMe150, hcc150⟩ := Kd.R_get HO_0.out [] x5_2 p150 (by first | exact q150 | exact of_decide_eq_true (by first | (with_reducible assumption) | assumption) | (have e_ := (Kd.R_reads' HO_0.out).1; omega))
                      obtain ⟨ve150_0, rfl, ge150_0⟩ := hMe150
                      have hv150_0 := hcc150 0 _ rfl
                      rw [Nat.add_zero, show ((Kd.slice 4 Kd.bool)).sz = 1 from rfl, Nat.mul_one] at hv150_0
                      replace hv150_0 := Option.some.inj (hv150_0.symm.trans hx150_0)
                      rw [hv150_0] at ge150_0
                      have HL150_0 := Aside0.mk (show Kd.R Kd.bool 4 _ _ _ _ (rd_L3 t141 x5_2) from ge150_0)
                      clear hv150_0 ge150_0
                      clear hcc150 hce150
                      have HR150_0 := Aside0.mk hi150_0
                      have HC150_0 := Aside0.mk hl150_0
                      clear hi150_0 hl150_0
                      replace p150 := eq_true p150
                      replace q150 := eq_true q150
                      refine start_ (n := 11) (S := fun w' => w'.cell? ⟨gb144, 0, none⟩ = some (u145000) ∧ w'.cell? ⟨gb144, 1, none⟩ = some (.slice none 0 0) ∧ w'.cell? (ad148.add (x5_2).toNat) = some (.slice A150_0 (rd_L3 t141 x5_2).length c150_0)) (ds := [8, 10]) #[false, false, false, false, false, false, false, false, false, false, false] (by kernel_rfl) rfl rfl ⟨(blk_cell BK144.out 0).trans rfl, (blk_cell BK144.out 1).trans rfl, hx150_0⟩ (fun hHeld => ?_); refine with_tabW spec_PictureOf.tab10 spec_PictureOf.bits10 (fun HT_ HW_ => ?_)
                      generalize w26.drew = w27 at HO_0 HO_145000 HL148_0 HL149_0 BK140 BK144 HR148_0 HR149_0 HB HL150_0 HR150_0 hx150_0 hHeld ⊢
                      refine pure_ (i := 0) (N := some 40) (v := ?_) (a' := ?_) #[true, false, false, false, false, false, false, false, false, false, false] rfl rfl (any_of HT_.out (by kernel_rfl)) (fun _ _ _ h => h) (Or.inl ⟨by rfl, ?_⟩) ?_ ?_
                      rotate_left
                      · intro w'
                        go_simp
                        with_reducible rfl
                      rotate_left
                      · simp only [Act.put, List.setIfInBounds_toArray, List.set_cons_zero, List.set_cons_succ, i64_w, i32_w]
                        rfl
                      refine pure_ (i := 2) (N := some 42) (v := ?_) (a' := ?_) #[true, false, true, false, false, false, false, false, false, false, false] rfl rfl (any_of HT_.out (by kernel_rfl)) (fun _ _ _ h => h) (Or.inl ⟨by rfl, ?_⟩) ?_ ?_
                      rotate_left
                      · intro w'
                        go_simp
                        with_reducible rfl
                      rotate_left
                      · simp only [Act.put, List.setIfInBounds_toArray, List.set_cons_zero, List.set_cons_succ, i64_w, i32_w]
                        rfl
                      refine pure_ (i := 3) (N := some 43) (v := ?_) (a' := ?_) #[true, false, true, true, false, false, false, false, false, false, false] rfl rfl (any_of HT_.out (by kernel_rfl)) (fun _ _ _ h => h) (Or.inl ⟨by rfl, ?_⟩) ?_ ?_
                      rotate_left
                      · intro w'
                        go_simp
                        with_reducible rfl
                      rotate_left
                      · simp only [Act.put, List.setIfInBounds_toArray, List.set_cons_zero, List.set_cons_succ, i64_w, i32_w]
                        rfl
                      refine pure_ (i := 4) (N := some 44) (v := ?_) (a' := ?_) #[true, false, true, true, true, false, false, false, false, false, false] rfl rfl (any_of HT_.out (by kernel_rfl)) (fun _ _ _ h => h) (Or.inl ⟨by rfl, ?_⟩) ?_ ?_
                      rotate_left
                      · intro w'
                        go_simp
                        with_reducible rfl
                      rotate_left
                      · simp only [Act.put, List.setIfInBounds_toArray, List.set_cons_zero, List.set_cons_succ, i64_w, i32_w]
                        rfl
                      refine take_ (i := 1) (N := some 41) (v := ?_) (a' := ?_) #[true, true, true, true, true, false, false, false, false, false, false] rfl rfl (take_ofW HT_.out HW_.out (by kernel_rfl)) (fun _ _ _ h => h) (Or.inl ⟨by rfl, ?_⟩) hHeld ?_ ?_
                      rotate_left
                      · rintro w' ⟨s0, s1, s2⟩
                        go_simp
                        with_reducible rfl
                      rotate_left
                      · simp only [Act.put, List.setIfInBounds_toArray, List.set_cons_zero, List.set_cons_succ, i64_w, i32_w]
                        rfl
                      refine take_ (i := 5) (N := some 45) (v := ?_) (a' := ?_) #[true, true, true, true, true, true, false, false, false, false, false] rfl rfl (take_ofW HT_.out HW_.out (by kernel_rfl)) (fun _ _ _ h => h) (Or.inl ⟨by rfl, ?_⟩) hHeld ?_ ?_
                      rotate_left
                      · rintro w' ⟨s0, s1, s2⟩
                        go_simp
                        with_reducible rfl
                      rotate_left
                      · simp only [Act.put, List.setIfInBounds_toArray, List.set_cons_zero, List.set_cons_succ, i64_w, i32_w]
                        rfl
                      refine one_ (i := 6) (N := some 46) #[true, true, true, true, true, true, true, false, false, false, false] rfl rfl (one_of HT_.out (by kernel_rfl)) (by decide) (fun K hK => ?_)
                      refine goes_ Try.func62 (by kernel_rfl) rfl #[.slice A150_0 (rd_L3 t141 x5_2).length c150_0] (by rfl) rfl rfl (by (try simp only [List.map_toArray, List.map_cons, List.map_nil]); first | done | rfl | (simp only [List.length_drop, List.length_take]; rfl)) ?_
                      with_reducible refine (spec_ClueOf.calls k2 _ _ (rd_L3 t141 x5_2) t151 _ ?side1 ?side2 A23.out).mono ?_
                      (case side1 => repeat (first | exact (by repeat (first | (with_reducible exact HR150_0.out) | (with_reducible refine Kd.C_alloc ?_ _) | (with_reducible refine Kd.C_drewN ?_ _) | (with_reducible refine Kd.C_drew ?_) | exact HR150_0.out)) | (with_reducible refine Kd.C_alloc ?_ _) | (with_reducible refine Kd.C_drewN ?_ _) | (with_reducible refine Kd.C_drew ?_)))
                      (case side2 => exact HC150_0.out)
                      rintro e w28 ⟨v152, rfl, ho0, hb⟩
                      have HS2_ := (hb.cell (World.block_lt_of_cell? _ _ (hHeld.2.2))).trans (hHeld.2.2)
                      refine ⟨_, rfl, ?_⟩
                      have n0_ := Aside0.mk (Kd.R_below (by (with_reducible repeat (first | apply Kd.R_alloc | apply Kd.R_drewN | apply Kd.R_drew)); exact HO_0.out) hb)
                      have n1_ := Aside0.mk (Kd.R_elder' (by (with_reducible repeat (first | apply Kd.R_alloc | apply Kd.R_drewN | apply Kd.R_drew)); exact HO_145000.out) (Kd.R_base ho0) hb)
                      have n2_ := Aside0.mk (Kd.R_below (by (with_reducible repeat (first | apply Kd.R_alloc | apply Kd.R_drewN | apply Kd.R_drew)); exact HL148_0.out) hb)
                      have n3_ := Aside0.mk (Kd.R_below (by (with_reducible repeat (first | apply Kd.R_alloc | apply Kd.R_drewN | apply Kd.R_drew)); exact HL149_0.out) hb)
                      have n4_ := Aside0.mk (Kd.R_below (by (with_reducible repeat (first | apply Kd.R_alloc | apply Kd.R_drewN | apply Kd.R_drew)); exact HL150_0.out) hb)
                      have n5_ := Aside0.mk (Kd.R_lower ho0 (below_size (by repeat (first | (with_reducible first | exact HB.out | apply below_alloc | apply pw_below_drewN | apply below_drew1 | refine below_set ?_ GE140.out | refine below_set ?_ GE144.out) | exact HB.out))))
                      have n6_ := Aside0.mk (blk_below (g := gb140) (o := .cells #[.slice none 0 0, .slice none 0 0] 25 (0, 0)) (by (with_reducible repeat (first | refine blk_drewN ?_ _ | refine blk_drew ?_ | refine blk_alloc ?_ _)); exact BK140.out) hb)
                      have n7_ := Aside0.mk (blk_below (g := gb144) (o := .cells #[u145000, .slice none 0 0] 25 (0, 0)) (by (with_reducible repeat (first | refine blk_drewN ?_ _ | refine blk_drew ?_ | refine blk_alloc ?_ _)); exact BK144.out) hb)
                      have n8_ := Aside0.mk (Kd.C_below (by repeat (first | (with_reducible exact HR148_0.out) | (with_reducible refine Kd.C_alloc ?_ _) | (with_reducible refine Kd.C_drewN ?_ _) | (with_reducible refine Kd.C_drew ?_) | exact HR148_0.out)) hb)
                      have n9_ := Aside0.mk (Kd.C_below (by repeat (first | (with_reducible exact HR149_0.out) | (with_reducible refine Kd.C_alloc ?_ _) | (with_reducible refine Kd.C_drewN ?_ _) | (with_reducible refine Kd.C_drew ?_) | exact HR149_0.out)) hb)
                      have n10_ := Aside0.mk (Kd.C_below (by repeat (first | (with_reducible exact HR150_0.out) | (with_reducible refine Kd.C_alloc ?_ _) | (with_reducible refine Kd.C_drewN ?_ _) | (with_reducible refine Kd.C_drew ?_) | exact HR150_0.out)) hb)
                      have n11_ := Aside0.mk (below_step (by repeat (first | (with_reducible first | exact HB.out | apply below_alloc | apply pw_below_drewN | apply below_drew1 | refine below_set ?_ GE140.out | refine below_set ?_ GE144.out) | exact HB.out)) hb)
                      clear HO_0
                      clear HO_145000
                      clear HL148_0
                      clear HL149_0
                      clear HL150_0
                      clear BK140
                      clear BK144
                      clear HR148_0
                      clear HR149_0
                      clear HR150_0
                      clear HB
                      have HO_0 := n0_
                      have HO_145000 := n1_
                      have HL148_0 := n2_
                      have HL149_0 := n3_
                      have HL150_0 := n4_
                      have HO153 := n5_
                      have BK140 := n6_
                      have BK144 := n7_
                      have HR148_0 := n8_
                      have HR149_0 := n9_
                      have HR150_0 := n10_
                      have HB := n11_
                      clear n0_ n1_ n2_ n3_ n4_ n5_ n6_ n7_ n8_ n9_ n10_ n11_
                      (try clear hb)
                      (try clear hb2)
                      (try clear hk)
                      (try clear hi)
                      (try clear ho0)
                      obtain ⟨Ao30, co30, eo30⟩ := Kd.R_slice HO153.out
                      (first | subst eo30 | (injection eo30 with f1_ f2_ f3_; have f4_ := f1_.symm; have f5_ := f3_.symm; clear f1_ f2_ f3_; subst f4_; subst f5_))
                      refine hK.out _ _ ⟨(blk_cell BK144.out 0).trans rfl, (blk_cell BK144.out 1).trans rfl, HS2_⟩ (fun hHeld => ?_)
                      clear hK K
                      refine norm_ (a' := ?_) ?_ ?_
                      rotate_left
                      · show Act.put _ (some 46) _ = _
                        simp only [Act.put, List.setIfInBounds_toArray, List.set_cons_zero, List.set_cons_succ, i64_w, i32_w]
                        rfl
                      refine one_ (i := 7) (N := some 47) #[true, true, true, true, true, true, true, true, false, false, false] rfl rfl (one_of HT_.out (by kernel_rfl)) (by decide) (fun K hK => ?_)
                      refine value_ (w1 := ?_) (v := ?_) (by rfl) rfl ?_ ?_
                      rotate_left 2
                      · go_simp
                        constructor
                        · rfl
                        · rfl
                      refine hK.out _ _ ⟨(blk_cell (blk_alloc BK144.out _) 0).trans rfl, (blk_cell (blk_alloc BK144.out _) 1).trans rfl, (World.cell?_alloc_lt _ _ _ (World.block_lt_of_cell? _ _ (hHeld.2.2))).trans (hHeld.2.2)⟩ (fun hHeld => ?_)
                      clear hK K
                      refine norm_ (a' := ?_) ?_ ?_
                      rotate_left
                      · show Act.put _ (some 47) _ = _
                        simp only [Act.put, List.setIfInBounds_toArray, List.set_cons_zero, List.set_cons_succ, i64_w, i32_w]
                        rfl
                      refine last_ (i := 8) (N := some 48) #[true, true, true, true, true, true, true, true, true, false, false] rfl rfl (one_of HT_.out (by kernel_rfl)) (by decide) (fun K hK => ?_)
                      refine Kd.R_append_step (Kd.slice 3 (Kd.int .i64)) (w0 := w) w.heap.size (by rfl) (.tmp 41) (.tmp 47) 23 36 (.slice none 0 0) 24 rfl Try.underlying23 info36 rfl (by decide) (by omega) u145000 x145000_2 t151 [.slice Ao30 t151.length co30] (fun _ => True) (fun k_ => ((fun _ => True)) k_ ∧ some k_ ≠ (u145000 : Value).ownBlock) rfl rfl ?aP (fun _ hk => hk) ?aF ?aO ?aB ?aS ?aL ?_
                      (case aP => exact Kd.M_row (Kd.R_mono (Kd.R_apart' (HO153.out) (Kd.R_typed HO_145000.out) (by decide)) (fun k_ hk => ⟨trivial, hk.2⟩)))
                      (case aB => exact (by repeat (first | (with_reducible first | exact HB.out | apply below_alloc | apply pw_below_drewN | apply below_drew1 | refine below_set ?_ GE140.out | refine below_set ?_ GE144.out) | exact HB.out)))
                      (case aF => exact (fun _ _ => trivial))
                      (case aO => exact (by (with_reducible repeat (first | apply Kd.R_alloc | apply Kd.R_drewN | apply Kd.R_drew)); exact Kd.R_mono HO_145000.out (fun _ hk => trivial)))
                      (case aS => exact (below_size (by repeat (first | (with_reducible first | exact HB.out | apply below_alloc | apply pw_below_drewN | apply below_drew1 | refine below_set ?_ GE140.out | refine below_set ?_ GE144.out) | exact HB.out))))
                      (case aL => have := LMc24.out; omega)
                      intro v155 w29 ho hb hg hat
                      rw [← Ny154.out] at ho
                      have n0_ := Aside0.mk (Kd.R_over' (by (with_reducible repeat (first | apply Kd.R_alloc | apply Kd.R_drewN | apply Kd.R_drew)); exact HO_0.out) (Kd.R_typed (by (with_reducible repeat (first | apply Kd.R_alloc | apply Kd.R_drewN | apply Kd.R_drew)); exact HO_145000.out)) (by decide) hg)
                      have n1_ := Aside0.mk (blk_grown (g := gb140) (o := .cells #[.slice none 0 0, .slice none 0 0] 25 (0, 0)) (by (with_reducible repeat (first | refine blk_drewN ?_ _ | refine blk_drew ?_ | refine blk_alloc ?_ _)); exact BK140.out) hg (Kd.R_ne HO_145000.out BK140.out (by decide)))
                      have n2_ := Aside0.mk (blk_grown (g := gb144) (o := .cells #[u145000, .slice none 0 0] 25 (0, 0)) (by (with_reducible repeat (first | refine blk_drewN ?_ _ | refine blk_drew ?_ | refine blk_alloc ?_ _)); exact BK144.out) hg (Kd.R_ne HO_145000.out BK144.out (by decide)))
                      have n3_ := Aside0.mk (Kd.R_over' (by (with_reducible repeat (first | apply Kd.R_alloc | apply Kd.R_drewN | apply Kd.R_drew)); exact HL148_0.out) (Kd.R_typed (by (with_reducible repeat (first | apply Kd.R_alloc | apply Kd.R_drewN | apply Kd.R_drew)); exact HO_145000.out)) (by decide) hg)
                      have n4_ := Aside0.mk (Kd.R_over' (by (with_reducible repeat (first | apply Kd.R_alloc | apply Kd.R_drewN | apply Kd.R_drew)); exact HL149_0.out) (Kd.R_typed (by (with_reducible repeat (first | apply Kd.R_alloc | apply Kd.R_drewN | apply Kd.R_drew)); exact HO_145000.out)) (by decide) hg)
                      have n5_ := Aside0.mk (Kd.R_over' (by (with_reducible repeat (first | apply Kd.R_alloc | apply Kd.R_drewN | apply Kd.R_drew)); exact HL150_0.out) (Kd.R_typed (by (with_reducible repeat (first | apply Kd.R_alloc | apply Kd.R_drewN | apply Kd.R_drew)); exact HO_145000.out)) (by decide) hg)
                      have n6_ := Aside0.mk (hb)
                      have n7_ := Aside0.mk (ho)
                      clear HO_0
                      clear BK140
                      clear BK144
                      clear HL148_0
                      clear HL149_0
                      clear HL150_0
                      clear HB
                      clear HO_145000
                      clear HO153
                      have HO_0 := n0_
                      have BK140 := n1_
                      have BK144 := n2_
                      have HL148_0 := n3_
                      have HL149_0 := n4_
                      have HL150_0 := n5_
                      have HB := n6_
                      have HO156 := n7_
                      clear n0_ n1_ n2_ n3_ n4_ n5_ n6_ n7_
                      clear ho hb hg hat
                      obtain ⟨Ao31, co31, eo31⟩ := Kd.R_slice HO156.out
                      (first | subst eo31 | (injection eo31 with f1_ f2_ f3_; have f4_ := f1_.symm; have f5_ := f3_.symm; clear f1_ f2_ f3_; subst f4_; subst f5_))
                      refine hK.out _ _ ?_
                      clear hK K
                      refine norm_ (a' := ?_) ?_ ?_
                      rotate_left
                      · show Act.put _ (some 48) _ = _
                        simp only [Act.put, List.setIfInBounds_toArray, List.set_cons_zero, List.set_cons_succ, i64_w, i32_w]
                        rfl
                      refine pure_ (i := 9) (N := some 49) (v := ?_) (a' := ?_) #[true, true, true, true, true, true, true, true, true, true, false] rfl rfl (any_of HT_.out (by kernel_rfl)) (fun _ _ _ h => h) (Or.inl ⟨by rfl, ?_⟩) ?_ ?_
                      rotate_left
                      · intro w'
                        go_simp
                        with_reducible rfl
                      rotate_left
                      · simp only [Act.put, List.setIfInBounds_toArray, List.set_cons_zero, List.set_cons_succ, i64_w, i32_w]
                        rfl
                      refine last_ (i := 10) (N := none) #[true, true, true, true, true, true, true, true, true, true, true] rfl rfl (one_of HT_.out (by kernel_rfl)) (by decide) (fun K hK => ?_)
                      have hs32 : w29.cell? ⟨gb144, 0, none⟩ = some (u145000) := (blk_cell BK144.out 0).trans rfl
                      have hfs32 := blk_frozen BK144.out 0
                      have hns32_0 := NB140_144.out
                      have hms32_0 := NB144_140.out
                      refine skip_ (w1 := ?_) (by rfl) rfl ?_ ?_
                      rotate_left
                      · go_simp
                        rfl
                      refine hK.out _ _ ?_
                      clear hK K
                      refine done_ (done_of HT_.out (by kernel_rfl)) ?_
                      try go_wp2
                      go_roundg k2
                      case measure => have := HJ2.out; have := HK2.out; omega
                      case rel => exact ⟨(wrap64 (x5_2 + 1)), (y154), (.slice Ao31 y154.length co31), (by first | rfl | (simp; done) | (simp [*]; done)), H', ⟨by have := HJ2.out; have := HK2.out; omega⟩, ⟨by (with_reducible repeat (first | apply Kd.R_alloc | apply Kd.R_drewN | apply Kd.R_drew)); exact Kd.R_mono (Kd.R_far (p := ⟨gb144, 0, none⟩) (Kd.R_types HO_0.out BK144.out (by decide)) (fun _ hk => hk.2) (.slice Ao31 y154.length co31)) (fun _ hk => trivial)⟩, ⟨by (with_reducible repeat (first | apply Kd.R_alloc | apply Kd.R_drewN | apply Kd.R_drew)); exact Kd.R_mono (Kd.R_far (p := ⟨gb144, 0, none⟩) (Kd.R_types HO156.out BK144.out (by decide)) (fun _ hk => hk.2) (.slice Ao31 y154.length co31)) (fun _ hk => trivial)⟩, ⟨by (with_reducible repeat (first | refine blk_drewN ?_ _ | refine blk_drew ?_ | refine blk_alloc ?_ _)); refine blk_far ?_ NB140_144.out _; (with_reducible repeat (first | refine blk_drewN ?_ _ | refine blk_drew ?_ | refine blk_alloc ?_ _)); exact BK140.out⟩, ⟨by (with_reducible repeat (first | refine blk_drewN ?_ _ | refine blk_drew ?_ | refine blk_alloc ?_ _)); refine blk_put (cs := #[u145000, .slice none 0 0]) ?_ 0 _ rfl; (with_reducible repeat (first | refine blk_drewN ?_ _ | refine blk_drew ?_ | refine blk_alloc ?_ _)); exact BK144.out⟩, ⟨by repeat (first | (with_reducible first | exact HB.out | apply below_alloc | apply pw_below_drewN | apply below_drew1 | refine below_set ?_ GE140.out | refine below_set ?_ GE144.out) | exact HB.out)⟩⟩
                    · rw [if_neg c24] at H
                      exact absurd H (by simp)
                  · rw [if_neg c22] at H
                    have c22b0 : (((rd_L3 t141 x5_2).length : Int) == ((rd_L3 t141 0).length : Int)) = false := beq_eq_false_iff_ne.mpr c22
                    have c22b1 : (((rd_L3 t141 x5_2).length : Int) != ((rd_L3 t141 0).length : Int)) = true := bne_iff_ne.mpr c22
                    have c22b2 : ((rd_L3 t141 x5_2).length == (rd_L3 t141 0).length) = false := by first | simpa using c22 | (simp at c22 ⊢; omega)
                    simp only [Option.some.injEq, Prod.mk.injEq] at H
                    obtain ⟨rfl, rfl, rfl⟩ := H
                    obtain ⟨Ao33, co33, eo33⟩ := Kd.R_slice HO_0.out
                    subst eo33
                    try go_wp2
                    have n0_ := Aside0.mk (Kd.R_drew HO_0.out)
                    have n1_ := Aside0.mk (Kd.R_drew HO_145000.out)
                    have n2_ := Aside0.mk (blk_drew BK140.out)
                    have n3_ := Aside0.mk (blk_drew BK144.out)
                    have n4_ := Aside0.mk (below_drew1 HB.out)
                    clear HO_0
                    clear HO_145000
                    clear BK140
                    clear BK144
                    clear HB
                    have HO_0 := n0_
                    have HO_145000 := n1_
                    have BK140 := n2_
                    have BK144 := n3_
                    have HB := n4_
                    clear n0_ n1_ n2_ n3_ n4_
                    have p148 : 0 ≤ (x5_2 : Int) := of_decide_eq_true (by first | (with_reducible assumption) | assumption)
                    have q148 : x5_2 < (t141.length : Int) := of_decide_eq_true (by first | (with_reducible assumption) | assumption)
                    obtain ⟨ad148, A148_0, c148_0, e148, hx148_0, hl148_0, hi148_0⟩ := at_L3 (Kd.R_reads' HO_0.out).2.2 x5_2 p148 q148
                    cases e148
                    obtain ⟨ce148, hce148, hMe148, hcc148⟩ := Kd.R_get HO_0.out [] x5_2 p148 (by first | exact q148 | exact of_decide_eq_true (by first | (with_reducible assumption) | assumption) | (have e_ := (Kd.R_reads' HO_0.out).1; omega))
                    obtain ⟨ve148_0, rfl, ge148_0⟩ := hMe148
                    have hv148_0 := hcc148 0 _ rfl
                    rw [Nat.add_zero, show ((Kd.slice 4 Kd.bool)).sz = 1 from rfl, Nat.mul_one] at hv148_0
                    replace hv148_0 := Option.some.inj (hv148_0.symm.trans hx148_0)
                    rw [hv148_0] at ge148_0
                    have HL148_0 := Aside0.mk (show Kd.R Kd.bool 4 _ _ _ _ (rd_L3 t141 x5_2) from ge148_0)
                    clear hv148_0 ge148_0
                    clear hcc148 hce148
                    have HR148_0 := Aside0.mk hi148_0
                    have HC148_0 := Aside0.mk hl148_0
                    clear hi148_0 hl148_0
                    replace p148 := eq_true p148
                    replace q148 := eq_true q148
                    have p149 : 0 ≤ (0 : Int) := (by omega)
                    have q149 : 0 < (t141.length : Int) := of_decide_eq_true (by first | (with_reducible assumption) | assumption)
                    obtain ⟨ad149, A149_0, c149_0, e149, hx149_0, hl149_0, hi149_0⟩ := at_L3 (Kd.R_reads' HO_0.out).2.2 0 p149 q149
                    obtain rfl : ad148 = ad149 := (by injection e149)
                    obtain ⟨ce149, hce149, hMe149, hcc149⟩ := Kd.R_get HO_0.out [] 0 p149 (by first | exact q149 | exact of_decide_eq_true (by first | (with_reducible assumption) | assumption) | (have e_ := (Kd.R_reads' HO_0.out).1; omega))
                    obtain ⟨ve149_0, rfl, ge149_0⟩ := hMe149
                    have hv149_0 := hcc149 0 _ rfl
                    rw [Nat.add_zero, show ((Kd.slice 4 Kd.bool)).sz = 1 from rfl, Nat.mul_one] at hv149_0
                    replace hv149_0 := Option.some.inj (hv149_0.symm.trans hx149_0)
                    rw [hv149_0] at ge149_0
                    have HL149_0 := Aside0.mk (show Kd.R Kd.bool 4 _ _ _ _ (rd_L3 t141 0) from ge149_0)
                    clear hv149_0 ge149_0
                    clear hcc149 hce149
                    have qi149 : (0 < t141.length) = True := eq_true (by omega)
                    (try rw [show ((0 : Int)).toNat = 0 from rfl] at hx149_0)
                    (try rw [Addr.add_zero'] at hx149_0)
                    have HR149_0 := Aside0.mk hi149_0
                    have HC149_0 := Aside0.mk hl149_0
                    clear hi149_0 hl149_0
                    replace p149 := eq_true p149
                    replace q149 := eq_true q149
                    refine start_ (n := 10) (S := fun w' => w'.cell? (ad148.add (x5_2).toNat) = some (.slice A148_0 (rd_L3 t141 x5_2).length c148_0) ∧ w'.cell? ad148 = some (.slice A149_0 (rd_L3 t141 0).length c149_0)) (ds := []) #[false, false, false, false, false, false, false, false, false, false] (by kernel_rfl) rfl rfl ⟨hx148_0, hx149_0⟩ (fun hHeld => ?_); refine with_tabW spec_PictureOf.tab8 spec_PictureOf.bits8 (fun HT_ HW_ => ?_)
                    generalize wr.drew = w34 at HO_0 HO_145000 BK140 BK144 HB HL148_0 HL149_0 HR148_0 HR149_0 hx148_0 hx149_0 hHeld ⊢
                    refine pure_ (i := 0) (N := some 29) (v := ?_) (a' := ?_) #[true, false, false, false, false, false, false, false, false, false] rfl rfl (any_of HT_.out (by kernel_rfl)) (fun _ _ _ h => h) (Or.inl ⟨by rfl, ?_⟩) ?_ ?_
                    rotate_left
                    · intro w'
                      go_simp
                      with_reducible rfl
                    rotate_left
                    · simp only [Act.put, List.setIfInBounds_toArray, List.set_cons_zero, List.set_cons_succ, i64_w, i32_w]
                      rfl
                    refine pure_ (i := 1) (N := some 30) (v := ?_) (a' := ?_) #[true, true, false, false, false, false, false, false, false, false] rfl rfl (any_of HT_.out (by kernel_rfl)) (fun _ _ _ h => h) (Or.inl ⟨by rfl, ?_⟩) ?_ ?_
                    rotate_left
                    · intro w'
                      go_simp
                      with_reducible rfl
                    rotate_left
                    · simp only [Act.put, List.setIfInBounds_toArray, List.set_cons_zero, List.set_cons_succ, i64_w, i32_w]
                      rfl
                    refine pure_ (i := 2) (N := some 31) (v := ?_) (a' := ?_) #[true, true, true, false, false, false, false, false, false, false] rfl rfl (any_of HT_.out (by kernel_rfl)) (fun _ _ _ h => h) (Or.inl ⟨by rfl, ?_⟩) ?_ ?_
                    rotate_left
                    · intro w'
                      go_simp
                      with_reducible rfl
                    rotate_left
                    · simp only [Act.put, List.setIfInBounds_toArray, List.set_cons_zero, List.set_cons_succ, i64_w, i32_w]
                      rfl
                    refine pure_ (i := 5) (N := some 34) (v := ?_) (a' := ?_) #[true, true, true, false, false, true, false, false, false, false] rfl rfl (any_of HT_.out (by kernel_rfl)) (fun _ _ _ h => h) (Or.inl ⟨by rfl, ?_⟩) ?_ ?_
                    rotate_left
                    · intro w'
                      go_simp
                      with_reducible rfl
                    rotate_left
                    · simp only [Act.put, List.setIfInBounds_toArray, List.set_cons_zero, List.set_cons_succ, i64_w, i32_w]
                      rfl
                    refine pure_ (i := 6) (N := some 35) (v := ?_) (a' := ?_) #[true, true, true, false, false, true, true, false, false, false] rfl rfl (any_of HT_.out (by kernel_rfl)) (fun _ _ _ h => h) (Or.inl ⟨by rfl, ?_⟩) ?_ ?_
                    rotate_left
                    · intro w'
                      go_simp
                      with_reducible rfl
                    rotate_left
                    · simp only [Act.put, List.setIfInBounds_toArray, List.set_cons_zero, List.set_cons_succ, i64_w, i32_w]
                      rfl
                    refine take_ (i := 3) (N := some 32) (v := ?_) (a' := ?_) #[true, true, true, true, false, true, true, false, false, false] rfl rfl (take_ofW HT_.out HW_.out (by kernel_rfl)) (fun _ _ _ h => h) (Or.inl ⟨by rfl, ?_⟩) hHeld ?_ ?_
                    rotate_left
                    · rintro w' ⟨s0, s1⟩
                      go_simp
                      with_reducible rfl
                    rotate_left
                    · simp only [Act.put, List.setIfInBounds_toArray, List.set_cons_zero, List.set_cons_succ, i64_w, i32_w]
                      rfl
                    refine pure_ (i := 4) (N := some 33) (v := ?_) (a' := ?_) #[true, true, true, true, true, true, true, false, false, false] rfl rfl (any_of HT_.out (by kernel_rfl)) (fun _ _ _ h => h) (Or.inl ⟨by rfl, ?_⟩) ?_ ?_
                    rotate_left
                    · intro w'
                      go_simp
                      with_reducible rfl
                    rotate_left
                    · simp only [Act.put, List.setIfInBounds_toArray, List.set_cons_zero, List.set_cons_succ, i64_w, i32_w]
                      rfl
                    refine take_ (i := 7) (N := some 36) (v := ?_) (a' := ?_) #[true, true, true, true, true, true, true, true, false, false] rfl rfl (take_ofW HT_.out HW_.out (by kernel_rfl)) (fun _ _ _ h => h) (Or.inl ⟨by rfl, ?_⟩) hHeld ?_ ?_
                    rotate_left
                    · rintro w' ⟨s0, s1⟩
                      go_simp
                      with_reducible rfl
                    rotate_left
                    · simp only [Act.put, List.setIfInBounds_toArray, List.set_cons_zero, List.set_cons_succ, i64_w, i32_w]
                      rfl
                    refine pure_ (i := 8) (N := some 37) (v := ?_) (a' := ?_) #[true, true, true, true, true, true, true, true, true, false] rfl rfl (any_of HT_.out (by kernel_rfl)) (fun _ _ _ h => h) (Or.inl ⟨by rfl, ?_⟩) ?_ ?_
                    rotate_left
                    · intro w'
                      go_simp
                      with_reducible rfl
                    rotate_left
                    · simp only [Act.put, List.setIfInBounds_toArray, List.set_cons_zero, List.set_cons_succ, i64_w, i32_w]
                      rfl
                    refine pure_ (i := 9) (N := some 38) (v := ?_) (a' := ?_) #[true, true, true, true, true, true, true, true, true, true] rfl rfl (any_of HT_.out (by kernel_rfl)) (fun _ _ _ h => h) (Or.inl ⟨by rfl, ?_⟩) ?_ ?_
                    rotate_left
                    · intro w'
                      go_simp
                      with_reducible rfl
                    rotate_left
                    · simp only [Act.put, List.setIfInBounds_toArray, List.set_cons_zero, List.set_cons_succ, i64_w, i32_w]
                      rfl
                    refine done_ (done_of HT_.out (by kernel_rfl)) ?_
                    have hnb35 := NB140_144.out
                    have hnc35 := NB144_140.out
                    have hcz36_0 : w34.cell? ⟨gb140, 0, none⟩ = some (.slice none 0 0) := (blk_cell BK140.out 0).trans rfl
                    have hcz36_1 : w34.cell? ⟨gb140, 1, none⟩ = some (.slice none 0 0) := (blk_cell BK140.out 1).trans rfl
                    have hfz36_0 := blk_frozen BK140.out 0
                    have hfz36_1 := blk_frozen BK140.out 1
                    try go_wp2
                    refine bodyPost_ret (results_ct rfl _ _ gb140 25 #[.slice none 0 0, .slice none 0 0] (0, 0) _ rfl (by (with_reducible repeat (first | refine blk_drewN ?_ _ | refine blk_drew ?_ | refine blk_alloc ?_ _)); refine blk_put (cs := #[.slice none 0 0, .slice none 0 0]) ?_ 1 _ rfl; (with_reducible repeat (first | refine blk_drewN ?_ _ | refine blk_drew ?_ | refine blk_alloc ?_ _)); refine blk_put (cs := #[.slice none 0 0, .slice none 0 0]) ?_ 0 _ rfl; (with_reducible repeat (first | refine blk_drewN ?_ _ | refine blk_drew ?_ | refine blk_alloc ?_ _)); exact BK140.out) Try.underlying25 rfl (by kernel_rfl)) rfl ?_
                    exact ⟨_, _, by first | rfl | (simp [errW_none, errW_some] <;> rfl) | (simp [*, errW_none, errW_some] <;> rfl), by first | exact Kd.R_nil _ _ _ _ _ | exact Kd.N_nil _ _ _ _ _ | exact Kd.V_nil _ _ _ _ _ | exact Kd.Q_nil _ _ _ _ _ | exact Kd.S_nil _ _ _ _ _, by first | exact Kd.R_nil _ _ _ _ _ | exact Kd.N_nil _ _ _ _ _ | exact Kd.V_nil _ _ _ _ _ | exact Kd.Q_nil _ _ _ _ _ | exact Kd.S_nil _ _ _ _ _, by repeat (first | (with_reducible first | exact HB.out | apply below_alloc | apply pw_below_drewN | apply below_drew1 | refine below_set ?_ GE140.out | refine below_set ?_ GE144.out) | exact HB.out)⟩
                · rw [if_neg c21] at H
                  exact absurd H (by simp)
              · rw [if_neg c20] at H
                exact absurd H (by simp)
            · rw [if_neg c19] at H
              have c19b0 : decide (x5_2 < (t141.length : Int)) = false := decide_eq_false c19
              clear c19
              have H' := Aside0.mk H
              clear H
              obtain ⟨Ao37, co37, eo37⟩ := Kd.R_slice HO_0.out
              subst eo37
              go_wp2
              go_loopg [6] k2 (fun kq v6 w' => ∃ (x6_3 : Int) (x145001_3 : List (List Int)) (u145001 : Value), v6 = .int .i64 x6_3 ∧ Aside0 (spec_PictureOf.l1 kq t141 x6_3 x145000_2 x145001_3 = some (r1, r2, r3)) ∧ Aside0 (kq ≤ k2) ∧ Aside0 (Kd.R (Kd.slice 4 Kd.bool) 37 w' w.heap.size (fun _ => True) (.slice Ao37 t141.length co37) t141) ∧ Aside0 (Kd.R (Kd.slice 3 (Kd.int .i64)) 36 w' w.heap.size (fun k_ => some k_ ≠ (u145001 : Value).ownBlock) u145000 x145000_2) ∧ Aside0 (Kd.R (Kd.slice 3 (Kd.int .i64)) 36 w' w.heap.size (fun k_ => some k_ ≠ (u145000 : Value).ownBlock) u145001 x145001_3) ∧ Aside0 (w'.heap[gb140]? = some (.cells #[(.slice none 0 0), (.slice none 0 0)] 25 (0, 0))) ∧ Aside0 (w'.heap[gb144]? = some (.cells #[u145000, u145001] 25 (0, 0))) ∧ Aside0 (Below w.heap.size w w'))
              case atStart => exact ⟨(0), (([] : List (List Int))), (.slice none 0 0), (by first | rfl | (simp; done) | (simp [*]; done)), H', ⟨Nat.le_refl _⟩, ⟨by (with_reducible repeat (first | apply Kd.R_alloc | apply Kd.R_drewN | apply Kd.R_drew)); exact HO_0.out⟩, ⟨by (with_reducible repeat (first | apply Kd.R_alloc | apply Kd.R_drewN | apply Kd.R_drew)); exact Kd.R_mono HO_145000.out (fun _ hk => (by simp [Value.ownBlock]))⟩, ⟨by first | exact Kd.R_nil _ _ _ _ _ | exact Kd.N_nil _ _ _ _ _ | exact Kd.V_nil _ _ _ _ _ | exact Kd.Q_nil _ _ _ _ _ | exact Kd.S_nil _ _ _ _ _⟩, ⟨by (with_reducible repeat (first | refine blk_drewN ?_ _ | refine blk_drew ?_ | refine blk_alloc ?_ _)); exact BK140.out⟩, ⟨by (with_reducible repeat (first | refine blk_drewN ?_ _ | refine blk_drew ?_ | refine blk_alloc ?_ _)); exact BK144.out⟩, ⟨by repeat (first | (with_reducible first | exact HB.out | apply below_alloc | apply pw_below_drewN | apply below_drew1 | refine below_set ?_ GE140.out | refine below_set ?_ GE144.out) | exact HB.out)⟩⟩
              case round =>
                clear H'
                try clear c1
                try clear p1
                try clear q1
                try clear hx1
                try clear qi1
                try clear c2
                try clear p2
                try clear c3
                try clear c6
                try clear p6
                try clear c14
                try clear p14
                try clear q14
                try clear hx14
                try clear qi14
                try clear c15
                try clear p15
                try clear q15
                try clear hx15
                try clear c19
                try clear c19b0
                try clear c20
                try clear c20b0
                try clear c21
                try clear c21b0
                try clear c21b1
                try clear c22
                try clear c22b0
                try clear c22b1
                try clear c22b2
                try clear c24
                try clear c35
                try clear hcz36_0
                try clear hcz36_1
                try clear hfz36_0
                try clear hfz36_1
                try clear hx148_0
                try clear hx149_0
                try clear hx150_0
                try clear p146
                try clear p148
                try clear p149
                try clear p150
                try clear p2
                try clear q1
                try clear q14
                try clear q146
                try clear q148
                try clear q149
                try clear q150
                obtain ⟨x6_3, x145001_3, u145001, rfl, HA, HK3, HO_0, HO_145000, HO_145001, BK140, BK144, HB⟩ := hrel
                cases gk with
                | zero => exact absurd HA.out (by simp [spec_PictureOf.l1])
                | succ k3 =>
                  have H := HA.out
                  clear HA
                  simp only [spec_PictureOf.l1] at H
                  by_cases c38 : 0 < (t141.length : Int)
                  · rw [if_pos c38] at H
                    have c38b0 : decide (0 < (t141.length : Int)) = true := decide_eq_true c38
                    have c38b1 : decide (0 < t141.length) = true := decide_eq_true (by omega)
                    clear c38
                    by_cases c39 : x6_3 < ((rd_L3 t141 0).length : Int)
                    · rw [if_pos c39] at H
                      have c39b0 : decide (x6_3 < ((rd_L3 t141 0).length : Int)) = true := decide_eq_true c39
                      clear c39
                      replace H := Option.bind_eq_some_iff.mp H
                      obtain ⟨t158, A400, H⟩ := H
                      replace H : ((spec_ClueOf.f k3 t158).bind fun t161 => (if x145001_3.length < 5864062014805 then (spec_PictureOf.l1 k3 t141 (wrap64 (x6_3 + 1)) x145000_2 (x145001_3 ++ [t161])) else (none))) = some (r1, r2, r3) := H
                      have A40 := Aside0.mk A400
                      clear A400
                      replace H := Option.bind_eq_some_iff.mp H
                      obtain ⟨t161, A410, H⟩ := H
                      replace H : (if x145001_3.length < 5864062014805 then (spec_PictureOf.l1 k3 t141 (wrap64 (x6_3 + 1)) x145000_2 (x145001_3 ++ [t161])) else (none)) = some (r1, r2, r3) := H
                      have A41 := Aside0.mk A410
                      clear A410
                      by_cases c42 : x145001_3.length < 5864062014805
                      · rw [if_pos c42] at H
                        have LMc42 := Aside0.mk c42
                        clear c42
                        obtain ⟨y164, hy164⟩ : ∃ y_ : List (List Int), y_ = (x145001_3 ++ [t161]) := ⟨_, rfl⟩
                        replace H : (spec_PictureOf.l1 k3 t141 (wrap64 (x6_3 + 1)) x145000_2 y164) = some (r1, r2, r3) := by first | (rw [hy164]; with_reducible exact H) | (have H2_ := (Option.bind_some _ _).symm.trans H; rw [hy164]; with_reducible exact H2_) | (have H2_ := (Option.bind_some _ _).symm.trans H; with_reducible exact H2_) | with_reducible exact H | (rw [hy164]; exact H) | exact H
                        have Ny164 := Aside0.mk hy164
                        clear hy164
                        have H' := Aside0.mk H
                        clear H
                        have p157 : 0 ≤ (0 : Int) := (by omega)
                        have q157 : 0 < (t141.length : Int) := of_decide_eq_true (by first | (with_reducible assumption) | assumption)
                        obtain ⟨ad157, A157_0, c157_0, e157, hx157_0, hl157_0, hi157_0⟩ := at_L3 (Kd.R_reads' HO_0.out).2.2 0 p157 q157
                        cases e157
                        obtain ⟨ce157, hce157, hMe157, hcc157⟩ := Kd.R_get HO_0.out [] 0 p157 (by first | exact q157 | exact of_decide_eq_true (by first | (with_reducible assumption) | assumption) | (have e_ := (Kd.R_reads' HO_0.out).1; omega))
                        obtain ⟨ve157_0, rfl, ge157_0⟩ := hMe157
                        have hv157_0 := hcc157 0 _ rfl
                        rw [Nat.add_zero, show ((Kd.slice 4 Kd.bool)).sz = 1 from rfl, Nat.mul_one] at hv157_0
                        replace hv157_0 := Option.some.inj (hv157_0.symm.trans hx157_0)
                        rw [hv157_0] at ge157_0
                        have HL157_0 := Aside0.mk (show Kd.R Kd.bool 4 _ _ _ _ (rd_L3 t141 0) from ge157_0)
                        clear hv157_0 ge157_0
                        clear hcc157 hce157
                        have qi157 : (0 < t141.length) = True := eq_true (by omega)
                        (try rw [show ((0 : Int)).toNat = 0 from rfl] at hx157_0)
                        (try rw [Addr.add_zero'] at hx157_0)
                        have HR157_0 := Aside0.mk hi157_0
                        have HC157_0 := Aside0.mk hl157_0
                        clear hi157_0 hl157_0
                        replace p157 := eq_true p157
                        replace q157 := eq_true q157
                        try go_wp2
                        have n0_ := Aside0.mk (Kd.R_drew HO_0.out)
                        have n1_ := Aside0.mk (Kd.R_drew HO_145000.out)
                        have n2_ := Aside0.mk (Kd.R_drew HO_145001.out)
                        have n3_ := Aside0.mk (Kd.R_drew HL157_0.out)
                        have n4_ := Aside0.mk (blk_drew BK140.out)
                        have n5_ := Aside0.mk (blk_drew BK144.out)
                        have n6_ := Aside0.mk (Kd.C_drew HR157_0.out)
                        have n7_ := Aside0.mk (below_drew1 HB.out)
                        clear HO_0
                        clear HO_145000
                        clear HO_145001
                        clear HL157_0
                        clear BK140
                        clear BK144
                        clear HR157_0
                        clear HB
                        have HO_0 := n0_
                        have HO_145000 := n1_
                        have HO_145001 := n2_
                        have HL157_0 := n3_
                        have BK140 := n4_
                        have BK144 := n5_
                        have HR157_0 := n6_
                        have HB := n7_
                        clear n0_ n1_ n2_ n3_ n4_ n5_ n6_ n7_
                        refine start_ (n := 10) (S := fun w' => w'.cell? ⟨gb144, 0, none⟩ = some (u145000) ∧ w'.cell? ⟨gb144, 1, none⟩ = some (u145001)) (ds := [9]) #[false, false, false, false, false, false, false, false, false, false] (by kernel_rfl) rfl rfl ⟨(blk_cell BK144.out 0).trans rfl, (blk_cell BK144.out 1).trans rfl⟩ (fun hHeld => ?_); refine with_tabW spec_PictureOf.tab14 spec_PictureOf.bits14 (fun HT_ HW_ => ?_)
                        generalize wr.drew = w43 at HO_0 HO_145000 HO_145001 HL157_0 BK140 BK144 HR157_0 HB hHeld ⊢
                        refine pure_ (i := 0) (N := some 58) (v := ?_) (a' := ?_) #[true, false, false, false, false, false, false, false, false, false] rfl rfl (any_of HT_.out (by kernel_rfl)) (fun _ _ _ h => h) (Or.inl ⟨by rfl, ?_⟩) ?_ ?_
                        rotate_left
                        · intro w'
                          go_simp
                          with_reducible rfl
                        rotate_left
                        · simp only [Act.put, List.setIfInBounds_toArray, List.set_cons_zero, List.set_cons_succ, i64_w, i32_w]
                          rfl
                        refine pure_ (i := 2) (N := some 60) (v := ?_) (a' := ?_) #[true, false, true, false, false, false, false, false, false, false] rfl rfl (any_of HT_.out (by kernel_rfl)) (fun _ _ _ h => h) (Or.inl ⟨by rfl, ?_⟩) ?_ ?_
                        rotate_left
                        · intro w'
                          go_simp
                          with_reducible rfl
                        rotate_left
                        · simp only [Act.put, List.setIfInBounds_toArray, List.set_cons_zero, List.set_cons_succ, i64_w, i32_w]
                          rfl
                        refine pure_ (i := 3) (N := some 61) (v := ?_) (a' := ?_) #[true, false, true, true, false, false, false, false, false, false] rfl rfl (any_of HT_.out (by kernel_rfl)) (fun _ _ _ h => h) (Or.inl ⟨by rfl, ?_⟩) ?_ ?_
                        rotate_left
                        · intro w'
                          go_simp
                          with_reducible rfl
                        rotate_left
                        · simp only [Act.put, List.setIfInBounds_toArray, List.set_cons_zero, List.set_cons_succ, i64_w, i32_w]
                          rfl
                        refine take_ (i := 1) (N := some 59) (v := ?_) (a' := ?_) #[true, true, true, true, false, false, false, false, false, false] rfl rfl (take_ofW HT_.out HW_.out (by kernel_rfl)) (fun _ _ _ h => h) (Or.inl ⟨by rfl, ?_⟩) hHeld ?_ ?_
                        rotate_left
                        · rintro w' ⟨s0, s1⟩
                          go_simp
                          with_reducible rfl
                        rotate_left
                        · simp only [Act.put, List.setIfInBounds_toArray, List.set_cons_zero, List.set_cons_succ, i64_w, i32_w]
                          rfl
                        refine one_ (i := 4) (N := some 62) #[true, true, true, true, true, false, false, false, false, false] rfl rfl (one_of HT_.out (by kernel_rfl)) (by decide) (fun K hK => ?_)
                        refine goes_ Try.func63 (by kernel_rfl) rfl #[.slice (some ad157) t141.length co37, .int .i64 x6_3] (by rfl) rfl rfl (by (try simp only [List.map_toArray, List.map_cons, List.map_nil]); first | done | rfl | (simp only [List.length_drop, List.length_take]; rfl)) ?_
                        with_reducible refine (spec_l13Column.calls k3 _ _ t141 x6_3 t158 _ ?side1 ?side2 A40.out).mono ?_
                        (case side1 => repeat (first | exact (Kd.R_reads' HO_0.out).2.2 | (with_reducible refine Kd.C_alloc ?_ _) | (with_reducible refine Kd.C_drewN ?_ _) | (with_reducible refine Kd.C_drew ?_)))
                        (case side2 => exact (Kd.R_reads' HO_0.out).2.1)
                        rintro e w44 ⟨v159, rfl, ho0, hb⟩
                        refine ⟨_, rfl, ?_⟩
                        have n0_ := Aside0.mk (Kd.R_elder' (by (with_reducible repeat (first | apply Kd.R_alloc | apply Kd.R_drewN | apply Kd.R_drew)); exact HO_0.out) (Kd.R_base ho0) hb)
                        have n1_ := Aside0.mk (Kd.R_below (by (with_reducible repeat (first | apply Kd.R_alloc | apply Kd.R_drewN | apply Kd.R_drew)); exact HO_145000.out) hb)
                        have n2_ := Aside0.mk (Kd.R_below (by (with_reducible repeat (first | apply Kd.R_alloc | apply Kd.R_drewN | apply Kd.R_drew)); exact HO_145001.out) hb)
                        have n3_ := Aside0.mk (Kd.R_elder' (by (with_reducible repeat (first | apply Kd.R_alloc | apply Kd.R_drewN | apply Kd.R_drew)); exact HL157_0.out) (Kd.R_base ho0) hb)
                        have n4_ := Aside0.mk (Kd.R_lower (Kd.R_new' ho0 (Kd.R_lt (by (with_reducible repeat (first | apply Kd.R_alloc | apply Kd.R_drewN | apply Kd.R_drew)); exact HL157_0.out))) (below_size (by repeat (first | (with_reducible first | exact HB.out | apply below_alloc | apply pw_below_drewN | apply below_drew1 | refine below_set ?_ GE140.out | refine below_set ?_ GE144.out) | exact HB.out))))
                        have n5_ := Aside0.mk (blk_below (g := gb140) (o := .cells #[.slice none 0 0, .slice none 0 0] 25 (0, 0)) (by (with_reducible repeat (first | refine blk_drewN ?_ _ | refine blk_drew ?_ | refine blk_alloc ?_ _)); exact BK140.out) hb)
                        have n6_ := Aside0.mk (blk_below (g := gb144) (o := .cells #[u145000, u145001] 25 (0, 0)) (by (with_reducible repeat (first | refine blk_drewN ?_ _ | refine blk_drew ?_ | refine blk_alloc ?_ _)); exact BK144.out) hb)
                        have n7_ := Aside0.mk (Kd.C_below (by repeat (first | (with_reducible exact HR157_0.out) | (with_reducible refine Kd.C_alloc ?_ _) | (with_reducible refine Kd.C_drewN ?_ _) | (with_reducible refine Kd.C_drew ?_) | exact HR157_0.out)) hb)
                        have n8_ := Aside0.mk (below_step (by repeat (first | (with_reducible first | exact HB.out | apply below_alloc | apply pw_below_drewN | apply below_drew1 | refine below_set ?_ GE140.out | refine below_set ?_ GE144.out) | exact HB.out)) hb)
                        clear HO_0
                        clear HO_145000
                        clear HO_145001
                        clear HL157_0
                        clear BK140
                        clear BK144
                        clear HR157_0
                        clear HB
                        have HO_0 := n0_
                        have HO_145000 := n1_
                        have HO_145001 := n2_
                        have HL157_0 := n3_
                        have HO160 := n4_
                        have BK140 := n5_
                        have BK144 := n6_
                        have HR157_0 := n7_
                        have HB := n8_
                        clear n0_ n1_ n2_ n3_ n4_ n5_ n6_ n7_ n8_
                        (try clear hb)
                        (try clear hb2)
                        (try clear hk)
                        (try clear hi)
                        (try clear ho0)
                        obtain ⟨Ao45, co45, eo45⟩ := Kd.R_slice HO160.out
                        (first | subst eo45 | (injection eo45 with f1_ f2_ f3_; have f4_ := f1_.symm; have f5_ := f3_.symm; clear f1_ f2_ f3_; subst f4_; subst f5_))
                        refine hK.out _ _ ⟨(blk_cell BK144.out 0).trans rfl, (blk_cell BK144.out 1).trans rfl⟩ (fun hHeld => ?_)
                        clear hK K
                        refine norm_ (a' := ?_) ?_ ?_
                        rotate_left
                        · show Act.put _ (some 62) _ = _
                          simp only [Act.put, List.setIfInBounds_toArray, List.set_cons_zero, List.set_cons_succ, i64_w, i32_w]
                          rfl
                        refine one_ (i := 5) (N := some 63) #[true, true, true, true, true, true, false, false, false, false] rfl rfl (one_of HT_.out (by kernel_rfl)) (by decide) (fun K hK => ?_)
                        refine goes_ Try.func62 (by kernel_rfl) rfl #[.slice Ao45 t158.length co45] (by rfl) rfl rfl (by (try simp only [List.map_toArray, List.map_cons, List.map_nil]); first | done | rfl | (simp only [List.length_drop, List.length_take]; rfl)) ?_
                        with_reducible refine (spec_ClueOf.calls k3 _ _ t158 t161 _ ?side1 ?side2 A41.out).mono ?_
                        (case side1 => repeat (first | exact (Kd.R_reads' HO160.out).2.2 | (with_reducible refine Kd.C_alloc ?_ _) | (with_reducible refine Kd.C_drewN ?_ _) | (with_reducible refine Kd.C_drew ?_)))
                        (case side2 => exact (Kd.R_reads' HO160.out).2.1)
                        rintro e w46 ⟨v162, rfl, ho0, hb⟩
                        refine ⟨_, rfl, ?_⟩
                        have n0_ := Aside0.mk (Kd.R_below (by (with_reducible repeat (first | apply Kd.R_alloc | apply Kd.R_drewN | apply Kd.R_drew)); exact HO_0.out) hb)
                        have n1_ := Aside0.mk (Kd.R_elder' (by (with_reducible repeat (first | apply Kd.R_alloc | apply Kd.R_drewN | apply Kd.R_drew)); exact HO_145000.out) (Kd.R_base ho0) hb)
                        have n2_ := Aside0.mk (Kd.R_elder' (by (with_reducible repeat (first | apply Kd.R_alloc | apply Kd.R_drewN | apply Kd.R_drew)); exact HO_145001.out) (Kd.R_base ho0) hb)
                        have n3_ := Aside0.mk (Kd.R_below (by (with_reducible repeat (first | apply Kd.R_alloc | apply Kd.R_drewN | apply Kd.R_drew)); exact HL157_0.out) hb)
                        have n4_ := Aside0.mk (Kd.R_below (by (with_reducible repeat (first | apply Kd.R_alloc | apply Kd.R_drewN | apply Kd.R_drew)); exact HO160.out) hb)
                        have n5_ := Aside0.mk (Kd.R_lower ho0 (below_size (by repeat (first | (with_reducible first | exact HB.out | apply below_alloc | apply pw_below_drewN | apply below_drew1 | refine below_set ?_ GE140.out | refine below_set ?_ GE144.out) | exact HB.out))))
                        have n6_ := Aside0.mk (blk_below (g := gb140) (o := .cells #[.slice none 0 0, .slice none 0 0] 25 (0, 0)) (by (with_reducible repeat (first | refine blk_drewN ?_ _ | refine blk_drew ?_ | refine blk_alloc ?_ _)); exact BK140.out) hb)
                        have n7_ := Aside0.mk (blk_below (g := gb144) (o := .cells #[u145000, u145001] 25 (0, 0)) (by (with_reducible repeat (first | refine blk_drewN ?_ _ | refine blk_drew ?_ | refine blk_alloc ?_ _)); exact BK144.out) hb)
                        have n8_ := Aside0.mk (Kd.C_below (by repeat (first | (with_reducible exact HR157_0.out) | (with_reducible refine Kd.C_alloc ?_ _) | (with_reducible refine Kd.C_drewN ?_ _) | (with_reducible refine Kd.C_drew ?_) | exact HR157_0.out)) hb)
                        have n9_ := Aside0.mk (below_step (by repeat (first | (with_reducible first | exact HB.out | apply below_alloc | apply pw_below_drewN | apply below_drew1 | refine below_set ?_ GE140.out | refine below_set ?_ GE144.out) | exact HB.out)) hb)
                        clear HO_0
                        clear HO_145000
                        clear HO_145001
                        clear HL157_0
                        clear HO160
                        clear BK140
                        clear BK144
                        clear HR157_0
                        clear HB
                        have HO_0 := n0_
                        have HO_145000 := n1_
                        have HO_145001 := n2_
                        have HL157_0 := n3_
                        have HO160 := n4_
                        have HO163 := n5_
                        have BK140 := n6_
                        have BK144 := n7_
                        have HR157_0 := n8_
                        have HB := n9_
                        clear n0_ n1_ n2_ n3_ n4_ n5_ n6_ n7_ n8_ n9_
                        (try clear hb)
                        (try clear hb2)
                        (try clear hk)
                        (try clear hi)
                        (try clear ho0)
                        obtain ⟨Ao48, co48, eo48⟩ := Kd.R_slice HO163.out
                        (first | subst eo48 | (injection eo48 with f1_ f2_ f3_; have f4_ := f1_.symm; have f5_ := f3_.symm; clear f1_ f2_ f3_; subst f4_; subst f5_))
                        refine hK.out _ _ ⟨(blk_cell BK144.out 0).trans rfl, (blk_cell BK144.out 1).trans rfl⟩ (fun hHeld => ?_)
                        clear hK K
                        refine norm_ (a' := ?_) ?_ ?_
                        rotate_left
                        · show Act.put _ (some 63) _ = _
                          simp only [Act.put, List.setIfInBounds_toArray, List.set_cons_zero, List.set_cons_succ, i64_w, i32_w]
                          rfl
                        refine one_ (i := 6) (N := some 64) #[true, true, true, true, true, true, true, false, false, false] rfl rfl (one_of HT_.out (by kernel_rfl)) (by decide) (fun K hK => ?_)
                        refine value_ (w1 := ?_) (v := ?_) (by rfl) rfl ?_ ?_
                        rotate_left 2
                        · go_simp
                          constructor
                          · rfl
                          · rfl
                        refine hK.out _ _ ⟨(blk_cell (blk_alloc BK144.out _) 0).trans rfl, (blk_cell (blk_alloc BK144.out _) 1).trans rfl⟩ (fun hHeld => ?_)
                        clear hK K
                        refine norm_ (a' := ?_) ?_ ?_
                        rotate_left
                        · show Act.put _ (some 64) _ = _
                          simp only [Act.put, List.setIfInBounds_toArray, List.set_cons_zero, List.set_cons_succ, i64_w, i32_w]
                          rfl
                        refine one_ (i := 7) (N := some 65) #[true, true, true, true, true, true, true, true, false, false] rfl rfl (one_of HT_.out (by kernel_rfl)) (by decide) (fun K hK => ?_)
                        refine Kd.R_append_step (Kd.slice 3 (Kd.int .i64)) (w0 := w) w.heap.size (by rfl) (.tmp 59) (.tmp 64) 23 36 (.slice none 0 0) 24 rfl Try.underlying23 info36 rfl (by decide) (by omega) u145001 x145001_3 t161 [.slice Ao48 t161.length co48] (fun k_ => some k_ ≠ (u145000 : Value).ownBlock) (fun k_ => ((fun k_ => some k_ ≠ (u145000 : Value).ownBlock)) k_ ∧ some k_ ≠ (u145001 : Value).ownBlock) rfl rfl ?aP (fun _ hk => hk) ?aF ?aO ?aB ?aS ?aL ?_
                        (case aP => exact Kd.M_row (Kd.R_mono (Kd.R_apart' (Kd.R_apart' (HO163.out) (Kd.R_typed HO_145000.out) (by decide)) (Kd.R_typed HO_145001.out) (by decide)) (fun k_ hk => ⟨hk.1.2, hk.2⟩)))
                        (case aB => exact (by repeat (first | (with_reducible first | exact HB.out | apply below_alloc | apply pw_below_drewN | apply below_drew1 | refine below_set ?_ GE140.out | refine below_set ?_ GE144.out) | exact HB.out)))
                        (case aF => exact (fun k_ hk => Kd.fresh' (Kd.R_lt (by (with_reducible repeat (first | apply Kd.R_alloc | apply Kd.R_drewN | apply Kd.R_drew)); exact HO_145000.out)) k_ hk))
                        (case aO => exact (by (with_reducible repeat (first | apply Kd.R_alloc | apply Kd.R_drewN | apply Kd.R_drew)); exact Kd.R_mono HO_145001.out (fun _ hk => hk.1)))
                        (case aS => exact (below_size (by repeat (first | (with_reducible first | exact HB.out | apply below_alloc | apply pw_below_drewN | apply below_drew1 | refine below_set ?_ GE140.out | refine below_set ?_ GE144.out) | exact HB.out))))
                        (case aL => have := LMc42.out; omega)
                        intro v165 w47 ho hb hg hat
                        rw [← Ny164.out] at ho
                        have n0_ := Aside0.mk (Kd.R_over' (by (with_reducible repeat (first | apply Kd.R_alloc | apply Kd.R_drewN | apply Kd.R_drew)); exact HO_0.out) (Kd.R_typed (by (with_reducible repeat (first | apply Kd.R_alloc | apply Kd.R_drewN | apply Kd.R_drew)); exact HO_145001.out)) (by decide) hg)
                        have n1_ := Aside0.mk (Kd.R_after (ok := (fun k_ => some k_ ≠ (.slice Ao48 t161.length co48 : Value).ownBlock)) (by (with_reducible repeat (first | apply Kd.R_alloc | apply Kd.R_drewN | apply Kd.R_drew)); exact Kd.R_mono HO_145000.out (fun _ hk => ⟨hk.2, hk.1⟩)) hg hat)
                        have n2_ := Aside0.mk (blk_grown (g := gb140) (o := .cells #[.slice none 0 0, .slice none 0 0] 25 (0, 0)) (by (with_reducible repeat (first | refine blk_drewN ?_ _ | refine blk_drew ?_ | refine blk_alloc ?_ _)); exact BK140.out) hg (Kd.R_ne HO_145001.out BK140.out (by decide)))
                        have n3_ := Aside0.mk (blk_grown (g := gb144) (o := .cells #[u145000, u145001] 25 (0, 0)) (by (with_reducible repeat (first | refine blk_drewN ?_ _ | refine blk_drew ?_ | refine blk_alloc ?_ _)); exact BK144.out) hg (Kd.R_ne HO_145001.out BK144.out (by decide)))
                        have n4_ := Aside0.mk (Kd.R_over' (by (with_reducible repeat (first | apply Kd.R_alloc | apply Kd.R_drewN | apply Kd.R_drew)); exact HL157_0.out) (Kd.R_typed (by (with_reducible repeat (first | apply Kd.R_alloc | apply Kd.R_drewN | apply Kd.R_drew)); exact HO_145001.out)) (by decide) hg)
                        have n5_ := Aside0.mk (Kd.R_over' (by (with_reducible repeat (first | apply Kd.R_alloc | apply Kd.R_drewN | apply Kd.R_drew)); exact HO160.out) (Kd.R_typed (by (with_reducible repeat (first | apply Kd.R_alloc | apply Kd.R_drewN | apply Kd.R_drew)); exact HO_145001.out)) (by decide) hg)
                        have n6_ := Aside0.mk (hb)
                        have n7_ := Aside0.mk (ho)
                        clear HO_0
                        clear HO_145000
                        clear BK140
                        clear BK144
                        clear HL157_0
                        clear HO160
                        clear HB
                        clear HO_145001
                        clear HO163
                        have HO_0 := n0_
                        have HO_145000 := n1_
                        have BK140 := n2_
                        have BK144 := n3_
                        have HL157_0 := n4_
                        have HO160 := n5_
                        have HB := n6_
                        have HO166 := n7_
                        clear n0_ n1_ n2_ n3_ n4_ n5_ n6_ n7_
                        clear ho hb hg hat
                        obtain ⟨Ao49, co49, eo49⟩ := Kd.R_slice HO166.out
                        (first | subst eo49 | (injection eo49 with f1_ f2_ f3_; have f4_ := f1_.symm; have f5_ := f3_.symm; clear f1_ f2_ f3_; subst f4_; subst f5_))
                        refine hK.out _ _ ⟨(blk_cell BK144.out 0).trans rfl, (blk_cell BK144.out 1).trans rfl⟩ (fun hHeld => ?_)
                        clear hK K
                        refine norm_ (a' := ?_) ?_ ?_
                        rotate_left
                        · show Act.put _ (some 65) _ = _
                          simp only [Act.put, List.setIfInBounds_toArray, List.set_cons_zero, List.set_cons_succ, i64_w, i32_w]
                          rfl
                        refine pure_ (i := 8) (N := some 66) (v := ?_) (a' := ?_) #[true, true, true, true, true, true, true, true, true, false] rfl rfl (any_of HT_.out (by kernel_rfl)) (fun _ _ _ h => h) (Or.inl ⟨by rfl, ?_⟩) ?_ ?_
                        rotate_left
                        · intro w'
                          go_simp
                          with_reducible rfl
                        rotate_left
                        · simp only [Act.put, List.setIfInBounds_toArray, List.set_cons_zero, List.set_cons_succ, i64_w, i32_w]
                          rfl
                        refine last_ (i := 9) (N := none) #[true, true, true, true, true, true, true, true, true, true] rfl rfl (one_of HT_.out (by kernel_rfl)) (by decide) (fun K hK => ?_)
                        have hs50 : w47.cell? ⟨gb144, 1, none⟩ = some (u145001) := (blk_cell BK144.out 1).trans rfl
                        have hfs50 := blk_frozen BK144.out 1
                        have hns50_0 := NB140_144.out
                        have hms50_0 := NB144_140.out
                        refine skip_ (w1 := ?_) (by rfl) rfl ?_ ?_
                        rotate_left
                        · go_simp
                          rfl
                        refine hK.out _ _ ?_
                        clear hK K
                        refine done_ (done_of HT_.out (by kernel_rfl)) ?_
                        try go_wp2
                        go_roundg k3
                        case measure => have := HJ2.out; have := HK2.out; have := HK3.out; omega
                        case rel => exact ⟨(wrap64 (x6_3 + 1)), (y164), (.slice Ao49 y164.length co49), (by first | rfl | (simp; done) | (simp [*]; done)), H', ⟨by have := HJ2.out; have := HK2.out; have := HK3.out; omega⟩, ⟨by (with_reducible repeat (first | apply Kd.R_alloc | apply Kd.R_drewN | apply Kd.R_drew)); exact Kd.R_mono (Kd.R_far (p := ⟨gb144, 1, none⟩) (Kd.R_types HO_0.out BK144.out (by decide)) (fun _ hk => hk.2) (.slice Ao49 y164.length co49)) (fun _ hk => trivial)⟩, ⟨by (with_reducible repeat (first | apply Kd.R_alloc | apply Kd.R_drewN | apply Kd.R_drew)); exact Kd.R_mono (Kd.R_far (p := ⟨gb144, 1, none⟩) (Kd.R_types HO_145000.out BK144.out (by decide)) (fun _ hk => hk.2) (.slice Ao49 y164.length co49)) (fun _ hk => hk.1.2)⟩, ⟨by (with_reducible repeat (first | apply Kd.R_alloc | apply Kd.R_drewN | apply Kd.R_drew)); exact Kd.R_mono (Kd.R_far (p := ⟨gb144, 1, none⟩) (Kd.R_types HO166.out BK144.out (by decide)) (fun _ hk => hk.2) (.slice Ao49 y164.length co49)) (fun _ hk => hk.1)⟩, ⟨by (with_reducible repeat (first | refine blk_drewN ?_ _ | refine blk_drew ?_ | refine blk_alloc ?_ _)); refine blk_far ?_ NB140_144.out _; (with_reducible repeat (first | refine blk_drewN ?_ _ | refine blk_drew ?_ | refine blk_alloc ?_ _)); exact BK140.out⟩, ⟨by (with_reducible repeat (first | refine blk_drewN ?_ _ | refine blk_drew ?_ | refine blk_alloc ?_ _)); refine blk_put (cs := #[u145000, u145001]) ?_ 1 _ rfl; (with_reducible repeat (first | refine blk_drewN ?_ _ | refine blk_drew ?_ | refine blk_alloc ?_ _)); exact BK144.out⟩, ⟨by repeat (first | (with_reducible first | exact HB.out | apply below_alloc | apply pw_below_drewN | apply below_drew1 | refine below_set ?_ GE140.out | refine below_set ?_ GE144.out) | exact HB.out)⟩⟩
                      · rw [if_neg c42] at H
                        exact absurd H (by simp)
                    · rw [if_neg c39] at H
                      have c39b0 : decide (x6_3 < ((rd_L3 t141 0).length : Int)) = false := decide_eq_false c39
                      clear c39
                      simp only [Option.some.injEq, Prod.mk.injEq] at H
                      obtain ⟨rfl, rfl, rfl⟩ := H
                      have p157 : 0 ≤ (0 : Int) := (by omega)
                      have q157 : 0 < (t141.length : Int) := of_decide_eq_true (by first | (with_reducible assumption) | assumption)
                      obtain ⟨ad157, A157_0, c157_0, e157, hx157_0, hl157_0, hi157_0⟩ := at_L3 (Kd.R_reads' HO_0.out).2.2 0 p157 q157
                      cases e157
                      obtain ⟨ce157, hce157, hMe157, hcc157⟩ := Kd.R_get HO_0.out [] 0 p157 (by first | exact q157 | exact of_decide_eq_true (by first | (with_reducible assumption) | assumption) | (have e_ := (Kd.R_reads' HO_0.out).1; omega))
                      obtain ⟨ve157_0, rfl, ge157_0⟩ := hMe157
                      have hv157_0 := hcc157 0 _ rfl
                      rw [Nat.add_zero, show ((Kd.slice 4 Kd.bool)).sz = 1 from rfl, Nat.mul_one] at hv157_0
                      replace hv157_0 := Option.some.inj (hv157_0.symm.trans hx157_0)
                      rw [hv157_0] at ge157_0
                      have HL157_0 := Aside0.mk (show Kd.R Kd.bool 4 _ _ _ _ (rd_L3 t141 0) from ge157_0)
                      clear hv157_0 ge157_0
                      clear hcc157 hce157
                      have qi157 : (0 < t141.length) = True := eq_true (by omega)
                      (try rw [show ((0 : Int)).toNat = 0 from rfl] at hx157_0)
                      (try rw [Addr.add_zero'] at hx157_0)
                      have HR157_0 := Aside0.mk hi157_0
                      have HC157_0 := Aside0.mk hl157_0
                      clear hi157_0 hl157_0
                      replace p157 := eq_true p157
                      replace q157 := eq_true q157
                      have hnb51 := NB144_140.out
                      have hnc51 := NB140_144.out
                      have hcz52_0 : wr.cell? ⟨gb144, 0, none⟩ = some (u145000) := (blk_cell BK144.out 0).trans rfl
                      have hcz52_1 : wr.cell? ⟨gb144, 1, none⟩ = some (u145001) := (blk_cell BK144.out 1).trans rfl
                      have hfz52_0 := blk_frozen BK144.out 0
                      have hfz52_1 := blk_frozen BK144.out 1
                      obtain ⟨Ao53, co53, eo53⟩ := Kd.R_slice HO_145000.out
                      subst eo53
                      have hcz54_0 : wr.cell? ⟨gb140, 0, none⟩ = some (.slice none 0 0) := (blk_cell BK140.out 0).trans rfl
                      have hcz54_1 : wr.cell? ⟨gb140, 1, none⟩ = some (.slice none 0 0) := (blk_cell BK140.out 1).trans rfl
                      have hfz54_0 := blk_frozen BK140.out 0
                      have hfz54_1 := blk_frozen BK140.out 1
                      obtain ⟨Ao55, co55, eo55⟩ := Kd.R_slice HO_145001.out
                      subst eo55
                      go_wp2
                      refine bodyPost_ret (results_ct rfl _ _ gb140 25 #[.slice Ao53 x145000_2.length co53, .slice Ao55 x145001_3.length co55] (0, 0) _ rfl (by (with_reducible repeat (first | refine blk_drewN ?_ _ | refine blk_drew ?_ | refine blk_alloc ?_ _)); refine blk_put (cs := #[.slice Ao53 x145000_2.length co53, .slice none 0 0]) ?_ 1 _ rfl; (with_reducible repeat (first | refine blk_drewN ?_ _ | refine blk_drew ?_ | refine blk_alloc ?_ _)); refine blk_put (cs := #[.slice none 0 0, .slice none 0 0]) ?_ 0 _ rfl; (with_reducible repeat (first | refine blk_drewN ?_ _ | refine blk_drew ?_ | refine blk_alloc ?_ _)); exact BK140.out) Try.underlying25 rfl (by kernel_rfl)) rfl ?_
                      exact ⟨_, _, by first | rfl | (simp [errW_none, errW_some] <;> rfl) | (simp [*, errW_none, errW_some] <;> rfl), by (with_reducible repeat (first | apply Kd.R_alloc | apply Kd.R_drewN | apply Kd.R_drew)); exact Kd.R_mono (Kd.R_far (p := ⟨gb140, 1, none⟩) (Kd.R_far (p := ⟨gb140, 0, none⟩) (Kd.R_types HO_145000.out BK140.out (by decide)) (fun _ hk => hk.2) (.slice Ao53 x145000_2.length co53)) (fun _ hk => hk.2) (.slice Ao55 x145001_3.length co55)) (fun _ hk => hk.1), by (with_reducible repeat (first | apply Kd.R_alloc | apply Kd.R_drewN | apply Kd.R_drew)); exact Kd.R_mono (Kd.R_far (p := ⟨gb140, 1, none⟩) (Kd.R_far (p := ⟨gb140, 0, none⟩) (Kd.R_types HO_145001.out BK140.out (by decide)) (fun _ hk => hk.2) (.slice Ao53 x145000_2.length co53)) (fun _ hk => hk.2) (.slice Ao55 x145001_3.length co55)) (fun _ hk => hk.1), by repeat (first | (with_reducible first | exact HB.out | apply below_alloc | apply pw_below_drewN | apply below_drew1 | refine below_set ?_ GE140.out | refine below_set ?_ GE144.out) | exact HB.out)⟩
                  · rw [if_neg c38] at H
                    exact absurd H (by simp)

end Go.Proofs.Ytapnohcfnclleaa.PFnExactPictureOf
