-- Made by a program of this session (the kit print, shortened, twice): the kit print itself does not give this text
import Derived.Test.YtapnohcfnclleaaV4
import Derived.Test.YtapnohcfnclleaaPFnPictureLinesx0
import Derived.Test.YtapnohcfnclleaaPFnPictureLinesx1
namespace Go.Proofs.Ytapnohcfnclleaa.PFnPictureLines
open Go.RowKit Go.Proofs.YtapnohcfnclleaaW.PrintWords Go.Proofs.YtapnohcfnclleaaW.PrintLast Go.Proofs.YtapnohcfnclleaaW.PrintMore
attribute [local go_sem] max2_int min2_int max_two min_two max_three min_three max_four min_four   -- for this text's walks alone
set_option linter.unusedVariables false
set_option linter.unusedSimpArgs false
/-! ### spec_PictureOf: function 28 -/
mutual
def spec_PictureOf.j0 : Nat → List (List Bool) → Bool → Option ((List (List Int)) × (List (List Int)) × Bool)
 | 0, _, _ => none
 | k + 1, x0, x21 => if x21 = true then (some (([] : List (List Int)), ([] : List (List Int)), false)) else (spec_PictureOf.l0 k x0 0 ([] : List (List Int)))
def spec_PictureOf.l0 : Nat → List (List Bool) → Int → List (List Int) → Option ((List (List Int)) × (List (List Int)) × Bool)
 | 0, _, _, _ => none
 | k + 1, x0, x5, x134000 => if x5 < (x0.length : Int) then (if 0 ≤ x5 then (if 0 < (x0.length : Int) then (if ((rd_L3 x0 x5).length : Int) = ((rd_L3 x0 0).length : Int) then ((spec_ClueOf.f k (rd_L3 x0 x5)).bind fun t140 => (if x134000.length < 5864062014805 then (spec_PictureOf.l0 k x0 (wrap64 (x5 + 1)) (x134000 ++ [t140])) else (none))) else (some (([] : List (List Int)), ([] : List (List Int)), false))) else (none)) else (none)) else (spec_PictureOf.l1 k x0 0 x134000 ([] : List (List Int)))
def spec_PictureOf.l1 : Nat → List (List Bool) → Int → List (List Int) → List (List Int) → Option ((List (List Int)) × (List (List Int)) × Bool)
 | 0, _, _, _, _ => none
 | k + 1, x0, x6, x134000, x134001 => if 0 < (x0.length : Int) then (if x6 < ((rd_L3 x0 0).length : Int) then ((spec_l13Column.f k x0 x6).bind fun t147 => ((spec_ClueOf.f k t147).bind fun t150 => (if x134001.length < 5864062014805 then (spec_PictureOf.l1 k x0 (wrap64 (x6 + 1)) x134000 (x134001 ++ [t150])) else (none)))) else (some (x134000, x134001, true))) else (none)
end
def spec_PictureOf.f (k : Nat) (l0 : List (List Bool)) : Option ((List (List Int)) × (List (List Int)) × Bool) := (spec_l1OwnRowsBool.f k l0).bind fun t130 => ((spec_l1In.f (t130.length : Int) 1 5).bind fun t134 => (if t134 = true then (if 0 < (t130.length : Int) then ((spec_l1In.f ((rd_L3 t130 0).length : Int) 1 5).bind fun t136 => (spec_PictureOf.j0 k t130 (!t136))) else (none)) else (spec_PictureOf.j0 k t130 true)))
def spec_PictureOf.T8 : Bool × List (List Nat × List Nat) := (true, [([], []), ([], []), ([0, 1], [0, 1]), ([2], [2]), ([3], [3]), ([], []), ([5], [5]), ([6], [6]), ([7], [7]), ([4, 8], [4, 8])])
def spec_PictureOf.B8 : List Nat := [0, 0, 3, 7, 15, 0, 32, 96, 224, 511]
theorem spec_PictureOf.tab8 : rtab .any (opsOf Try.f28 8) = spec_PictureOf.T8 := by kernel_rfl
theorem spec_PictureOf.bits8 : waitsOk spec_PictureOf.T8.2 spec_PictureOf.B8 = true := by kernel_rfl
def spec_PictureOf.T10 : Bool × List (List Nat × List Nat) := (true, [([], []), ([0], [0]), ([], []), ([], []), ([2, 3], [2, 3]), ([4], [4]), ([5], [5]), ([6], [6]), ([1, 7, 6], [1, 7]), ([0, 1, 2, 3, 4, 5, 6, 7, 8], []), ([9, 8, 8, 0, 1, 2, 3, 4, 5, 6, 7, 8], [8, 9])])
def spec_PictureOf.B10 : List Nat := [0, 1, 0, 0, 12, 28, 60, 124, 255, 511, 1023]
theorem spec_PictureOf.tab10 : rtab .any (opsOf Try.f28 10) = spec_PictureOf.T10 := by kernel_rfl
theorem spec_PictureOf.bits10 : waitsOk spec_PictureOf.T10.2 spec_PictureOf.B10 = true := by kernel_rfl
def spec_PictureOf.T14 : Bool × List (List Nat × List Nat) := (true, [([], []), ([0], [0]), ([], []), ([], []), ([2, 3], [2, 3]), ([4, 4], [4]), ([5], [5]), ([1, 6, 5], [1, 6]), ([0, 1, 2, 3, 4, 5, 6, 7], []), ([8, 7, 7, 0, 1, 2, 3, 4, 5, 6, 7], [7, 8])])
def spec_PictureOf.B14 : List Nat := [0, 1, 0, 0, 12, 28, 60, 127, 255, 511]
theorem spec_PictureOf.tab14 : rtab .any (opsOf Try.f28 14) = spec_PictureOf.T14 := by kernel_rfl
theorem spec_PictureOf.bits14 : waitsOk spec_PictureOf.T14.2 spec_PictureOf.B14 = true := by kernel_rfl
set_option maxHeartbeats 8000000 in
set_option maxRecDepth 100000 in
theorem spec_PictureOf.calls (k : Nat) (A0 : Option Addr) (c0 : Nat) (l0 : List (List Bool)) (r1 : List (List Int)) (r2 : List (List Int)) (r3 : Bool) (w : World) (hr0 : Kd.C (Kd.slice 4 Kd.bool) w A0 l0.length l0) (hc0 : l0.length ≤ c0) (h : spec_PictureOf.f k l0 = some (r1, r2, r3)) :
  Calls Try.prog 28 #[.slice A0 l0.length c0] w fun e w' => ∃ v0_ v1_ : Value, e = .returned (.tuple #[.agg #[v0_, v1_], .bool r3]) ∧ Kd.R (Kd.slice 3 (Kd.int .i64)) 36 w' w.heap.size (fun k_ => some k_ ≠ (v1_ : Value).ownBlock) v0_ r1 ∧ Kd.R (Kd.slice 3 (Kd.int .i64)) 36 w' w.heap.size (fun k_ => some k_ ≠ (v0_ : Value).ownBlock) v1_ r2 ∧ Below w.heap.size w w' := by
 have hu25 := Try.underlying25
 have HR0 := am hr0
 have HC0 := am hc0
 clear hr0 hc0
 have HB := am (Below.refl w.heap.size w)
 have H : ((spec_l1OwnRowsBool.f k l0).bind fun t130 => ((spec_l1In.f (t130.length : Int) 1 5).bind fun t134 => (if t134 = true then (if 0 < (t130.length : Int) then ((spec_l1In.f ((rd_L3 t130 0).length : Int) 1 5).bind fun t136 => (spec_PictureOf.j0 k t130 (!t136))) else (none)) else (spec_PictureOf.j0 k t130 true)))) = some (r1, r2, r3) := h
 clear h
 replace H := Option.bind_eq_some_iff.mp H
 obtain ⟨t130, A20, H⟩ := H
 replace H : ((spec_l1In.f (t130.length : Int) 1 5).bind fun t134 => (if t134 = true then (if 0 < (t130.length : Int) then ((spec_l1In.f ((rd_L3 t130 0).length : Int) 1 5).bind fun t136 => (spec_PictureOf.j0 k t130 (!t136))) else (none)) else (spec_PictureOf.j0 k t130 true))) = some (r1, r2, r3) := H
 have A2 := am A20
 clear A20
 have HC3 := am H
 clear H
 go_enter Try.func28, Try.ntmps28
 go_upto_region 3 with (first | ((with_reducible refine gate_dst (N := 2) rfl ?_); (try (refine gate_guard (by rfl) ?_; dsimp only)); refine box_event ?hg (N := 2) ?hd (cs := #[.slice none 0 0, .slice none 0 0]) (t := 25) ?hr ?_; (case hd => rfl); (case hg => rfl); (case hr => first | (go_simp; done) | (go_simp; rfl)); intro gb129 hg w4 hbox hb; have n0_ := am (below_step (bm HB) hb); have n1_ := am (hbox); have n2_ := am ((by rw [hg]; exact (below_size (bm HB)) : w.heap.size ≤ gb129)); have n3_ := am ((by rw [hg]; exact (below_size (bm HB)) : w.heap.size ≤ gb129)); clear HB; revert n0_ n1_ n2_ n3_; intro HB BK129 GW129 GE129; clear hb hbox hg) | ((with_reducible refine gate_callee (f := 61) rfl ?_); refine goesL_ (some 8) rfl rfl Try.func61 (by kernel_rfl) rfl #[.slice A0 l0.length c0] rfl (by (try simp only [List.map_toArray, List.map_cons, List.map_nil]); first | done | rfl | (simp only [List.length_drop, List.length_take]; rfl)) ?_; (with_reducible refine (spec_l1OwnRowsBool.calls k _ _ l0 t130 _ ?side1 ?side2 A2.out).mono ?_); (case side1 => repeat (first | exact (Kd.C_below HR0.out HB.out) | (with_reducible refine Kd.C_alloc ?_ _) | (with_reducible refine Kd.C_drewN ?_ _) | (with_reducible refine Kd.C_drew ?_))); (case side2 => exact HC0.out); rintro e w5 ⟨v131, rfl, ho0, hb⟩; refine ⟨_, rfl, ?_⟩; have n0_ := am (Kd.R_lower ho0 (below_size (by repeat (first | (with_reducible first | exact HB.out | apply below_alloc | apply pw_below_drewN | apply below_drew1 | refine below_set ?_ GE129.out) | exact HB.out)))); have n1_ := am (blk_below (g := gb129) (o := .cells #[.slice none 0 0, .slice none 0 0] 25 (0, 0)) (bv BK129.out) hb); have n2_ := am (below_step (by repeat (first | (with_reducible first | exact HB.out | apply below_alloc | apply pw_below_drewN | apply below_drew1 | refine below_set ?_ GE129.out) | exact HB.out)) hb); clear BK129 HB; revert n0_ n1_ n2_; intro HO132 BK129 HB; (try clear hb); (try clear hb2); (try clear hk); (try clear hi); (try clear ho0)) | ((with_reducible refine gate_dst (N := 4) rfl ?_); (try (refine gate_guard (by rfl) ?_; dsimp only)); refine box_event ?hg (N := 4) ?hd (cs := #[.slice none 0 0, .slice none 0 0]) (t := 25) ?hr ?_; (case hd => rfl); (case hg => rfl); (case hr => first | (go_simp; done) | (go_simp; rfl)); intro gb133 hg w6 hbox hb; have n0_ := am (Kd.R_below (Kd.rv HO132.out) hb); have n1_ := am (blk_below (g := gb129) (o := .cells #[.slice none 0 0, .slice none 0 0] 25 (0, 0)) (bv BK129.out) hb); have n2_ := am (below_step (by repeat (first | (with_reducible first | exact HB.out | apply below_alloc | apply pw_below_drewN | apply below_drew1 | refine below_set ?_ GE129.out) | exact HB.out)) hb); have n3_ := am (hbox); have n4_ := am ((by rw [hg]; exact (below_size (by repeat (first | (with_reducible first | exact HB.out | apply below_alloc | apply pw_below_drewN | apply below_drew1 | refine below_set ?_ GE129.out) | exact HB.out))) : w.heap.size ≤ gb133)); have n5_ := am ((by rw [hg]; exact (below_size (by repeat (first | (with_reducible first | exact HB.out | apply below_alloc | apply pw_below_drewN | apply below_drew1 | refine below_set ?_ GE129.out) | exact HB.out))) : w.heap.size ≤ gb133)); have n6_ := am ((by rw [hg]; exact Nat.ne_of_lt (blk_lt (g := gb129) (o := .cells #[.slice none 0 0, .slice none 0 0] 25 (0, 0)) (bv BK129.out)) : gb129 ≠ gb133)); have n7_ := am ((by rw [hg]; exact Nat.ne_of_gt (blk_lt (g := gb129) (o := .cells #[.slice none 0 0, .slice none 0 0] 25 (0, 0)) (bv BK129.out)) : gb133 ≠ gb129)); clear HO132 BK129 HB; revert n0_ n1_ n2_ n3_ n4_ n5_ n6_ n7_; intro HO132 BK129 HB BK133 GW133 GE133 NB129_133 NB133_129; clear hb hbox hg; have hnb7 := NB133_129.out; have hnc7 := NB129_133.out; have hcz8_0 : w6.cell? ⟨gb133, 0, none⟩ = some (.slice none 0 0) := (blk_cell BK133.out 0).trans rfl; have hcz8_1 : w6.cell? ⟨gb133, 1, none⟩ = some (.slice none 0 0) := (blk_cell BK133.out 1).trans rfl; have hfz8_0 := blk_frozen BK133.out 0; have hfz8_1 := blk_frozen BK133.out 1))
 (try simp only [Act.put, List.setIfInBounds_toArray, List.set_cons_zero, List.set_cons_succ])
 go_cut [21] (fun v21 wc => ∃ (kq : Nat) (x21_2 : Bool), v21 = .bool x21_2 ∧ Aside0 (spec_PictureOf.j0 kq t130 x21_2 = some (r1, r2, r3)) ∧ Aside0 (kq ≤ k) ∧ Aside0 (Kd.R (Kd.slice 4 Kd.bool) 37 wc w.heap.size (fun _ => True) v131 t130) ∧ Aside0 (wc.heap[gb129]? = some (.cells #[(.slice none 0 0), (.slice none 0 0)] 25 (0, 0))) ∧ Aside0 (wc.heap[gb133]? = some (.cells #[(.slice none 0 0), (.slice none 0 0)] 25 (0, 0))) ∧ Aside0 (Below w.heap.size w wc))
 case first =>
  have H := HC3.out
  clear HC3
  replace H := Option.bind_eq_some_iff.mp H
  obtain ⟨t134, A90, H⟩ := H
  replace H : (if t134 = true then (if 0 < (t130.length : Int) then ((spec_l1In.f ((rd_L3 t130 0).length : Int) 1 5).bind fun t136 => (spec_PictureOf.j0 k t130 (!t136))) else (none)) else (spec_PictureOf.j0 k t130 true)) = some (r1, r2, r3) := H
  have A9 := am A90
  clear A90
  by_cases c10 : t134 = true
  ·subst c10
   rw [if_pos rfl] at H
   have q_ := ifs H
   clear H
   obtain ⟨c11, H⟩ := q_
   have c11b0 : decide (0 < (t130.length : Int)) = true := decide_eq_true c11
   have c11b1 : decide (0 < t130.length) = true := decide_eq_true (by omega)
   clear c11
   (first | rw [c11b0] | (simp only [i64_w, i32_w]; rw [c11b0]) | skip)
   replace H := Option.bind_eq_some_iff.mp H
   obtain ⟨t136, A120, H⟩ := H
   replace H : (spec_PictureOf.j0 k t130 (!t136)) = some (r1, r2, r3) := H
   have A12 := am A120
   clear A120
   have H' := am H
   clear H
   obtain ⟨Ao13, co13, eo13⟩ := Kd.R_slice HO132.out
   subst eo13
   go_wp2_with (first | ((with_reducible refine gate_callee (f := 53) rfl ?_); refine goesL_ (some 12) rfl rfl Try.func53 (by kernel_rfl) rfl #[.int .i64 (t130.length : Int), .int .i64 1, .int .i64 5] rfl (by (try simp only [List.map_toArray, List.map_cons, List.map_nil]); first | done | rfl | (simp only [List.length_drop, List.length_take]; rfl)) ?_; (with_reducible refine (spec_l1In.calls (t130.length : Int) 1 5 true _ A9.out).mono ?_); rintro e w' ⟨rfl, ⟨nd, rfl⟩⟩; refine ⟨_, rfl, ?_⟩; have p135 : 0 ≤ (0 : Int) := (by omega); have q135 : 0 < (t130.length : Int) := da; obtain ⟨ad135, A135_0, c135_0, e135, hx135_0, hl135_0, hi135_0⟩ := at_L3 (Kd.R_reads' HO132.out).2.2 0 p135 q135; cases e135; have qi135 : (0 < t130.length) = True := eq_true (by omega); (try rw [show ((0 : Int)).toNat = 0 from rfl] at hx135_0); (try rw [Addr.add_zero'] at hx135_0); have hn135_0 : ad135.block ≠ gb133 := Kd.own_blk (Kd.R_ne HO132.out BK133.out (by decide)); have hn135_1 : ad135.block ≠ gb133 := Kd.own_blk (Kd.R_ne HO132.out BK133.out (by decide)); have HR135_0 := am hi135_0; have HC135_0 := am hl135_0; clear hi135_0 hl135_0; replace hx135_0 := (cell_far (p := ⟨gb133, 0, none⟩) (by first | (rw [add_block]; exact hn135_0) | (show (Addr.add _ _).block ≠ _; rw [add_block]; exact hn135_0) | exact hn135_0) (.slice none 0 0)).trans hx135_0; replace hx135_0 := (cell_far (p := ⟨gb133, 1, none⟩) (by first | (rw [add_block]; exact hn135_1) | (show (Addr.add _ _).block ≠ _; rw [add_block]; exact hn135_1) | exact hn135_1) (.slice none 0 0)).trans hx135_0; clear hn135_0 hn135_1; replace p135 := eq_true p135; replace q135 := eq_true q135) | (go_at_call 53; (with_reducible refine (spec_l1In.calls ((rd_L3 t130 0).length : Int) 1 5 t136 _ A12.out).mono ?_); rintro e w' ⟨rfl, ⟨nd, rfl⟩⟩))
   go_meet
   case rel => exact ⟨_, (!t136), rfl, H', ⟨by first | omega | exact Nat.le_refl _⟩, ⟨by (with_reducible repeat (first | apply Kd.R_alloc | apply Kd.R_drewN | apply Kd.R_drew)); exact Kd.R_mono (Kd.R_far (p := ⟨gb133, 1, none⟩) (Kd.R_far (p := ⟨gb133, 0, none⟩) (Kd.R_types HO132.out BK133.out (by decide)) (fun _ hk => hk.2) (.slice none 0 0)) (fun _ hk => hk.2) (.slice none 0 0)) (fun _ hk => trivial)⟩, ⟨by (with_reducible repeat (first | refine blk_drewN ?_ _ | refine blk_drew ?_ | refine blk_alloc ?_ _)); refine blk_far ?_ NB129_133.out _; (with_reducible repeat (first | refine blk_drewN ?_ _ | refine blk_drew ?_ | refine blk_alloc ?_ _)); refine blk_far ?_ NB129_133.out _; (with_reducible repeat (first | refine blk_drewN ?_ _ | refine blk_drew ?_ | refine blk_alloc ?_ _)); exact BK129.out⟩, ⟨by (with_reducible repeat (first | refine blk_drewN ?_ _ | refine blk_drew ?_ | refine blk_alloc ?_ _)); refine blk_put (cs := #[.slice none 0 0, .slice none 0 0]) ?_ 1 _ rfl; (with_reducible repeat (first | refine blk_drewN ?_ _ | refine blk_drew ?_ | refine blk_alloc ?_ _)); refine blk_put (cs := #[.slice none 0 0, .slice none 0 0]) ?_ 0 _ rfl; (with_reducible repeat (first | refine blk_drewN ?_ _ | refine blk_drew ?_ | refine blk_alloc ?_ _)); exact BK133.out⟩, ⟨by repeat (first | (with_reducible first | exact HB.out | apply below_alloc | apply pw_below_drewN | apply below_drew1 | refine below_set ?_ GE129.out | refine below_set ?_ GE133.out) | exact HB.out)⟩⟩
  ·replace c10 := Bool.eq_false_iff.mpr c10
   subst c10
   rw [if_neg (show ¬ (false = true) by decide)] at H
   have H' := am H
   clear H
   obtain ⟨Ao14, co14, eo14⟩ := Kd.R_slice HO132.out
   subst eo14
   go_wp2_with (first | ((with_reducible refine gate_callee (f := 53) rfl ?_); refine goesL_ (some 12) rfl rfl Try.func53 (by kernel_rfl) rfl #[.int .i64 (t130.length : Int), .int .i64 1, .int .i64 5] rfl (by (try simp only [List.map_toArray, List.map_cons, List.map_nil]); first | done | rfl | (simp only [List.length_drop, List.length_take]; rfl)) ?_; (with_reducible refine (spec_l1In.calls (t130.length : Int) 1 5 false _ A9.out).mono ?_); rintro e w' ⟨rfl, ⟨nd, rfl⟩⟩; refine ⟨_, rfl, ?_⟩))
   go_meet
   case rel => exact ⟨_, (true), rfl, H', ⟨by first | omega | exact Nat.le_refl _⟩, ⟨by (with_reducible repeat (first | apply Kd.R_alloc | apply Kd.R_drewN | apply Kd.R_drew)); exact Kd.R_mono (Kd.R_far (p := ⟨gb133, 1, none⟩) (Kd.R_far (p := ⟨gb133, 0, none⟩) (Kd.R_types HO132.out BK133.out (by decide)) (fun _ hk => hk.2) (.slice none 0 0)) (fun _ hk => hk.2) (.slice none 0 0)) (fun _ hk => trivial)⟩, ⟨by (with_reducible repeat (first | refine blk_drewN ?_ _ | refine blk_drew ?_ | refine blk_alloc ?_ _)); refine blk_far ?_ NB129_133.out _; (with_reducible repeat (first | refine blk_drewN ?_ _ | refine blk_drew ?_ | refine blk_alloc ?_ _)); refine blk_far ?_ NB129_133.out _; (with_reducible repeat (first | refine blk_drewN ?_ _ | refine blk_drew ?_ | refine blk_alloc ?_ _)); exact BK129.out⟩, ⟨by (with_reducible repeat (first | refine blk_drewN ?_ _ | refine blk_drew ?_ | refine blk_alloc ?_ _)); refine blk_put (cs := #[.slice none 0 0, .slice none 0 0]) ?_ 1 _ rfl; (with_reducible repeat (first | refine blk_drewN ?_ _ | refine blk_drew ?_ | refine blk_alloc ?_ _)); refine blk_put (cs := #[.slice none 0 0, .slice none 0 0]) ?_ 0 _ rfl; (with_reducible repeat (first | refine blk_drewN ?_ _ | refine blk_drew ?_ | refine blk_alloc ?_ _)); exact BK133.out⟩, ⟨by repeat (first | (with_reducible first | exact HB.out | apply below_alloc | apply pw_below_drewN | apply below_drew1 | refine below_set ?_ GE129.out | refine below_set ?_ GE133.out) | exact HB.out)⟩⟩
 case rest =>
  clear HC3
  try clear c1
  try clear p1
  try clear q1
  try clear hx1
  try clear qi1
  try clear c2
  try clear p2
  try clear c5
  try clear c6
  try clear c7
  try clear c10
  try clear c11
  try clear c11b0
  try clear c11b1
  try clear c13
  try clear p13
  try clear q13
  try clear hx13
  try clear qi13
  try clear hcz8_0
  try clear hcz8_1
  try clear hfz8_0
  try clear hfz8_1
  try clear hx135_0
  try clear p135
  try clear q135
  obtain ⟨kq, x21_2, rfl, HA, HJ2, HO_0, BK129, BK133, HB⟩ := hcut
  cases kq with
  | zero => exact absurd HA.out (by simp [spec_PictureOf.j0])
  | succ kj2 =>
   have H := HA.out
   clear HA
   simp only [spec_PictureOf.j0] at H
   by_cases c15 : x21_2 = true
   ·subst c15
    rw [if_pos rfl] at H
    simp only [Option.some.injEq, Prod.mk.injEq] at H
    obtain ⟨rfl, rfl, rfl⟩ := H
    have hnb16 := NB133_129.out
    have hnc16 := NB129_133.out
    have hcz17_0 : wc.cell? ⟨gb133, 0, none⟩ = some (.slice none 0 0) := (blk_cell BK133.out 0).trans rfl
    have hcz17_1 : wc.cell? ⟨gb133, 1, none⟩ = some (.slice none 0 0) := (blk_cell BK133.out 1).trans rfl
    have hfz17_0 := blk_frozen BK133.out 0
    have hfz17_1 := blk_frozen BK133.out 1
    have hcz18_0 : wc.cell? ⟨gb129, 0, none⟩ = some (.slice none 0 0) := (blk_cell BK129.out 0).trans rfl
    have hcz18_1 : wc.cell? ⟨gb129, 1, none⟩ = some (.slice none 0 0) := (blk_cell BK129.out 1).trans rfl
    have hfz18_0 := blk_frozen BK129.out 0
    have hfz18_1 := blk_frozen BK129.out 1
    go_wp2
    refine bodyPost_ret (results_ct rfl _ _ gb129 25 #[.slice none 0 0, .slice none 0 0] (0, 0) _ rfl (by (with_reducible repeat (first | refine blk_drewN ?_ _ | refine blk_drew ?_ | refine blk_alloc ?_ _)); refine blk_put (cs := #[.slice none 0 0, .slice none 0 0]) ?_ 1 _ rfl; (with_reducible repeat (first | refine blk_drewN ?_ _ | refine blk_drew ?_ | refine blk_alloc ?_ _)); refine blk_put (cs := #[.slice none 0 0, .slice none 0 0]) ?_ 0 _ rfl; (with_reducible repeat (first | refine blk_drewN ?_ _ | refine blk_drew ?_ | refine blk_alloc ?_ _)); exact BK129.out) Try.underlying25 rfl (by kernel_rfl)) rfl ?_
    exact ⟨_, _, rfl, by first | exact Kd.R_nil _ _ _ _ _ | exact Kd.N_nil _ _ _ _ _ | exact Kd.V_nil _ _ _ _ _ | exact Kd.Q_nil _ _ _ _ _ | exact Kd.S_nil _ _ _ _ _, by first | exact Kd.R_nil _ _ _ _ _ | exact Kd.N_nil _ _ _ _ _ | exact Kd.V_nil _ _ _ _ _ | exact Kd.Q_nil _ _ _ _ _ | exact Kd.S_nil _ _ _ _ _, by repeat (first | (with_reducible first | exact HB.out | apply below_alloc | apply pw_below_drewN | apply below_drew1 | refine below_set ?_ GE129.out | refine below_set ?_ GE133.out) | exact HB.out)⟩
   ·replace c15 := Bool.eq_false_iff.mpr c15
    subst c15
    rw [if_neg (show ¬ (false = true) by decide)] at H
    have H' := am H
    clear H
    go_wp2
    go_loopg [5] kj2 (fun kq v5 w' => ∃ (x5_2 : Int) (x134000_2 : List (List Int)) (u134000 : Value), v5 = .int .i64 x5_2 ∧ Aside0 (spec_PictureOf.l0 kq t130 x5_2 x134000_2 = some (r1, r2, r3)) ∧ Aside0 (kq ≤ kj2) ∧ Aside0 (Kd.R (Kd.slice 4 Kd.bool) 37 w' w.heap.size (fun _ => True) v131 t130) ∧ Aside0 (Kd.R (Kd.slice 3 (Kd.int .i64)) 36 w' w.heap.size (fun _ => True) u134000 x134000_2) ∧ Aside0 (w'.heap[gb129]? = some (.cells #[(.slice none 0 0), (.slice none 0 0)] 25 (0, 0))) ∧ Aside0 (w'.heap[gb133]? = some (.cells #[u134000, (.slice none 0 0)] 25 (0, 0))) ∧ Aside0 (Below w.heap.size w w'))
    case atStart => exact ⟨(0), (([] : List (List Int))), (.slice none 0 0), rfl, H', ⟨Nat.le_refl _⟩, ⟨Kd.rv HO_0.out⟩, ⟨by first | exact Kd.R_nil _ _ _ _ _ | exact Kd.N_nil _ _ _ _ _ | exact Kd.V_nil _ _ _ _ _ | exact Kd.Q_nil _ _ _ _ _ | exact Kd.S_nil _ _ _ _ _⟩, ⟨bv BK129.out⟩, ⟨bv BK133.out⟩, ⟨by repeat (first | (with_reducible first | exact HB.out | apply below_alloc | apply pw_below_drewN | apply below_drew1 | refine below_set ?_ GE129.out | refine below_set ?_ GE133.out) | exact HB.out)⟩⟩
    case round =>
     clear H'
     try clear c1
     try clear p1
     try clear q1
     try clear hx1
     try clear qi1
     try clear c2
     try clear p2
     try clear c5
     try clear c6
     try clear c7
     try clear c10
     try clear c11
     try clear c11b0
     try clear c11b1
     try clear c13
     try clear p13
     try clear q13
     try clear hx13
     try clear qi13
     try clear c15
     try clear c16
     try clear hcz17_0
     try clear hcz17_1
     try clear hcz18_0
     try clear hcz18_1
     try clear hcz8_0
     try clear hcz8_1
     try clear hfz17_0
     try clear hfz17_1
     try clear hfz18_0
     try clear hfz18_1
     try clear hfz8_0
     try clear hfz8_1
     try clear hx135_0
     try clear p1
     try clear p13
     try clear p135
     try clear p2
     try clear q1
     try clear q13
     try clear q135
     obtain ⟨x5_2, x134000_2, u134000, rfl, HA, HK2, HO_0, HO_134000, BK129, BK133, HB⟩ := hrel
     cases gk with
     | zero => exact absurd HA.out (by simp [spec_PictureOf.l0])
     | succ k2 =>
      have H := HA.out
      clear HA
      simp only [spec_PictureOf.l0] at H
      by_cases c19 : x5_2 < (t130.length : Int)
      ·rw [if_pos c19] at H
       have c19b0 : decide (x5_2 < (t130.length : Int)) = true := decide_eq_true c19
       clear c19
       have q_ := ifs H
       clear H
       obtain ⟨c20, H⟩ := q_
       have c20b0 : decide (0 ≤ x5_2) = true := decide_eq_true c20
       clear c20
       have q_ := ifs H
       clear H
       obtain ⟨c21, H⟩ := q_
       have c21b0 : decide (0 < (t130.length : Int)) = true := decide_eq_true c21
       have c21b1 : decide (0 < t130.length) = true := decide_eq_true (by omega)
       clear c21
       by_cases c22 : ((rd_L3 t130 x5_2).length : Int) = ((rd_L3 t130 0).length : Int)
       ·rw [if_pos c22] at H
        have c22b0 : (((rd_L3 t130 x5_2).length : Int) == ((rd_L3 t130 0).length : Int)) = true := beq_iff_eq.mpr c22
        have c22b1 : (((rd_L3 t130 x5_2).length : Int) != ((rd_L3 t130 0).length : Int)) = false := bne_eq_false_iff_eq.mpr c22
        have c22b2 : ((rd_L3 t130 x5_2).length == (rd_L3 t130 0).length) = true := by first | simpa using c22 | (simp at c22 ⊢; omega)
        clear c22
        replace H := Option.bind_eq_some_iff.mp H
        obtain ⟨t140, A230, H⟩ := H
        replace H : (if x134000_2.length < 5864062014805 then (spec_PictureOf.l0 k2 t130 (wrap64 (x5_2 + 1)) (x134000_2 ++ [t140])) else (none)) = some (r1, r2, r3) := H
        have A23 := am A230
        clear A230
        have q_ := ifs H
        clear H
        obtain ⟨c24, H⟩ := q_
        have LMc24 := am c24
        clear c24
        obtain ⟨y143, hy143⟩ : ∃ y_ : List (List Int), y_ = (x134000_2 ++ [t140]) := ⟨_, rfl⟩
        replace H : (spec_PictureOf.l0 k2 t130 (wrap64 (x5_2 + 1)) y143) = some (r1, r2, r3) := by first | (rw [hy143]; with_reducible exact H) | (have H2_ := (Option.bind_some _ _).symm.trans H; rw [hy143]; with_reducible exact H2_) | (have H2_ := (Option.bind_some _ _).symm.trans H; with_reducible exact H2_) | with_reducible exact H | (rw [hy143]; exact H) | exact H
        have Ny143 := am hy143
        clear hy143
        have H' := am H
        clear H
        obtain ⟨Ao25, co25, eo25⟩ := Kd.R_slice HO_0.out
        subst eo25
        try go_wp2
        have n0_ := am (Kd.R_drew HO_0.out)
        have n1_ := am (Kd.R_drew HO_134000.out)
        have n2_ := am (blk_drew BK129.out)
        have n3_ := am (blk_drew BK133.out)
        have n4_ := am (below_drew1 HB.out)
        clear HO_0 HO_134000 BK129 BK133 HB
        revert n0_ n1_ n2_ n3_ n4_
        intro HO_0 HO_134000 BK129 BK133 HB
        have p137 : 0 ≤ (x5_2 : Int) := da
        have q137 : x5_2 < (t130.length : Int) := da
        obtain ⟨ad137, A137_0, c137_0, e137, hx137_0, hl137_0, hi137_0⟩ := at_L3 (Kd.R_reads' HO_0.out).2.2 x5_2 p137 q137
        cases e137
        obtain ⟨ce137, hce137, hMe137, hcc137⟩ := Kd.R_get HO_0.out [] x5_2 p137 (by first | exact q137 | exact da | (have e_ := (Kd.R_reads' HO_0.out).1; omega))
        obtain ⟨ve137_0, rfl, ge137_0⟩ := hMe137
        have hv137_0 := hcc137 0 _ rfl
        rw [Nat.add_zero, show ((Kd.slice 4 Kd.bool)).sz = 1 from rfl, Nat.mul_one] at hv137_0
        replace hv137_0 := Option.some.inj (hv137_0.symm.trans hx137_0)
        rw [hv137_0] at ge137_0
        have HL137_0 := am (show Kd.R Kd.bool 4 _ _ _ _ (rd_L3 t130 x5_2) from ge137_0)
        clear hv137_0 ge137_0 hcc137 hce137
        have HR137_0 := am hi137_0
        have HC137_0 := am hl137_0
        clear hi137_0 hl137_0
        replace p137 := eq_true p137
        replace q137 := eq_true q137
        have p138 : 0 ≤ (0 : Int) := (by omega)
        have q138 : 0 < (t130.length : Int) := da
        obtain ⟨ad138, A138_0, c138_0, e138, hx138_0, hl138_0, hi138_0⟩ := at_L3 (Kd.R_reads' HO_0.out).2.2 0 p138 q138
        obtain rfl : ad137 = ad138 := (by injection e138)
        obtain ⟨ce138, hce138, hMe138, hcc138⟩ := Kd.R_get HO_0.out [] 0 p138 (by first | exact q138 | exact da | (have e_ := (Kd.R_reads' HO_0.out).1; omega))
        obtain ⟨ve138_0, rfl, ge138_0⟩ := hMe138
        have hv138_0 := hcc138 0 _ rfl
        rw [Nat.add_zero, show ((Kd.slice 4 Kd.bool)).sz = 1 from rfl, Nat.mul_one] at hv138_0
        replace hv138_0 := Option.some.inj (hv138_0.symm.trans hx138_0)
        rw [hv138_0] at ge138_0
        have HL138_0 := am (show Kd.R Kd.bool 4 _ _ _ _ (rd_L3 t130 0) from ge138_0)
        clear hv138_0 ge138_0 hcc138 hce138
        have qi138 : (0 < t130.length) = True := eq_true (by omega)
        (try rw [show ((0 : Int)).toNat = 0 from rfl] at hx138_0)
        (try rw [Addr.add_zero'] at hx138_0)
        have HR138_0 := am hi138_0
        have HC138_0 := am hl138_0
        clear hi138_0 hl138_0
        replace p138 := eq_true p138
        replace q138 := eq_true q138
        refine start_ (n := 10) (S := fun w' => w'.cell? (ad137.add (x5_2).toNat) = some (.slice A137_0 (rd_L3 t130 x5_2).length c137_0) ∧ w'.cell? ad137 = some (.slice A138_0 (rd_L3 t130 0).length c138_0)) (ds := []) #[false, false, false, false, false, false, false, false, false, false] (by kernel_rfl) rfl rfl ⟨hx137_0, hx138_0⟩ (fun hHeld => ?_); refine with_tabW spec_PictureOf.tab8 spec_PictureOf.bits8 (fun HT_ HW_ => ?_)
        generalize wr.drew = w26 at HO_0 HO_134000 BK129 BK133 HB HL137_0 HL138_0 HR137_0 HR138_0 hx137_0 hx138_0 hHeld ⊢
        refine pure_ (i := 0) (N := some 29) (v := ?_) (a' := ?_) #[true, false, false, false, false, false, false, false, false, false] rfl rfl (any_of HT_.out (by kernel_rfl)) (fun _ _ _ h => h) (Or.inl ⟨by rfl, ?_⟩) ?_ ?_
        rotate_left
        ·intro w'
         go_simp
         with_reducible rfl
        rotate_left
        ·simp only [Act.put, List.setIfInBounds_toArray, List.set_cons_zero, List.set_cons_succ, i64_w, i32_w]
         rfl
        refine pure_ (i := 1) (N := some 30) (v := ?_) (a' := ?_) #[true, true, false, false, false, false, false, false, false, false] rfl rfl (any_of HT_.out (by kernel_rfl)) (fun _ _ _ h => h) (Or.inl ⟨by rfl, ?_⟩) ?_ ?_
        rotate_left
        ·intro w'
         go_simp
         with_reducible rfl
        rotate_left
        ·simp only [Act.put, List.setIfInBounds_toArray, List.set_cons_zero, List.set_cons_succ, i64_w, i32_w]
         rfl
        refine pure_ (i := 2) (N := some 31) (v := ?_) (a' := ?_) #[true, true, true, false, false, false, false, false, false, false] rfl rfl (any_of HT_.out (by kernel_rfl)) (fun _ _ _ h => h) (Or.inl ⟨by rfl, ?_⟩) ?_ ?_
        rotate_left
        ·intro w'
         go_simp
         with_reducible rfl
        rotate_left
        ·simp only [Act.put, List.setIfInBounds_toArray, List.set_cons_zero, List.set_cons_succ, i64_w, i32_w]
         rfl
        refine pure_ (i := 5) (N := some 34) (v := ?_) (a' := ?_) #[true, true, true, false, false, true, false, false, false, false] rfl rfl (any_of HT_.out (by kernel_rfl)) (fun _ _ _ h => h) (Or.inl ⟨by rfl, ?_⟩) ?_ ?_
        rotate_left
        ·intro w'
         go_simp
         with_reducible rfl
        rotate_left
        ·simp only [Act.put, List.setIfInBounds_toArray, List.set_cons_zero, List.set_cons_succ, i64_w, i32_w]
         rfl
        refine pure_ (i := 6) (N := some 35) (v := ?_) (a' := ?_) #[true, true, true, false, false, true, true, false, false, false] rfl rfl (any_of HT_.out (by kernel_rfl)) (fun _ _ _ h => h) (Or.inl ⟨by rfl, ?_⟩) ?_ ?_
        rotate_left
        ·intro w'
         go_simp
         with_reducible rfl
        rotate_left
        ·simp only [Act.put, List.setIfInBounds_toArray, List.set_cons_zero, List.set_cons_succ, i64_w, i32_w]
         rfl
        refine take_ (i := 3) (N := some 32) (v := ?_) (a' := ?_) #[true, true, true, true, false, true, true, false, false, false] rfl rfl (take_ofW HT_.out HW_.out (by kernel_rfl)) (fun _ _ _ h => h) (Or.inl ⟨by rfl, ?_⟩) hHeld ?_ ?_
        rotate_left
        ·rintro w' ⟨s0, s1⟩
         go_simp
         with_reducible rfl
        rotate_left
        ·simp only [Act.put, List.setIfInBounds_toArray, List.set_cons_zero, List.set_cons_succ, i64_w, i32_w]
         rfl
        refine pure_ (i := 4) (N := some 33) (v := ?_) (a' := ?_) #[true, true, true, true, true, true, true, false, false, false] rfl rfl (any_of HT_.out (by kernel_rfl)) (fun _ _ _ h => h) (Or.inl ⟨by rfl, ?_⟩) ?_ ?_
        rotate_left
        ·intro w'
         go_simp
         with_reducible rfl
        rotate_left
        ·simp only [Act.put, List.setIfInBounds_toArray, List.set_cons_zero, List.set_cons_succ, i64_w, i32_w]
         rfl
        refine take_ (i := 7) (N := some 36) (v := ?_) (a' := ?_) #[true, true, true, true, true, true, true, true, false, false] rfl rfl (take_ofW HT_.out HW_.out (by kernel_rfl)) (fun _ _ _ h => h) (Or.inl ⟨by rfl, ?_⟩) hHeld ?_ ?_
        rotate_left
        ·rintro w' ⟨s0, s1⟩
         go_simp
         with_reducible rfl
        rotate_left
        ·simp only [Act.put, List.setIfInBounds_toArray, List.set_cons_zero, List.set_cons_succ, i64_w, i32_w]
         rfl
        refine pure_ (i := 8) (N := some 37) (v := ?_) (a' := ?_) #[true, true, true, true, true, true, true, true, true, false] rfl rfl (any_of HT_.out (by kernel_rfl)) (fun _ _ _ h => h) (Or.inl ⟨by rfl, ?_⟩) ?_ ?_
        rotate_left
        ·intro w'
         go_simp
         with_reducible rfl
        rotate_left
        ·simp only [Act.put, List.setIfInBounds_toArray, List.set_cons_zero, List.set_cons_succ, i64_w, i32_w]
         rfl
        refine pure_ (i := 9) (N := some 38) (v := ?_) (a' := ?_) #[true, true, true, true, true, true, true, true, true, true] rfl rfl (any_of HT_.out (by kernel_rfl)) (fun _ _ _ h => h) (Or.inl ⟨by rfl, ?_⟩) ?_ ?_
        rotate_left
        ·intro w'
         go_simp
         with_reducible rfl
        rotate_left
        ·simp only [Act.put, List.setIfInBounds_toArray, List.set_cons_zero, List.set_cons_succ, i64_w, i32_w]
         rfl
        refine done_ (done_of HT_.out (by kernel_rfl)) ?_
        try go_wp2
        have n0_ := am (Kd.R_drew HO_0.out)
        have n1_ := am (Kd.R_drew HO_134000.out)
        have n2_ := am (Kd.R_drew HL137_0.out)
        have n3_ := am (Kd.R_drew HL138_0.out)
        have n4_ := am (blk_drew BK129.out)
        have n5_ := am (blk_drew BK133.out)
        have n6_ := am (Kd.C_drew HR137_0.out)
        have n7_ := am (Kd.C_drew HR138_0.out)
        have n8_ := am (below_drew1 HB.out)
        clear HO_0 HO_134000 HL137_0 HL138_0 BK129 BK133 HR137_0 HR138_0 HB
        revert n0_ n1_ n2_ n3_ n4_ n5_ n6_ n7_ n8_
        intro HO_0 HO_134000 HL137_0 HL138_0 BK129 BK133 HR137_0 HR138_0 HB
        have p139 : 0 ≤ (x5_2 : Int) := da
        have q139 : x5_2 < (t130.length : Int) := da
        obtain ⟨ad139, A139_0, c139_0, e139, hx139_0, hl139_0, hi139_0⟩ := at_L3 (Kd.R_reads' HO_0.out).2.2 x5_2 p139 q139
        obtain rfl : ad137 = ad139 := (by injection e139)
        obtain ⟨ce139, hce139, hMe139, hcc139⟩ := Kd.R_get HO_0.out [] x5_2 p139 (by first | exact q139 | exact da | (have e_ := (Kd.R_reads' HO_0.out).1; omega))
        obtain ⟨ve139_0, rfl, ge139_0⟩ := hMe139
        have hv139_0 := hcc139 0 _ rfl
        rw [Nat.add_zero, show ((Kd.slice 4 Kd.bool)).sz = 1 from rfl, Nat.mul_one] at hv139_0
        replace hv139_0 := Option.some.inj (hv139_0.symm.trans hx139_0)
        rw [hv139_0] at ge139_0
        have HL139_0 := am (show Kd.R Kd.bool 4 _ _ _ _ (rd_L3 t130 x5_2) from ge139_0)
        clear hv139_0 ge139_0 hcc139 hce139
        have HR139_0 := am hi139_0
        have HC139_0 := am hl139_0
        clear hi139_0 hl139_0
        replace p139 := eq_true p139
        replace q139 := eq_true q139
        refine start_ (n := 11) (S := fun w' => w'.cell? ⟨gb133, 0, none⟩ = some (u134000) ∧ w'.cell? ⟨gb133, 1, none⟩ = some (.slice none 0 0) ∧ w'.cell? (ad137.add (x5_2).toNat) = some (.slice A139_0 (rd_L3 t130 x5_2).length c139_0)) (ds := [8, 10]) #[false, false, false, false, false, false, false, false, false, false, false] (by kernel_rfl) rfl rfl ⟨(blk_cell BK133.out 0).trans rfl, (blk_cell BK133.out 1).trans rfl, hx139_0⟩ (fun hHeld => ?_); refine with_tabW spec_PictureOf.tab10 spec_PictureOf.bits10 (fun HT_ HW_ => ?_)
        generalize w26.drew = w27 at HO_0 HO_134000 HL137_0 HL138_0 BK129 BK133 HR137_0 HR138_0 HB HL139_0 HR139_0 hx139_0 hHeld ⊢
        refine pure_ (i := 0) (N := some 40) (v := ?_) (a' := ?_) #[true, false, false, false, false, false, false, false, false, false, false] rfl rfl (any_of HT_.out (by kernel_rfl)) (fun _ _ _ h => h) (Or.inl ⟨by rfl, ?_⟩) ?_ ?_
        rotate_left
        ·intro w'
         go_simp
         with_reducible rfl
        rotate_left
        ·simp only [Act.put, List.setIfInBounds_toArray, List.set_cons_zero, List.set_cons_succ, i64_w, i32_w]
         rfl
        refine pure_ (i := 2) (N := some 42) (v := ?_) (a' := ?_) #[true, false, true, false, false, false, false, false, false, false, false] rfl rfl (any_of HT_.out (by kernel_rfl)) (fun _ _ _ h => h) (Or.inl ⟨by rfl, ?_⟩) ?_ ?_
        rotate_left
        ·intro w'
         go_simp
         with_reducible rfl
        rotate_left
        ·simp only [Act.put, List.setIfInBounds_toArray, List.set_cons_zero, List.set_cons_succ, i64_w, i32_w]
         rfl
        refine pure_ (i := 3) (N := some 43) (v := ?_) (a' := ?_) #[true, false, true, true, false, false, false, false, false, false, false] rfl rfl (any_of HT_.out (by kernel_rfl)) (fun _ _ _ h => h) (Or.inl ⟨by rfl, ?_⟩) ?_ ?_
        rotate_left
        ·intro w'
         go_simp
         with_reducible rfl
        rotate_left
        ·simp only [Act.put, List.setIfInBounds_toArray, List.set_cons_zero, List.set_cons_succ, i64_w, i32_w]
         rfl
        refine pure_ (i := 4) (N := some 44) (v := ?_) (a' := ?_) #[true, false, true, true, true, false, false, false, false, false, false] rfl rfl (any_of HT_.out (by kernel_rfl)) (fun _ _ _ h => h) (Or.inl ⟨by rfl, ?_⟩) ?_ ?_
        rotate_left
        ·intro w'
         go_simp
         with_reducible rfl
        rotate_left
        ·simp only [Act.put, List.setIfInBounds_toArray, List.set_cons_zero, List.set_cons_succ, i64_w, i32_w]
         rfl
        refine take_ (i := 1) (N := some 41) (v := ?_) (a' := ?_) #[true, true, true, true, true, false, false, false, false, false, false] rfl rfl (take_ofW HT_.out HW_.out (by kernel_rfl)) (fun _ _ _ h => h) (Or.inl ⟨by rfl, ?_⟩) hHeld ?_ ?_
        rotate_left
        ·rintro w' ⟨s0, s1, s2⟩
         go_simp
         with_reducible rfl
        rotate_left
        ·simp only [Act.put, List.setIfInBounds_toArray, List.set_cons_zero, List.set_cons_succ, i64_w, i32_w]
         rfl
        refine take_ (i := 5) (N := some 45) (v := ?_) (a' := ?_) #[true, true, true, true, true, true, false, false, false, false, false] rfl rfl (take_ofW HT_.out HW_.out (by kernel_rfl)) (fun _ _ _ h => h) (Or.inl ⟨by rfl, ?_⟩) hHeld ?_ ?_
        rotate_left
        ·rintro w' ⟨s0, s1, s2⟩
         go_simp
         with_reducible rfl
        rotate_left
        ·simp only [Act.put, List.setIfInBounds_toArray, List.set_cons_zero, List.set_cons_succ, i64_w, i32_w]
         rfl
        refine one_ (i := 6) (N := some 46) #[true, true, true, true, true, true, true, false, false, false, false] rfl rfl (one_of HT_.out (by kernel_rfl)) (by decide) (fun K hK => ?_)
        refine goes_ Try.func62 (by kernel_rfl) rfl #[.slice A139_0 (rd_L3 t130 x5_2).length c139_0] (by rfl) rfl rfl (by (try simp only [List.map_toArray, List.map_cons, List.map_nil]); first | done | rfl | (simp only [List.length_drop, List.length_take]; rfl)) ?_
        with_reducible refine (spec_ClueOf.calls k2 _ _ (rd_L3 t130 x5_2) t140 _ ?side1 ?side2 A23.out).mono ?_
        (case side1 => exact Kd.cv HR139_0.out)
        (case side2 => exact HC139_0.out)
        rintro e w28 ⟨v141, rfl, ho0, hb⟩
        have HS2_ := (hb.cell (World.block_lt_of_cell? _ _ (hHeld.2.2))).trans (hHeld.2.2)
        refine ⟨_, rfl, ?_⟩
        have n0_ := am (Kd.R_below (Kd.rv HO_0.out) hb)
        have n1_ := am (Kd.R_elder' (Kd.rv HO_134000.out) (Kd.R_base ho0) hb)
        have n2_ := am (Kd.R_below (Kd.rv HL137_0.out) hb)
        have n3_ := am (Kd.R_below (Kd.rv HL138_0.out) hb)
        have n4_ := am (Kd.R_below (Kd.rv HL139_0.out) hb)
        have n5_ := am (Kd.R_lower ho0 (below_size (by repeat (first | (with_reducible first | exact HB.out | apply below_alloc | apply pw_below_drewN | apply below_drew1 | refine below_set ?_ GE129.out | refine below_set ?_ GE133.out) | exact HB.out))))
        have n6_ := am (blk_below (g := gb129) (o := .cells #[.slice none 0 0, .slice none 0 0] 25 (0, 0)) (bv BK129.out) hb)
        have n7_ := am (blk_below (g := gb133) (o := .cells #[u134000, .slice none 0 0] 25 (0, 0)) (bv BK133.out) hb)
        have n8_ := am (Kd.C_below (Kd.cv HR137_0.out) hb)
        have n9_ := am (Kd.C_below (Kd.cv HR138_0.out) hb)
        have n10_ := am (Kd.C_below (Kd.cv HR139_0.out) hb)
        have n11_ := am (below_step (by repeat (first | (with_reducible first | exact HB.out | apply below_alloc | apply pw_below_drewN | apply below_drew1 | refine below_set ?_ GE129.out | refine below_set ?_ GE133.out) | exact HB.out)) hb)
        clear HO_0 HO_134000 HL137_0 HL138_0 HL139_0 BK129 BK133 HR137_0 HR138_0 HR139_0 HB
        revert n0_ n1_ n2_ n3_ n4_ n5_ n6_ n7_ n8_ n9_ n10_ n11_
        intro HO_0 HO_134000 HL137_0 HL138_0 HL139_0 HO142 BK129 BK133 HR137_0 HR138_0 HR139_0 HB
        (try clear hb)
        (try clear hb2)
        (try clear hk)
        (try clear hi)
        (try clear ho0)
        obtain ⟨Ao30, co30, eo30⟩ := Kd.R_slice HO142.out
        (first | subst eo30 | (injection eo30 with f1_ f2_ f3_; have f4_ := f1_.symm; have f5_ := f3_.symm; clear f1_ f2_ f3_; subst f4_; subst f5_))
        refine hK.out _ _ ⟨(blk_cell BK133.out 0).trans rfl, (blk_cell BK133.out 1).trans rfl, HS2_⟩ (fun hHeld => ?_)
        clear hK K
        refine norm_ (a' := ?_) ?_ ?_
        rotate_left
        ·show Act.put _ (some 46) _ = _
         simp only [Act.put, List.setIfInBounds_toArray, List.set_cons_zero, List.set_cons_succ, i64_w, i32_w]
         rfl
        refine one_ (i := 7) (N := some 47) #[true, true, true, true, true, true, true, true, false, false, false] rfl rfl (one_of HT_.out (by kernel_rfl)) (by decide) (fun K hK => ?_)
        refine value_ (w1 := ?_) (v := ?_) (by rfl) rfl ?_ ?_
        rotate_left 2
        ·go_simp
         constructor
         ·rfl
         ·rfl
        refine hK.out _ _ ⟨(blk_cell (blk_alloc BK133.out _) 0).trans rfl, (blk_cell (blk_alloc BK133.out _) 1).trans rfl, (World.cell?_alloc_lt _ _ _ (World.block_lt_of_cell? _ _ (hHeld.2.2))).trans (hHeld.2.2)⟩ (fun hHeld => ?_)
        clear hK K
        refine norm_ (a' := ?_) ?_ ?_
        rotate_left
        ·show Act.put _ (some 47) _ = _
         simp only [Act.put, List.setIfInBounds_toArray, List.set_cons_zero, List.set_cons_succ, i64_w, i32_w]
         rfl
        refine last_ (i := 8) (N := some 48) #[true, true, true, true, true, true, true, true, true, false, false] rfl rfl (one_of HT_.out (by kernel_rfl)) (by decide) (fun K hK => ?_)
        refine Kd.R_append_step (Kd.slice 3 (Kd.int .i64)) (w0 := w) w.heap.size (by rfl) (.tmp 41) (.tmp 47) 23 36 (.slice none 0 0) 24 rfl Try.underlying23 info36 rfl (by decide) (by omega) u134000 x134000_2 t140 [.slice Ao30 t140.length co30] (fun _ => True) (fun k_ => ((fun _ => True)) k_ ∧ some k_ ≠ (u134000 : Value).ownBlock) rfl rfl ?aP (fun _ hk => hk) ?aF ?aO ?aB ?aS ?aL ?_
        (case aP => exact Kd.M_row (Kd.R_mono (Kd.R_apart' (HO142.out) (Kd.R_typed HO_134000.out) (by decide)) (fun k_ hk => ⟨trivial, hk.2⟩)))
        (case aB => exact (by repeat (first | (with_reducible first | exact HB.out | apply below_alloc | apply pw_below_drewN | apply below_drew1 | refine below_set ?_ GE129.out | refine below_set ?_ GE133.out) | exact HB.out)))
        (case aF => exact (fun _ _ => trivial))
        (case aO => exact (by (with_reducible repeat (first | apply Kd.R_alloc | apply Kd.R_drewN | apply Kd.R_drew)); exact Kd.R_mono HO_134000.out (fun _ hk => trivial)))
        (case aS => exact (below_size (by repeat (first | (with_reducible first | exact HB.out | apply below_alloc | apply pw_below_drewN | apply below_drew1 | refine below_set ?_ GE129.out | refine below_set ?_ GE133.out) | exact HB.out))))
        (case aL => have := LMc24.out; omega)
        intro v144 w29 ho hb hg hat
        rw [← Ny143.out] at ho
        have n0_ := am (Kd.R_over' (Kd.rv HO_0.out) (Kd.R_typed (Kd.rv HO_134000.out)) (by decide) hg)
        have n1_ := am (blk_grown (g := gb129) (o := .cells #[.slice none 0 0, .slice none 0 0] 25 (0, 0)) (bv BK129.out) hg (Kd.R_ne HO_134000.out BK129.out (by decide)))
        have n2_ := am (blk_grown (g := gb133) (o := .cells #[u134000, .slice none 0 0] 25 (0, 0)) (bv BK133.out) hg (Kd.R_ne HO_134000.out BK133.out (by decide)))
        have n3_ := am (Kd.R_over' (Kd.rv HL137_0.out) (Kd.R_typed (Kd.rv HO_134000.out)) (by decide) hg)
        have n4_ := am (Kd.R_over' (Kd.rv HL138_0.out) (Kd.R_typed (Kd.rv HO_134000.out)) (by decide) hg)
        have n5_ := am (Kd.R_over' (Kd.rv HL139_0.out) (Kd.R_typed (Kd.rv HO_134000.out)) (by decide) hg)
        have n6_ := am (hb)
        have n7_ := am (ho)
        clear HO_0 BK129 BK133 HL137_0 HL138_0 HL139_0 HB HO_134000 HO142
        revert n0_ n1_ n2_ n3_ n4_ n5_ n6_ n7_
        intro HO_0 BK129 BK133 HL137_0 HL138_0 HL139_0 HB HO145
        clear ho hb hg hat
        obtain ⟨Ao31, co31, eo31⟩ := Kd.R_slice HO145.out
        (first | subst eo31 | (injection eo31 with f1_ f2_ f3_; have f4_ := f1_.symm; have f5_ := f3_.symm; clear f1_ f2_ f3_; subst f4_; subst f5_))
        refine hK.out _ _ ?_
        clear hK K
        refine norm_ (a' := ?_) ?_ ?_
        rotate_left
        ·show Act.put _ (some 48) _ = _
         simp only [Act.put, List.setIfInBounds_toArray, List.set_cons_zero, List.set_cons_succ, i64_w, i32_w]
         rfl
        refine pure_ (i := 9) (N := some 49) (v := ?_) (a' := ?_) #[true, true, true, true, true, true, true, true, true, true, false] rfl rfl (any_of HT_.out (by kernel_rfl)) (fun _ _ _ h => h) (Or.inl ⟨by rfl, ?_⟩) ?_ ?_
        rotate_left
        ·intro w'
         go_simp
         with_reducible rfl
        rotate_left
        ·simp only [Act.put, List.setIfInBounds_toArray, List.set_cons_zero, List.set_cons_succ, i64_w, i32_w]
         rfl
        refine last_ (i := 10) (N := none) #[true, true, true, true, true, true, true, true, true, true, true] rfl rfl (one_of HT_.out (by kernel_rfl)) (by decide) (fun K hK => ?_)
        have hs32 : w29.cell? ⟨gb133, 0, none⟩ = some (u134000) := (blk_cell BK133.out 0).trans rfl
        have hfs32 := blk_frozen BK133.out 0
        have hns32_0 := NB129_133.out
        have hms32_0 := NB133_129.out
        refine skip_ (w1 := ?_) (by rfl) rfl ?_ ?_
        rotate_left
        ·go_simp
         rfl
        refine hK.out _ _ ?_
        clear hK K
        refine done_ (done_of HT_.out (by kernel_rfl)) ?_
        try go_wp2
        go_roundg k2
        case measure => have := HJ2.out; have := HK2.out; omega
        case rel => exact ⟨(wrap64 (x5_2 + 1)), (y143), (.slice Ao31 y143.length co31), rfl, H', ⟨by have := HJ2.out; have := HK2.out; omega⟩, ⟨by (with_reducible repeat (first | apply Kd.R_alloc | apply Kd.R_drewN | apply Kd.R_drew)); exact Kd.R_mono (Kd.R_far (p := ⟨gb133, 0, none⟩) (Kd.R_types HO_0.out BK133.out (by decide)) (fun _ hk => hk.2) (.slice Ao31 y143.length co31)) (fun _ hk => trivial)⟩, ⟨by (with_reducible repeat (first | apply Kd.R_alloc | apply Kd.R_drewN | apply Kd.R_drew)); exact Kd.R_mono (Kd.R_far (p := ⟨gb133, 0, none⟩) (Kd.R_types HO145.out BK133.out (by decide)) (fun _ hk => hk.2) (.slice Ao31 y143.length co31)) (fun _ hk => trivial)⟩, ⟨by (with_reducible repeat (first | refine blk_drewN ?_ _ | refine blk_drew ?_ | refine blk_alloc ?_ _)); refine blk_far ?_ NB129_133.out _; (with_reducible repeat (first | refine blk_drewN ?_ _ | refine blk_drew ?_ | refine blk_alloc ?_ _)); exact BK129.out⟩, ⟨by (with_reducible repeat (first | refine blk_drewN ?_ _ | refine blk_drew ?_ | refine blk_alloc ?_ _)); refine blk_put (cs := #[u134000, .slice none 0 0]) ?_ 0 _ rfl; (with_reducible repeat (first | refine blk_drewN ?_ _ | refine blk_drew ?_ | refine blk_alloc ?_ _)); exact BK133.out⟩, ⟨by repeat (first | (with_reducible first | exact HB.out | apply below_alloc | apply pw_below_drewN | apply below_drew1 | refine below_set ?_ GE129.out | refine below_set ?_ GE133.out) | exact HB.out)⟩⟩
       ·rw [if_neg c22] at H
        have c22b0 : (((rd_L3 t130 x5_2).length : Int) == ((rd_L3 t130 0).length : Int)) = false := beq_eq_false_iff_ne.mpr c22
        have c22b1 : (((rd_L3 t130 x5_2).length : Int) != ((rd_L3 t130 0).length : Int)) = true := bne_iff_ne.mpr c22
        have c22b2 : ((rd_L3 t130 x5_2).length == (rd_L3 t130 0).length) = false := by first | simpa using c22 | (simp at c22 ⊢; omega)
        simp only [Option.some.injEq, Prod.mk.injEq] at H
        obtain ⟨rfl, rfl, rfl⟩ := H
        obtain ⟨Ao33, co33, eo33⟩ := Kd.R_slice HO_0.out
        subst eo33
        try go_wp2
        have n0_ := am (Kd.R_drew HO_0.out)
        have n1_ := am (Kd.R_drew HO_134000.out)
        have n2_ := am (blk_drew BK129.out)
        have n3_ := am (blk_drew BK133.out)
        have n4_ := am (below_drew1 HB.out)
        clear HO_0 HO_134000 BK129 BK133 HB
        revert n0_ n1_ n2_ n3_ n4_
        intro HO_0 HO_134000 BK129 BK133 HB
        have p137 : 0 ≤ (x5_2 : Int) := da
        have q137 : x5_2 < (t130.length : Int) := da
        obtain ⟨ad137, A137_0, c137_0, e137, hx137_0, hl137_0, hi137_0⟩ := at_L3 (Kd.R_reads' HO_0.out).2.2 x5_2 p137 q137
        cases e137
        obtain ⟨ce137, hce137, hMe137, hcc137⟩ := Kd.R_get HO_0.out [] x5_2 p137 (by first | exact q137 | exact da | (have e_ := (Kd.R_reads' HO_0.out).1; omega))
        obtain ⟨ve137_0, rfl, ge137_0⟩ := hMe137
        have hv137_0 := hcc137 0 _ rfl
        rw [Nat.add_zero, show ((Kd.slice 4 Kd.bool)).sz = 1 from rfl, Nat.mul_one] at hv137_0
        replace hv137_0 := Option.some.inj (hv137_0.symm.trans hx137_0)
        rw [hv137_0] at ge137_0
        have HL137_0 := am (show Kd.R Kd.bool 4 _ _ _ _ (rd_L3 t130 x5_2) from ge137_0)
        clear hv137_0 ge137_0 hcc137 hce137
        have HR137_0 := am hi137_0
        have HC137_0 := am hl137_0
        clear hi137_0 hl137_0
        replace p137 := eq_true p137
        replace q137 := eq_true q137
        have p138 : 0 ≤ (0 : Int) := (by omega)
        have q138 : 0 < (t130.length : Int) := da
        obtain ⟨ad138, A138_0, c138_0, e138, hx138_0, hl138_0, hi138_0⟩ := at_L3 (Kd.R_reads' HO_0.out).2.2 0 p138 q138
        obtain rfl : ad137 = ad138 := (by injection e138)
        obtain ⟨ce138, hce138, hMe138, hcc138⟩ := Kd.R_get HO_0.out [] 0 p138 (by first | exact q138 | exact da | (have e_ := (Kd.R_reads' HO_0.out).1; omega))
        obtain ⟨ve138_0, rfl, ge138_0⟩ := hMe138
        have hv138_0 := hcc138 0 _ rfl
        rw [Nat.add_zero, show ((Kd.slice 4 Kd.bool)).sz = 1 from rfl, Nat.mul_one] at hv138_0
        replace hv138_0 := Option.some.inj (hv138_0.symm.trans hx138_0)
        rw [hv138_0] at ge138_0
        have HL138_0 := am (show Kd.R Kd.bool 4 _ _ _ _ (rd_L3 t130 0) from ge138_0)
        clear hv138_0 ge138_0 hcc138 hce138
        have qi138 : (0 < t130.length) = True := eq_true (by omega)
        (try rw [show ((0 : Int)).toNat = 0 from rfl] at hx138_0)
        (try rw [Addr.add_zero'] at hx138_0)
        have HR138_0 := am hi138_0
        have HC138_0 := am hl138_0
        clear hi138_0 hl138_0
        replace p138 := eq_true p138
        replace q138 := eq_true q138
        refine start_ (n := 10) (S := fun w' => w'.cell? (ad137.add (x5_2).toNat) = some (.slice A137_0 (rd_L3 t130 x5_2).length c137_0) ∧ w'.cell? ad137 = some (.slice A138_0 (rd_L3 t130 0).length c138_0)) (ds := []) #[false, false, false, false, false, false, false, false, false, false] (by kernel_rfl) rfl rfl ⟨hx137_0, hx138_0⟩ (fun hHeld => ?_); refine with_tabW spec_PictureOf.tab8 spec_PictureOf.bits8 (fun HT_ HW_ => ?_)
        generalize wr.drew = w34 at HO_0 HO_134000 BK129 BK133 HB HL137_0 HL138_0 HR137_0 HR138_0 hx137_0 hx138_0 hHeld ⊢
        refine pure_ (i := 0) (N := some 29) (v := ?_) (a' := ?_) #[true, false, false, false, false, false, false, false, false, false] rfl rfl (any_of HT_.out (by kernel_rfl)) (fun _ _ _ h => h) (Or.inl ⟨by rfl, ?_⟩) ?_ ?_
        rotate_left
        ·intro w'
         go_simp
         with_reducible rfl
        rotate_left
        ·simp only [Act.put, List.setIfInBounds_toArray, List.set_cons_zero, List.set_cons_succ, i64_w, i32_w]
         rfl
        refine pure_ (i := 1) (N := some 30) (v := ?_) (a' := ?_) #[true, true, false, false, false, false, false, false, false, false] rfl rfl (any_of HT_.out (by kernel_rfl)) (fun _ _ _ h => h) (Or.inl ⟨by rfl, ?_⟩) ?_ ?_
        rotate_left
        ·intro w'
         go_simp
         with_reducible rfl
        rotate_left
        ·simp only [Act.put, List.setIfInBounds_toArray, List.set_cons_zero, List.set_cons_succ, i64_w, i32_w]
         rfl
        refine pure_ (i := 2) (N := some 31) (v := ?_) (a' := ?_) #[true, true, true, false, false, false, false, false, false, false] rfl rfl (any_of HT_.out (by kernel_rfl)) (fun _ _ _ h => h) (Or.inl ⟨by rfl, ?_⟩) ?_ ?_
        rotate_left
        ·intro w'
         go_simp
         with_reducible rfl
        rotate_left
        ·simp only [Act.put, List.setIfInBounds_toArray, List.set_cons_zero, List.set_cons_succ, i64_w, i32_w]
         rfl
        refine pure_ (i := 5) (N := some 34) (v := ?_) (a' := ?_) #[true, true, true, false, false, true, false, false, false, false] rfl rfl (any_of HT_.out (by kernel_rfl)) (fun _ _ _ h => h) (Or.inl ⟨by rfl, ?_⟩) ?_ ?_
        rotate_left
        ·intro w'
         go_simp
         with_reducible rfl
        rotate_left
        ·simp only [Act.put, List.setIfInBounds_toArray, List.set_cons_zero, List.set_cons_succ, i64_w, i32_w]
         rfl
        refine pure_ (i := 6) (N := some 35) (v := ?_) (a' := ?_) #[true, true, true, false, false, true, true, false, false, false] rfl rfl (any_of HT_.out (by kernel_rfl)) (fun _ _ _ h => h) (Or.inl ⟨by rfl, ?_⟩) ?_ ?_
        rotate_left
        ·intro w'
         go_simp
         with_reducible rfl
        rotate_left
        ·simp only [Act.put, List.setIfInBounds_toArray, List.set_cons_zero, List.set_cons_succ, i64_w, i32_w]
         rfl
        refine take_ (i := 3) (N := some 32) (v := ?_) (a' := ?_) #[true, true, true, true, false, true, true, false, false, false] rfl rfl (take_ofW HT_.out HW_.out (by kernel_rfl)) (fun _ _ _ h => h) (Or.inl ⟨by rfl, ?_⟩) hHeld ?_ ?_
        rotate_left
        ·rintro w' ⟨s0, s1⟩
         go_simp
         with_reducible rfl
        rotate_left
        ·simp only [Act.put, List.setIfInBounds_toArray, List.set_cons_zero, List.set_cons_succ, i64_w, i32_w]
         rfl
        refine pure_ (i := 4) (N := some 33) (v := ?_) (a' := ?_) #[true, true, true, true, true, true, true, false, false, false] rfl rfl (any_of HT_.out (by kernel_rfl)) (fun _ _ _ h => h) (Or.inl ⟨by rfl, ?_⟩) ?_ ?_
        rotate_left
        ·intro w'
         go_simp
         with_reducible rfl
        rotate_left
        ·simp only [Act.put, List.setIfInBounds_toArray, List.set_cons_zero, List.set_cons_succ, i64_w, i32_w]
         rfl
        refine take_ (i := 7) (N := some 36) (v := ?_) (a' := ?_) #[true, true, true, true, true, true, true, true, false, false] rfl rfl (take_ofW HT_.out HW_.out (by kernel_rfl)) (fun _ _ _ h => h) (Or.inl ⟨by rfl, ?_⟩) hHeld ?_ ?_
        rotate_left
        ·rintro w' ⟨s0, s1⟩
         go_simp
         with_reducible rfl
        rotate_left
        ·simp only [Act.put, List.setIfInBounds_toArray, List.set_cons_zero, List.set_cons_succ, i64_w, i32_w]
         rfl
        refine pure_ (i := 8) (N := some 37) (v := ?_) (a' := ?_) #[true, true, true, true, true, true, true, true, true, false] rfl rfl (any_of HT_.out (by kernel_rfl)) (fun _ _ _ h => h) (Or.inl ⟨by rfl, ?_⟩) ?_ ?_
        rotate_left
        ·intro w'
         go_simp
         with_reducible rfl
        rotate_left
        ·simp only [Act.put, List.setIfInBounds_toArray, List.set_cons_zero, List.set_cons_succ, i64_w, i32_w]
         rfl
        refine pure_ (i := 9) (N := some 38) (v := ?_) (a' := ?_) #[true, true, true, true, true, true, true, true, true, true] rfl rfl (any_of HT_.out (by kernel_rfl)) (fun _ _ _ h => h) (Or.inl ⟨by rfl, ?_⟩) ?_ ?_
        rotate_left
        ·intro w'
         go_simp
         with_reducible rfl
        rotate_left
        ·simp only [Act.put, List.setIfInBounds_toArray, List.set_cons_zero, List.set_cons_succ, i64_w, i32_w]
         rfl
        refine done_ (done_of HT_.out (by kernel_rfl)) ?_
        have hnb35 := NB129_133.out
        have hnc35 := NB133_129.out
        have hcz36_0 : w34.cell? ⟨gb129, 0, none⟩ = some (.slice none 0 0) := (blk_cell BK129.out 0).trans rfl
        have hcz36_1 : w34.cell? ⟨gb129, 1, none⟩ = some (.slice none 0 0) := (blk_cell BK129.out 1).trans rfl
        have hfz36_0 := blk_frozen BK129.out 0
        have hfz36_1 := blk_frozen BK129.out 1
        try go_wp2
        refine bodyPost_ret (results_ct rfl _ _ gb129 25 #[.slice none 0 0, .slice none 0 0] (0, 0) _ rfl (by (with_reducible repeat (first | refine blk_drewN ?_ _ | refine blk_drew ?_ | refine blk_alloc ?_ _)); refine blk_put (cs := #[.slice none 0 0, .slice none 0 0]) ?_ 1 _ rfl; (with_reducible repeat (first | refine blk_drewN ?_ _ | refine blk_drew ?_ | refine blk_alloc ?_ _)); refine blk_put (cs := #[.slice none 0 0, .slice none 0 0]) ?_ 0 _ rfl; (with_reducible repeat (first | refine blk_drewN ?_ _ | refine blk_drew ?_ | refine blk_alloc ?_ _)); exact BK129.out) Try.underlying25 rfl (by kernel_rfl)) rfl ?_
        exact ⟨_, _, rfl, by first | exact Kd.R_nil _ _ _ _ _ | exact Kd.N_nil _ _ _ _ _ | exact Kd.V_nil _ _ _ _ _ | exact Kd.Q_nil _ _ _ _ _ | exact Kd.S_nil _ _ _ _ _, by first | exact Kd.R_nil _ _ _ _ _ | exact Kd.N_nil _ _ _ _ _ | exact Kd.V_nil _ _ _ _ _ | exact Kd.Q_nil _ _ _ _ _ | exact Kd.S_nil _ _ _ _ _, by repeat (first | (with_reducible first | exact HB.out | apply below_alloc | apply pw_below_drewN | apply below_drew1 | refine below_set ?_ GE129.out | refine below_set ?_ GE133.out) | exact HB.out)⟩
      ·rw [if_neg c19] at H
       have c19b0 : decide (x5_2 < (t130.length : Int)) = false := decide_eq_false c19
       clear c19
       have H' := am H
       clear H
       obtain ⟨Ao37, co37, eo37⟩ := Kd.R_slice HO_0.out
       subst eo37
       go_wp2
       go_loopg [6] k2 (fun kq v6 w' => ∃ (x6_3 : Int) (x134001_3 : List (List Int)) (u134001 : Value), v6 = .int .i64 x6_3 ∧ Aside0 (spec_PictureOf.l1 kq t130 x6_3 x134000_2 x134001_3 = some (r1, r2, r3)) ∧ Aside0 (kq ≤ k2) ∧ Aside0 (Kd.R (Kd.slice 4 Kd.bool) 37 w' w.heap.size (fun _ => True) (.slice Ao37 t130.length co37) t130) ∧ Aside0 (Kd.R (Kd.slice 3 (Kd.int .i64)) 36 w' w.heap.size (fun k_ => some k_ ≠ (u134001 : Value).ownBlock) u134000 x134000_2) ∧ Aside0 (Kd.R (Kd.slice 3 (Kd.int .i64)) 36 w' w.heap.size (fun k_ => some k_ ≠ (u134000 : Value).ownBlock) u134001 x134001_3) ∧ Aside0 (w'.heap[gb129]? = some (.cells #[(.slice none 0 0), (.slice none 0 0)] 25 (0, 0))) ∧ Aside0 (w'.heap[gb133]? = some (.cells #[u134000, u134001] 25 (0, 0))) ∧ Aside0 (Below w.heap.size w w'))
       case atStart => exact ⟨(0), (([] : List (List Int))), (.slice none 0 0), rfl, H', ⟨Nat.le_refl _⟩, ⟨Kd.rv HO_0.out⟩, ⟨by (with_reducible repeat (first | apply Kd.R_alloc | apply Kd.R_drewN | apply Kd.R_drew)); exact Kd.R_mono HO_134000.out (fun _ hk => (by simp [Value.ownBlock]))⟩, ⟨by first | exact Kd.R_nil _ _ _ _ _ | exact Kd.N_nil _ _ _ _ _ | exact Kd.V_nil _ _ _ _ _ | exact Kd.Q_nil _ _ _ _ _ | exact Kd.S_nil _ _ _ _ _⟩, ⟨bv BK129.out⟩, ⟨bv BK133.out⟩, ⟨by repeat (first | (with_reducible first | exact HB.out | apply below_alloc | apply pw_below_drewN | apply below_drew1 | refine below_set ?_ GE129.out | refine below_set ?_ GE133.out) | exact HB.out)⟩⟩
       case round =>
        clear H'
        try clear c1
        try clear p1
        try clear q1
        try clear hx1
        try clear qi1
        try clear c2
        try clear p2
        try clear c3
        try clear c6
        try clear p6
        try clear c13
        try clear p13
        try clear q13
        try clear hx13
        try clear qi13
        try clear c19
        try clear c19b0
        try clear c20
        try clear c20b0
        try clear c21
        try clear c21b0
        try clear c21b1
        try clear c22
        try clear c22b0
        try clear c22b1
        try clear c22b2
        try clear c24
        try clear c35
        try clear hcz36_0
        try clear hcz36_1
        try clear hfz36_0
        try clear hfz36_1
        try clear hx137_0
        try clear hx138_0
        try clear hx139_0
        try clear p135
        try clear p137
        try clear p138
        try clear p139
        try clear p2
        try clear q1
        try clear q13
        try clear q135
        try clear q137
        try clear q138
        try clear q139
        obtain ⟨x6_3, x134001_3, u134001, rfl, HA, HK3, HO_0, HO_134000, HO_134001, BK129, BK133, HB⟩ := hrel
        cases gk with
        | zero => exact absurd HA.out (by simp [spec_PictureOf.l1])
        | succ k3 =>
         have H := HA.out
         clear HA
         simp only [spec_PictureOf.l1] at H
         have q_ := ifs H
         clear H
         obtain ⟨c38, H⟩ := q_
         have c38b0 : decide (0 < (t130.length : Int)) = true := decide_eq_true c38
         have c38b1 : decide (0 < t130.length) = true := decide_eq_true (by omega)
         clear c38
         by_cases c39 : x6_3 < ((rd_L3 t130 0).length : Int)
         ·rw [if_pos c39] at H
          have c39b0 : decide (x6_3 < ((rd_L3 t130 0).length : Int)) = true := decide_eq_true c39
          clear c39
          replace H := Option.bind_eq_some_iff.mp H
          obtain ⟨t147, A400, H⟩ := H
          replace H : ((spec_ClueOf.f k3 t147).bind fun t150 => (if x134001_3.length < 5864062014805 then (spec_PictureOf.l1 k3 t130 (wrap64 (x6_3 + 1)) x134000_2 (x134001_3 ++ [t150])) else (none))) = some (r1, r2, r3) := H
          have A40 := am A400
          clear A400
          replace H := Option.bind_eq_some_iff.mp H
          obtain ⟨t150, A410, H⟩ := H
          replace H : (if x134001_3.length < 5864062014805 then (spec_PictureOf.l1 k3 t130 (wrap64 (x6_3 + 1)) x134000_2 (x134001_3 ++ [t150])) else (none)) = some (r1, r2, r3) := H
          have A41 := am A410
          clear A410
          have q_ := ifs H
          clear H
          obtain ⟨c42, H⟩ := q_
          have LMc42 := am c42
          clear c42
          obtain ⟨y153, hy153⟩ : ∃ y_ : List (List Int), y_ = (x134001_3 ++ [t150]) := ⟨_, rfl⟩
          replace H : (spec_PictureOf.l1 k3 t130 (wrap64 (x6_3 + 1)) x134000_2 y153) = some (r1, r2, r3) := by first | (rw [hy153]; with_reducible exact H) | (have H2_ := (Option.bind_some _ _).symm.trans H; rw [hy153]; with_reducible exact H2_) | (have H2_ := (Option.bind_some _ _).symm.trans H; with_reducible exact H2_) | with_reducible exact H | (rw [hy153]; exact H) | exact H
          have Ny153 := am hy153
          clear hy153
          have H' := am H
          clear H
          have p146 : 0 ≤ (0 : Int) := (by omega)
          have q146 : 0 < (t130.length : Int) := da
          obtain ⟨ad146, A146_0, c146_0, e146, hx146_0, hl146_0, hi146_0⟩ := at_L3 (Kd.R_reads' HO_0.out).2.2 0 p146 q146
          cases e146
          obtain ⟨ce146, hce146, hMe146, hcc146⟩ := Kd.R_get HO_0.out [] 0 p146 (by first | exact q146 | exact da | (have e_ := (Kd.R_reads' HO_0.out).1; omega))
          obtain ⟨ve146_0, rfl, ge146_0⟩ := hMe146
          have hv146_0 := hcc146 0 _ rfl
          rw [Nat.add_zero, show ((Kd.slice 4 Kd.bool)).sz = 1 from rfl, Nat.mul_one] at hv146_0
          replace hv146_0 := Option.some.inj (hv146_0.symm.trans hx146_0)
          rw [hv146_0] at ge146_0
          have HL146_0 := am (show Kd.R Kd.bool 4 _ _ _ _ (rd_L3 t130 0) from ge146_0)
          clear hv146_0 ge146_0 hcc146 hce146
          have qi146 : (0 < t130.length) = True := eq_true (by omega)
          (try rw [show ((0 : Int)).toNat = 0 from rfl] at hx146_0)
          (try rw [Addr.add_zero'] at hx146_0)
          have HR146_0 := am hi146_0
          have HC146_0 := am hl146_0
          clear hi146_0 hl146_0
          replace p146 := eq_true p146
          replace q146 := eq_true q146
          try go_wp2
          have n0_ := am (Kd.R_drew HO_0.out)
          have n1_ := am (Kd.R_drew HO_134000.out)
          have n2_ := am (Kd.R_drew HO_134001.out)
          have n3_ := am (Kd.R_drew HL146_0.out)
          have n4_ := am (blk_drew BK129.out)
          have n5_ := am (blk_drew BK133.out)
          have n6_ := am (Kd.C_drew HR146_0.out)
          have n7_ := am (below_drew1 HB.out)
          clear HO_0 HO_134000 HO_134001 HL146_0 BK129 BK133 HR146_0 HB
          revert n0_ n1_ n2_ n3_ n4_ n5_ n6_ n7_
          intro HO_0 HO_134000 HO_134001 HL146_0 BK129 BK133 HR146_0 HB
          refine start_ (n := 10) (S := fun w' => w'.cell? ⟨gb133, 0, none⟩ = some (u134000) ∧ w'.cell? ⟨gb133, 1, none⟩ = some (u134001)) (ds := [9]) #[false, false, false, false, false, false, false, false, false, false] (by kernel_rfl) rfl rfl ⟨(blk_cell BK133.out 0).trans rfl, (blk_cell BK133.out 1).trans rfl⟩ (fun hHeld => ?_); refine with_tabW spec_PictureOf.tab14 spec_PictureOf.bits14 (fun HT_ HW_ => ?_)
          generalize wr.drew = w43 at HO_0 HO_134000 HO_134001 HL146_0 BK129 BK133 HR146_0 HB hHeld ⊢
          refine pure_ (i := 0) (N := some 58) (v := ?_) (a' := ?_) #[true, false, false, false, false, false, false, false, false, false] rfl rfl (any_of HT_.out (by kernel_rfl)) (fun _ _ _ h => h) (Or.inl ⟨by rfl, ?_⟩) ?_ ?_
          rotate_left
          ·intro w'
           go_simp
           with_reducible rfl
          rotate_left
          ·simp only [Act.put, List.setIfInBounds_toArray, List.set_cons_zero, List.set_cons_succ, i64_w, i32_w]
           rfl
          refine pure_ (i := 2) (N := some 60) (v := ?_) (a' := ?_) #[true, false, true, false, false, false, false, false, false, false] rfl rfl (any_of HT_.out (by kernel_rfl)) (fun _ _ _ h => h) (Or.inl ⟨by rfl, ?_⟩) ?_ ?_
          rotate_left
          ·intro w'
           go_simp
           with_reducible rfl
          rotate_left
          ·simp only [Act.put, List.setIfInBounds_toArray, List.set_cons_zero, List.set_cons_succ, i64_w, i32_w]
           rfl
          refine pure_ (i := 3) (N := some 61) (v := ?_) (a' := ?_) #[true, false, true, true, false, false, false, false, false, false] rfl rfl (any_of HT_.out (by kernel_rfl)) (fun _ _ _ h => h) (Or.inl ⟨by rfl, ?_⟩) ?_ ?_
          rotate_left
          ·intro w'
           go_simp
           with_reducible rfl
          rotate_left
          ·simp only [Act.put, List.setIfInBounds_toArray, List.set_cons_zero, List.set_cons_succ, i64_w, i32_w]
           rfl
          refine take_ (i := 1) (N := some 59) (v := ?_) (a' := ?_) #[true, true, true, true, false, false, false, false, false, false] rfl rfl (take_ofW HT_.out HW_.out (by kernel_rfl)) (fun _ _ _ h => h) (Or.inl ⟨by rfl, ?_⟩) hHeld ?_ ?_
          rotate_left
          ·rintro w' ⟨s0, s1⟩
           go_simp
           with_reducible rfl
          rotate_left
          ·simp only [Act.put, List.setIfInBounds_toArray, List.set_cons_zero, List.set_cons_succ, i64_w, i32_w]
           rfl
          refine one_ (i := 4) (N := some 62) #[true, true, true, true, true, false, false, false, false, false] rfl rfl (one_of HT_.out (by kernel_rfl)) (by decide) (fun K hK => ?_)
          refine goes_ Try.func63 (by kernel_rfl) rfl #[.slice (some ad146) t130.length co37, .int .i64 x6_3] (by rfl) rfl rfl (by (try simp only [List.map_toArray, List.map_cons, List.map_nil]); first | done | rfl | (simp only [List.length_drop, List.length_take]; rfl)) ?_
          with_reducible refine (spec_l13Column.calls k3 _ _ t130 x6_3 t147 _ ?side1 ?side2 A40.out).mono ?_
          (case side1 => exact Kd.cv (Kd.R_reads' HO_0.out).2.2)
          (case side2 => exact (Kd.R_reads' HO_0.out).2.1)
          rintro e w44 ⟨v148, rfl, ho0, hb⟩
          refine ⟨_, rfl, ?_⟩
          have n0_ := am (Kd.R_elder' (Kd.rv HO_0.out) (Kd.R_base ho0) hb)
          have n1_ := am (Kd.R_below (Kd.rv HO_134000.out) hb)
          have n2_ := am (Kd.R_below (Kd.rv HO_134001.out) hb)
          have n3_ := am (Kd.R_elder' (Kd.rv HL146_0.out) (Kd.R_base ho0) hb)
          have n4_ := am (Kd.R_lower (Kd.R_new' ho0 (Kd.R_lt (Kd.rv HL146_0.out))) (below_size (by repeat (first | (with_reducible first | exact HB.out | apply below_alloc | apply pw_below_drewN | apply below_drew1 | refine below_set ?_ GE129.out | refine below_set ?_ GE133.out) | exact HB.out))))
          have n5_ := am (blk_below (g := gb129) (o := .cells #[.slice none 0 0, .slice none 0 0] 25 (0, 0)) (bv BK129.out) hb)
          have n6_ := am (blk_below (g := gb133) (o := .cells #[u134000, u134001] 25 (0, 0)) (bv BK133.out) hb)
          have n7_ := am (Kd.C_below (Kd.cv HR146_0.out) hb)
          have n8_ := am (below_step (by repeat (first | (with_reducible first | exact HB.out | apply below_alloc | apply pw_below_drewN | apply below_drew1 | refine below_set ?_ GE129.out | refine below_set ?_ GE133.out) | exact HB.out)) hb)
          clear HO_0 HO_134000 HO_134001 HL146_0 BK129 BK133 HR146_0 HB
          revert n0_ n1_ n2_ n3_ n4_ n5_ n6_ n7_ n8_
          intro HO_0 HO_134000 HO_134001 HL146_0 HO149 BK129 BK133 HR146_0 HB
          (try clear hb)
          (try clear hb2)
          (try clear hk)
          (try clear hi)
          (try clear ho0)
          obtain ⟨Ao45, co45, eo45⟩ := Kd.R_slice HO149.out
          (first | subst eo45 | (injection eo45 with f1_ f2_ f3_; have f4_ := f1_.symm; have f5_ := f3_.symm; clear f1_ f2_ f3_; subst f4_; subst f5_))
          refine hK.out _ _ ⟨(blk_cell BK133.out 0).trans rfl, (blk_cell BK133.out 1).trans rfl⟩ (fun hHeld => ?_)
          clear hK K
          refine norm_ (a' := ?_) ?_ ?_
          rotate_left
          ·show Act.put _ (some 62) _ = _
           simp only [Act.put, List.setIfInBounds_toArray, List.set_cons_zero, List.set_cons_succ, i64_w, i32_w]
           rfl
          refine one_ (i := 5) (N := some 63) #[true, true, true, true, true, true, false, false, false, false] rfl rfl (one_of HT_.out (by kernel_rfl)) (by decide) (fun K hK => ?_)
          refine goes_ Try.func62 (by kernel_rfl) rfl #[.slice Ao45 t147.length co45] (by rfl) rfl rfl (by (try simp only [List.map_toArray, List.map_cons, List.map_nil]); first | done | rfl | (simp only [List.length_drop, List.length_take]; rfl)) ?_
          with_reducible refine (spec_ClueOf.calls k3 _ _ t147 t150 _ ?side1 ?side2 A41.out).mono ?_
          (case side1 => exact Kd.cv (Kd.R_reads' HO149.out).2.2)
          (case side2 => exact (Kd.R_reads' HO149.out).2.1)
          rintro e w46 ⟨v151, rfl, ho0, hb⟩
          refine ⟨_, rfl, ?_⟩
          have n0_ := am (Kd.R_below (Kd.rv HO_0.out) hb)
          have n1_ := am (Kd.R_elder' (Kd.rv HO_134000.out) (Kd.R_base ho0) hb)
          have n2_ := am (Kd.R_elder' (Kd.rv HO_134001.out) (Kd.R_base ho0) hb)
          have n3_ := am (Kd.R_below (Kd.rv HL146_0.out) hb)
          have n4_ := am (Kd.R_below (Kd.rv HO149.out) hb)
          have n5_ := am (Kd.R_lower ho0 (below_size (by repeat (first | (with_reducible first | exact HB.out | apply below_alloc | apply pw_below_drewN | apply below_drew1 | refine below_set ?_ GE129.out | refine below_set ?_ GE133.out) | exact HB.out))))
          have n6_ := am (blk_below (g := gb129) (o := .cells #[.slice none 0 0, .slice none 0 0] 25 (0, 0)) (bv BK129.out) hb)
          have n7_ := am (blk_below (g := gb133) (o := .cells #[u134000, u134001] 25 (0, 0)) (bv BK133.out) hb)
          have n8_ := am (Kd.C_below (Kd.cv HR146_0.out) hb)
          have n9_ := am (below_step (by repeat (first | (with_reducible first | exact HB.out | apply below_alloc | apply pw_below_drewN | apply below_drew1 | refine below_set ?_ GE129.out | refine below_set ?_ GE133.out) | exact HB.out)) hb)
          clear HO_0 HO_134000 HO_134001 HL146_0 HO149 BK129 BK133 HR146_0 HB
          revert n0_ n1_ n2_ n3_ n4_ n5_ n6_ n7_ n8_ n9_
          intro HO_0 HO_134000 HO_134001 HL146_0 HO149 HO152 BK129 BK133 HR146_0 HB
          (try clear hb)
          (try clear hb2)
          (try clear hk)
          (try clear hi)
          (try clear ho0)
          obtain ⟨Ao48, co48, eo48⟩ := Kd.R_slice HO152.out
          (first | subst eo48 | (injection eo48 with f1_ f2_ f3_; have f4_ := f1_.symm; have f5_ := f3_.symm; clear f1_ f2_ f3_; subst f4_; subst f5_))
          refine hK.out _ _ ⟨(blk_cell BK133.out 0).trans rfl, (blk_cell BK133.out 1).trans rfl⟩ (fun hHeld => ?_)
          clear hK K
          refine norm_ (a' := ?_) ?_ ?_
          rotate_left
          ·show Act.put _ (some 63) _ = _
           simp only [Act.put, List.setIfInBounds_toArray, List.set_cons_zero, List.set_cons_succ, i64_w, i32_w]
           rfl
          refine one_ (i := 6) (N := some 64) #[true, true, true, true, true, true, true, false, false, false] rfl rfl (one_of HT_.out (by kernel_rfl)) (by decide) (fun K hK => ?_)
          refine value_ (w1 := ?_) (v := ?_) (by rfl) rfl ?_ ?_
          rotate_left 2
          ·go_simp
           constructor
           ·rfl
           ·rfl
          refine hK.out _ _ ⟨(blk_cell (blk_alloc BK133.out _) 0).trans rfl, (blk_cell (blk_alloc BK133.out _) 1).trans rfl⟩ (fun hHeld => ?_)
          clear hK K
          refine norm_ (a' := ?_) ?_ ?_
          rotate_left
          ·show Act.put _ (some 64) _ = _
           simp only [Act.put, List.setIfInBounds_toArray, List.set_cons_zero, List.set_cons_succ, i64_w, i32_w]
           rfl
          refine one_ (i := 7) (N := some 65) #[true, true, true, true, true, true, true, true, false, false] rfl rfl (one_of HT_.out (by kernel_rfl)) (by decide) (fun K hK => ?_)
          refine Kd.R_append_step (Kd.slice 3 (Kd.int .i64)) (w0 := w) w.heap.size (by rfl) (.tmp 59) (.tmp 64) 23 36 (.slice none 0 0) 24 rfl Try.underlying23 info36 rfl (by decide) (by omega) u134001 x134001_3 t150 [.slice Ao48 t150.length co48] (fun k_ => some k_ ≠ (u134000 : Value).ownBlock) (fun k_ => ((fun k_ => some k_ ≠ (u134000 : Value).ownBlock)) k_ ∧ some k_ ≠ (u134001 : Value).ownBlock) rfl rfl ?aP (fun _ hk => hk) ?aF ?aO ?aB ?aS ?aL ?_
          (case aP => exact Kd.M_row (Kd.R_mono (Kd.R_apart' (Kd.R_apart' (HO152.out) (Kd.R_typed HO_134000.out) (by decide)) (Kd.R_typed HO_134001.out) (by decide)) (fun k_ hk => ⟨hk.1.2, hk.2⟩)))
          (case aB => exact (by repeat (first | (with_reducible first | exact HB.out | apply below_alloc | apply pw_below_drewN | apply below_drew1 | refine below_set ?_ GE129.out | refine below_set ?_ GE133.out) | exact HB.out)))
          (case aF => exact (fun k_ hk => Kd.fresh' (Kd.R_lt (Kd.rv HO_134000.out)) k_ hk))
          (case aO => exact (by (with_reducible repeat (first | apply Kd.R_alloc | apply Kd.R_drewN | apply Kd.R_drew)); exact Kd.R_mono HO_134001.out (fun _ hk => hk.1)))
          (case aS => exact (below_size (by repeat (first | (with_reducible first | exact HB.out | apply below_alloc | apply pw_below_drewN | apply below_drew1 | refine below_set ?_ GE129.out | refine below_set ?_ GE133.out) | exact HB.out))))
          (case aL => have := LMc42.out; omega)
          intro v154 w47 ho hb hg hat
          rw [← Ny153.out] at ho
          have n0_ := am (Kd.R_over' (Kd.rv HO_0.out) (Kd.R_typed (Kd.rv HO_134001.out)) (by decide) hg)
          have n1_ := am (Kd.R_after (ok := (fun k_ => some k_ ≠ (.slice Ao48 t150.length co48 : Value).ownBlock)) (by (with_reducible repeat (first | apply Kd.R_alloc | apply Kd.R_drewN | apply Kd.R_drew)); exact Kd.R_mono HO_134000.out (fun _ hk => ⟨hk.2, hk.1⟩)) hg hat)
          have n2_ := am (blk_grown (g := gb129) (o := .cells #[.slice none 0 0, .slice none 0 0] 25 (0, 0)) (bv BK129.out) hg (Kd.R_ne HO_134001.out BK129.out (by decide)))
          have n3_ := am (blk_grown (g := gb133) (o := .cells #[u134000, u134001] 25 (0, 0)) (bv BK133.out) hg (Kd.R_ne HO_134001.out BK133.out (by decide)))
          have n4_ := am (Kd.R_over' (Kd.rv HL146_0.out) (Kd.R_typed (Kd.rv HO_134001.out)) (by decide) hg)
          have n5_ := am (Kd.R_over' (Kd.rv HO149.out) (Kd.R_typed (Kd.rv HO_134001.out)) (by decide) hg)
          have n6_ := am (hb)
          have n7_ := am (ho)
          clear HO_0 HO_134000 BK129 BK133 HL146_0 HO149 HB HO_134001 HO152
          revert n0_ n1_ n2_ n3_ n4_ n5_ n6_ n7_
          intro HO_0 HO_134000 BK129 BK133 HL146_0 HO149 HB HO155
          clear ho hb hg hat
          obtain ⟨Ao49, co49, eo49⟩ := Kd.R_slice HO155.out
          (first | subst eo49 | (injection eo49 with f1_ f2_ f3_; have f4_ := f1_.symm; have f5_ := f3_.symm; clear f1_ f2_ f3_; subst f4_; subst f5_))
          refine hK.out _ _ ⟨(blk_cell BK133.out 0).trans rfl, (blk_cell BK133.out 1).trans rfl⟩ (fun hHeld => ?_)
          clear hK K
          refine norm_ (a' := ?_) ?_ ?_
          rotate_left
          ·show Act.put _ (some 65) _ = _
           simp only [Act.put, List.setIfInBounds_toArray, List.set_cons_zero, List.set_cons_succ, i64_w, i32_w]
           rfl
          refine pure_ (i := 8) (N := some 66) (v := ?_) (a' := ?_) #[true, true, true, true, true, true, true, true, true, false] rfl rfl (any_of HT_.out (by kernel_rfl)) (fun _ _ _ h => h) (Or.inl ⟨by rfl, ?_⟩) ?_ ?_
          rotate_left
          ·intro w'
           go_simp
           with_reducible rfl
          rotate_left
          ·simp only [Act.put, List.setIfInBounds_toArray, List.set_cons_zero, List.set_cons_succ, i64_w, i32_w]
           rfl
          refine last_ (i := 9) (N := none) #[true, true, true, true, true, true, true, true, true, true] rfl rfl (one_of HT_.out (by kernel_rfl)) (by decide) (fun K hK => ?_)
          have hs50 : w47.cell? ⟨gb133, 1, none⟩ = some (u134001) := (blk_cell BK133.out 1).trans rfl
          have hfs50 := blk_frozen BK133.out 1
          have hns50_0 := NB129_133.out
          have hms50_0 := NB133_129.out
          refine skip_ (w1 := ?_) (by rfl) rfl ?_ ?_
          rotate_left
          ·go_simp
           rfl
          refine hK.out _ _ ?_
          clear hK K
          refine done_ (done_of HT_.out (by kernel_rfl)) ?_
          try go_wp2
          go_roundg k3
          case measure => have := HJ2.out; have := HK2.out; have := HK3.out; omega
          case rel => exact ⟨(wrap64 (x6_3 + 1)), (y153), (.slice Ao49 y153.length co49), rfl, H', ⟨by have := HJ2.out; have := HK2.out; have := HK3.out; omega⟩, ⟨by (with_reducible repeat (first | apply Kd.R_alloc | apply Kd.R_drewN | apply Kd.R_drew)); exact Kd.R_mono (Kd.R_far (p := ⟨gb133, 1, none⟩) (Kd.R_types HO_0.out BK133.out (by decide)) (fun _ hk => hk.2) (.slice Ao49 y153.length co49)) (fun _ hk => trivial)⟩, ⟨by (with_reducible repeat (first | apply Kd.R_alloc | apply Kd.R_drewN | apply Kd.R_drew)); exact Kd.R_mono (Kd.R_far (p := ⟨gb133, 1, none⟩) (Kd.R_types HO_134000.out BK133.out (by decide)) (fun _ hk => hk.2) (.slice Ao49 y153.length co49)) (fun _ hk => hk.1.2)⟩, ⟨by (with_reducible repeat (first | apply Kd.R_alloc | apply Kd.R_drewN | apply Kd.R_drew)); exact Kd.R_mono (Kd.R_far (p := ⟨gb133, 1, none⟩) (Kd.R_types HO155.out BK133.out (by decide)) (fun _ hk => hk.2) (.slice Ao49 y153.length co49)) (fun _ hk => hk.1)⟩, ⟨by (with_reducible repeat (first | refine blk_drewN ?_ _ | refine blk_drew ?_ | refine blk_alloc ?_ _)); refine blk_far ?_ NB129_133.out _; (with_reducible repeat (first | refine blk_drewN ?_ _ | refine blk_drew ?_ | refine blk_alloc ?_ _)); exact BK129.out⟩, ⟨by (with_reducible repeat (first | refine blk_drewN ?_ _ | refine blk_drew ?_ | refine blk_alloc ?_ _)); refine blk_put (cs := #[u134000, u134001]) ?_ 1 _ rfl; (with_reducible repeat (first | refine blk_drewN ?_ _ | refine blk_drew ?_ | refine blk_alloc ?_ _)); exact BK133.out⟩, ⟨by repeat (first | (with_reducible first | exact HB.out | apply below_alloc | apply pw_below_drewN | apply below_drew1 | refine below_set ?_ GE129.out | refine below_set ?_ GE133.out) | exact HB.out)⟩⟩
         ·rw [if_neg c39] at H
          have c39b0 : decide (x6_3 < ((rd_L3 t130 0).length : Int)) = false := decide_eq_false c39
          clear c39
          simp only [Option.some.injEq, Prod.mk.injEq] at H
          obtain ⟨rfl, rfl, rfl⟩ := H
          have p146 : 0 ≤ (0 : Int) := (by omega)
          have q146 : 0 < (t130.length : Int) := da
          obtain ⟨ad146, A146_0, c146_0, e146, hx146_0, hl146_0, hi146_0⟩ := at_L3 (Kd.R_reads' HO_0.out).2.2 0 p146 q146
          cases e146
          obtain ⟨ce146, hce146, hMe146, hcc146⟩ := Kd.R_get HO_0.out [] 0 p146 (by first | exact q146 | exact da | (have e_ := (Kd.R_reads' HO_0.out).1; omega))
          obtain ⟨ve146_0, rfl, ge146_0⟩ := hMe146
          have hv146_0 := hcc146 0 _ rfl
          rw [Nat.add_zero, show ((Kd.slice 4 Kd.bool)).sz = 1 from rfl, Nat.mul_one] at hv146_0
          replace hv146_0 := Option.some.inj (hv146_0.symm.trans hx146_0)
          rw [hv146_0] at ge146_0
          have HL146_0 := am (show Kd.R Kd.bool 4 _ _ _ _ (rd_L3 t130 0) from ge146_0)
          clear hv146_0 ge146_0 hcc146 hce146
          have qi146 : (0 < t130.length) = True := eq_true (by omega)
          (try rw [show ((0 : Int)).toNat = 0 from rfl] at hx146_0)
          (try rw [Addr.add_zero'] at hx146_0)
          have HR146_0 := am hi146_0
          have HC146_0 := am hl146_0
          clear hi146_0 hl146_0
          replace p146 := eq_true p146
          replace q146 := eq_true q146
          have hnb51 := NB133_129.out
          have hnc51 := NB129_133.out
          have hcz52_0 : wr.cell? ⟨gb133, 0, none⟩ = some (u134000) := (blk_cell BK133.out 0).trans rfl
          have hcz52_1 : wr.cell? ⟨gb133, 1, none⟩ = some (u134001) := (blk_cell BK133.out 1).trans rfl
          have hfz52_0 := blk_frozen BK133.out 0
          have hfz52_1 := blk_frozen BK133.out 1
          obtain ⟨Ao53, co53, eo53⟩ := Kd.R_slice HO_134000.out
          subst eo53
          have hcz54_0 : wr.cell? ⟨gb129, 0, none⟩ = some (.slice none 0 0) := (blk_cell BK129.out 0).trans rfl
          have hcz54_1 : wr.cell? ⟨gb129, 1, none⟩ = some (.slice none 0 0) := (blk_cell BK129.out 1).trans rfl
          have hfz54_0 := blk_frozen BK129.out 0
          have hfz54_1 := blk_frozen BK129.out 1
          obtain ⟨Ao55, co55, eo55⟩ := Kd.R_slice HO_134001.out
          subst eo55
          go_wp2
          refine bodyPost_ret (results_ct rfl _ _ gb129 25 #[.slice Ao53 x134000_2.length co53, .slice Ao55 x134001_3.length co55] (0, 0) _ rfl (by (with_reducible repeat (first | refine blk_drewN ?_ _ | refine blk_drew ?_ | refine blk_alloc ?_ _)); refine blk_put (cs := #[.slice Ao53 x134000_2.length co53, .slice none 0 0]) ?_ 1 _ rfl; (with_reducible repeat (first | refine blk_drewN ?_ _ | refine blk_drew ?_ | refine blk_alloc ?_ _)); refine blk_put (cs := #[.slice none 0 0, .slice none 0 0]) ?_ 0 _ rfl; (with_reducible repeat (first | refine blk_drewN ?_ _ | refine blk_drew ?_ | refine blk_alloc ?_ _)); exact BK129.out) Try.underlying25 rfl (by kernel_rfl)) rfl ?_
          exact ⟨_, _, rfl, by (with_reducible repeat (first | apply Kd.R_alloc | apply Kd.R_drewN | apply Kd.R_drew)); exact Kd.R_mono (Kd.R_far (p := ⟨gb129, 1, none⟩) (Kd.R_far (p := ⟨gb129, 0, none⟩) (Kd.R_types HO_134000.out BK129.out (by decide)) (fun _ hk => hk.2) (.slice Ao53 x134000_2.length co53)) (fun _ hk => hk.2) (.slice Ao55 x134001_3.length co55)) (fun _ hk => hk.1), by (with_reducible repeat (first | apply Kd.R_alloc | apply Kd.R_drewN | apply Kd.R_drew)); exact Kd.R_mono (Kd.R_far (p := ⟨gb129, 1, none⟩) (Kd.R_far (p := ⟨gb129, 0, none⟩) (Kd.R_types HO_134001.out BK129.out (by decide)) (fun _ hk => hk.2) (.slice Ao53 x134000_2.length co53)) (fun _ hk => hk.2) (.slice Ao55 x134001_3.length co55)) (fun _ hk => hk.1), by repeat (first | (with_reducible first | exact HB.out | apply below_alloc | apply pw_below_drewN | apply below_drew1 | refine below_set ?_ GE129.out | refine below_set ?_ GE133.out) | exact HB.out)⟩
end Go.Proofs.Ytapnohcfnclleaa.PFnPictureLines
