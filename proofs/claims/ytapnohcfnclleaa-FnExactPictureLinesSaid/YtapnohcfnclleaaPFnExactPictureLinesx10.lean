-- Made by a program of this session (a changed copy of the kit print): the kit print itself does not give this text
import Derived.Test.YtapnohcfnclleaaPFnExactPictureLinesx0
import Derived.Test.YtapnohcfnclleaaPFnExactPictureLinesx4
import Derived.Test.YtapnohcfnclleaaPFnExactPictureLinesx8
import Derived.Test.YtapnohcfnclleaaPFnExactPictureLinesx9
import Derived.Test.YtapnohcfnclleaaV2
namespace Go.Proofs.Ytapnohcfnclleaa.PFnExactPictureLines
open Go.RowKit Go.Proofs.YtapnohcfnclleaaW.PrintWords Go.Proofs.YtapnohcfnclleaaW.PrintLast Go.Proofs.YtapnohcfnclleaaW.PrintMore
attribute [local go_sem] max2_int min2_int max_two min_two max_three min_three max_four min_four   -- for this text's walks alone
set_option linter.unusedVariables false
set_option linter.unusedSimpArgs false

/-! ### laws_eqPicture: function 25 -/
def laws_eqPicture.f (k : Nat) (l0_0 : List (List Int)) (l0_1 : List (List Int)) (l1_0 : List (List Int)) (l1_1 : List (List Int)) : Option (Bool) := (laws_eqIntSS.f k l0_0 l1_0).bind fun t366 => (if t366 = true then ((laws_eqIntSS.f k l0_1 l1_1).bind fun t367 => (if t367 = true then (some true) else (some false))) else (some false))
theorem laws_eqPicture.mono : ∀ a0 a1 a2 a3 k, LeO (laws_eqPicture.f k a0 a1 a2 a3) (laws_eqPicture.f (k + 1) a0 a1 a2 a3) := by
  intro a0 a1 a2 a3 k
  unfold laws_eqPicture.f
  repeat' first
      | (with_reducible exact laws_eqIntSS.mono _ _ _)
      | (with_reducible exact LeO.refl _)
      | (with_reducible exact LeO.none _)
      | (with_reducible refine LeO.ite ?_ ?_)
      | (with_reducible refine LeO.bind ?_ (fun _ => ?_))
      | exact laws_eqIntSS.mono _ _ _
      | exact LeO.none _
      | refine LeO.ite ?_ ?_
      | refine LeO.bind ?_ (fun _ => ?_)
set_option maxHeartbeats 8000000 in
set_option maxRecDepth 100000 in
theorem laws_eqPicture.calls (k : Nat) (A0_0 : Option Addr) (c0_0 : Nat) (l0_0 : List (List Int)) (A0_1 : Option Addr) (c0_1 : Nat) (l0_1 : List (List Int)) (A1_0 : Option Addr) (c1_0 : Nat) (l1_0 : List (List Int)) (A1_1 : Option Addr) (c1_1 : Nat) (l1_1 : List (List Int)) (r : Bool) (w : World) (hr0_0 : Kd.C (Kd.slice 3 (Kd.int .i64)) w A0_0 l0_0.length l0_0) (hc0_0 : l0_0.length ≤ c0_0) (hr0_1 : Kd.C (Kd.slice 3 (Kd.int .i64)) w A0_1 l0_1.length l0_1) (hc0_1 : l0_1.length ≤ c0_1) (hr1_0 : Kd.C (Kd.slice 3 (Kd.int .i64)) w A1_0 l1_0.length l1_0) (hc1_0 : l1_0.length ≤ c1_0) (hr1_1 : Kd.C (Kd.slice 3 (Kd.int .i64)) w A1_1 l1_1.length l1_1) (hc1_1 : l1_1.length ≤ c1_1) (h : laws_eqPicture.f k l0_0 l0_1 l1_0 l1_1 = some r) :
    Calls Try.prog 25 #[.agg #[.slice A0_0 l0_0.length c0_0, .slice A0_1 l0_1.length c0_1], .agg #[.slice A1_0 l1_0.length c1_0, .slice A1_1 l1_1.length c1_1]] w fun e w' => e = .returned (.bool r) ∧ Below w.heap.size w w' := by
  have hu25 := Try.underlying25
  have HR0_0 := Aside0.mk hr0_0
  have HC0_0 := Aside0.mk hc0_0
  clear hr0_0 hc0_0
  have HR0_1 := Aside0.mk hr0_1
  have HC0_1 := Aside0.mk hc0_1
  clear hr0_1 hc0_1
  have HR1_0 := Aside0.mk hr1_0
  have HC1_0 := Aside0.mk hc1_0
  clear hr1_0 hc1_0
  have HR1_1 := Aside0.mk hr1_1
  have HC1_1 := Aside0.mk hc1_1
  clear hr1_1 hc1_1
  have HB := Aside0.mk (Below.refl w.heap.size w)
  have H : ((laws_eqIntSS.f k l0_0 l1_0).bind fun t366 => (if t366 = true then ((laws_eqIntSS.f k l0_1 l1_1).bind fun t367 => (if t367 = true then (some true) else (some false))) else (some false))) = some r := h
  clear h
  replace H := Option.bind_eq_some_iff.mp H
  obtain ⟨t366, A30, H⟩ := H
  replace H : (if t366 = true then ((laws_eqIntSS.f k l0_1 l1_1).bind fun t367 => (if t367 = true then (some true) else (some false))) else (some false)) = some r := H
  have A3 := Aside0.mk A30
  clear A30
  by_cases c4 : t366 = true
  · subst c4
    have H1 : ((laws_eqIntSS.f k l0_1 l1_1).bind fun t367 => (if t367 = true then (some true) else (some false))) = some r := by rw [if_pos rfl] at H; exact H
    clear H
    have H := H1
    clear H1
    replace H := Option.bind_eq_some_iff.mp H
    obtain ⟨t367, A50, H⟩ := H
    replace H : (if t367 = true then (some true) else (some false)) = some r := H
    have A5 := Aside0.mk A50
    clear A50
    by_cases c6 : t367 = true
    · subst c6
      have H1 : (some true) = some r := by rw [if_pos rfl] at H; exact H
      clear H
      have H := H1
      clear H1
      obtain rfl := Option.some.inj H
      go_enter Try.func25, Try.ntmps25
      go_wp2_with (first | ((with_reducible refine gate_dst (N := 2) rfl ?_); refine box_event ?hg (N := 2) ?hd (cs := #[.slice A0_0 l0_0.length c0_0, .slice A0_1 l0_1.length c0_1]) (t := 25) ?hr ?_; (case hd => rfl); (case hg => rfl); (case hr => first | (go_simp; done) | (go_simp; rfl)); intro gb364 hg w7 hbox hb; have n0_ := Aside0.mk (below_step (by repeat (first | (with_reducible first | exact HB.out | apply below_alloc | apply pw_below_drewN | apply below_drew1) | exact HB.out)) hb); have n1_ := Aside0.mk (hbox); have n2_ := Aside0.mk ((by rw [hg]; exact (below_size (by repeat (first | (with_reducible first | exact HB.out | apply below_alloc | apply pw_below_drewN | apply below_drew1) | exact HB.out))) : w.heap.size ≤ gb364)); have n3_ := Aside0.mk ((by rw [hg]; exact (below_size (by repeat (first | (with_reducible first | exact HB.out | apply below_alloc | apply pw_below_drewN | apply below_drew1) | exact HB.out))) : w.heap.size ≤ gb364)); clear HB; have HB := n0_; have BK364 := n1_; have GW364 := n2_; have GE364 := n3_; clear n0_ n1_ n2_ n3_; clear hb hbox hg) | ((with_reducible refine gate_dst (N := 3) rfl ?_); refine box_event ?hg (N := 3) ?hd (cs := #[.slice A1_0 l1_0.length c1_0, .slice A1_1 l1_1.length c1_1]) (t := 25) ?hr ?_; (case hd => rfl); (case hg => rfl); (case hr => first | (go_simp; done) | (go_simp; rfl)); intro gb365 hg w8 hbox hb; have n0_ := Aside0.mk (blk_below (g := gb364) (o := .cells #[.slice A0_0 l0_0.length c0_0, .slice A0_1 l0_1.length c0_1] 25 (0, 0)) (by (with_reducible repeat (first | refine blk_drewN ?_ _ | refine blk_drew ?_ | refine blk_alloc ?_ _)); exact BK364.out) hb); have n1_ := Aside0.mk (below_step (by repeat (first | (with_reducible first | exact HB.out | apply below_alloc | apply pw_below_drewN | apply below_drew1 | refine below_set ?_ GE364.out) | exact HB.out)) hb); have n2_ := Aside0.mk (hbox); have n3_ := Aside0.mk ((by rw [hg]; exact (below_size (by repeat (first | (with_reducible first | exact HB.out | apply below_alloc | apply pw_below_drewN | apply below_drew1 | refine below_set ?_ GE364.out) | exact HB.out))) : w.heap.size ≤ gb365)); have n4_ := Aside0.mk ((by rw [hg]; exact (below_size (by repeat (first | (with_reducible first | exact HB.out | apply below_alloc | apply pw_below_drewN | apply below_drew1 | refine below_set ?_ GE364.out) | exact HB.out))) : w.heap.size ≤ gb365)); have n5_ := Aside0.mk ((by rw [hg]; exact Nat.ne_of_lt (blk_lt (g := gb364) (o := .cells #[.slice A0_0 l0_0.length c0_0, .slice A0_1 l0_1.length c0_1] 25 (0, 0)) (by (with_reducible repeat (first | refine blk_drewN ?_ _ | refine blk_drew ?_ | refine blk_alloc ?_ _)); exact BK364.out)) : gb364 ≠ gb365)); have n6_ := Aside0.mk ((by rw [hg]; exact Nat.ne_of_gt (blk_lt (g := gb364) (o := .cells #[.slice A0_0 l0_0.length c0_0, .slice A0_1 l0_1.length c0_1] 25 (0, 0)) (by (with_reducible repeat (first | refine blk_drewN ?_ _ | refine blk_drew ?_ | refine blk_alloc ?_ _)); exact BK364.out)) : gb365 ≠ gb364)); clear BK364; clear HB; have BK364 := n0_; have HB := n1_; have BK365 := n2_; have GW365 := n3_; have GE365 := n4_; have NB364_365 := n5_; have NB365_364 := n6_; clear n0_ n1_ n2_ n3_ n4_ n5_ n6_; clear hb hbox hg; have hnb9 := NB364_365.out; have hnc9 := NB365_364.out; have hcz10_0 : w8.cell? ⟨gb364, 0, none⟩ = some (.slice A0_0 l0_0.length c0_0) := (blk_cell BK364.out 0).trans rfl; have hcz10_1 : w8.cell? ⟨gb364, 1, none⟩ = some (.slice A0_1 l0_1.length c0_1) := (blk_cell BK364.out 1).trans rfl; have hfz10_0 := blk_frozen BK364.out 0; have hfz10_1 := blk_frozen BK364.out 1; have hcz11_0 : w8.cell? ⟨gb365, 0, none⟩ = some (.slice A1_0 l1_0.length c1_0) := (blk_cell BK365.out 0).trans rfl; have hcz11_1 : w8.cell? ⟨gb365, 1, none⟩ = some (.slice A1_1 l1_1.length c1_1) := (blk_cell BK365.out 1).trans rfl; have hfz11_0 := blk_frozen BK365.out 0; have hfz11_1 := blk_frozen BK365.out 1) | ((with_reducible refine gate_callee (f := 38) rfl ?_); refine goesL_ (some 9) rfl rfl Try.func38 (by kernel_rfl) rfl #[.slice A0_0 l0_0.length c0_0, .slice A1_0 l1_0.length c1_0] rfl (by (try simp only [List.map_toArray, List.map_cons, List.map_nil]); first | done | rfl | (simp only [List.length_drop, List.length_take]; rfl)) ?_; (with_reducible refine (laws_eqIntSS.calls k _ _ l0_0 _ _ l1_0 true _ ?side1 ?side2 ?side3 ?side4 A3.out).mono ?_); (case side1 => repeat (first | exact (Kd.C_below HR0_0.out HB.out) | (with_reducible refine Kd.C_alloc ?_ _) | (with_reducible refine Kd.C_drewN ?_ _) | (with_reducible refine Kd.C_drew ?_))); (case side2 => exact HC0_0.out); (case side3 => repeat (first | exact (Kd.C_below HR1_0.out HB.out) | (with_reducible refine Kd.C_alloc ?_ _) | (with_reducible refine Kd.C_drewN ?_ _) | (with_reducible refine Kd.C_drew ?_))); (case side4 => exact HC1_0.out); rintro e w' ⟨rfl, ⟨nd, rfl⟩⟩; refine ⟨_, rfl, ?_⟩) | ((with_reducible refine gate_callee (f := 38) rfl ?_); refine goesL_ (some 15) rfl rfl Try.func38 (by kernel_rfl) rfl #[.slice A0_1 l0_1.length c0_1, .slice A1_1 l1_1.length c1_1] rfl (by (try simp only [List.map_toArray, List.map_cons, List.map_nil]); first | done | rfl | (simp only [List.length_drop, List.length_take]; rfl)) ?_; (with_reducible refine (laws_eqIntSS.calls k _ _ l0_1 _ _ l1_1 true _ ?side1 ?side2 ?side3 ?side4 A5.out).mono ?_); (case side1 => repeat (first | exact (Kd.C_below HR0_1.out (by repeat (first | (with_reducible first | exact HB.out | apply below_alloc | apply pw_below_drewN | apply below_drew1 | refine below_set ?_ GE364.out | refine below_set ?_ GE365.out) | exact HB.out))) | (with_reducible refine Kd.C_alloc ?_ _) | (with_reducible refine Kd.C_drewN ?_ _) | (with_reducible refine Kd.C_drew ?_))); (case side2 => exact HC0_1.out); (case side3 => repeat (first | exact (Kd.C_below HR1_1.out (by repeat (first | (with_reducible first | exact HB.out | apply below_alloc | apply pw_below_drewN | apply below_drew1 | refine below_set ?_ GE364.out | refine below_set ?_ GE365.out) | exact HB.out))) | (with_reducible refine Kd.C_alloc ?_ _) | (with_reducible refine Kd.C_drewN ?_ _) | (with_reducible refine Kd.C_drew ?_))); (case side4 => exact HC1_1.out); rintro e w' ⟨rfl, ⟨nd, rfl⟩⟩; refine ⟨_, rfl, ?_⟩))
      go_ret
      exact ⟨by first | rfl | (simp [errW_none, errW_some] <;> rfl) | (simp [*, errW_none, errW_some] <;> rfl), by repeat (first | (with_reducible first | exact HB.out | apply below_alloc | apply pw_below_drewN | apply below_drew1 | refine below_set ?_ GE364.out | refine below_set ?_ GE365.out) | exact HB.out)⟩
    · replace c6 := Bool.eq_false_iff.mpr c6
      subst c6
      have H1 : (some false) = some r := by rw [if_neg (show ¬ (false = true) by decide)] at H; exact H
      clear H
      have H := H1
      clear H1
      obtain rfl := Option.some.inj H
      go_enter Try.func25, Try.ntmps25
      go_wp2_with (first | ((with_reducible refine gate_dst (N := 2) rfl ?_); refine box_event ?hg (N := 2) ?hd (cs := #[.slice A0_0 l0_0.length c0_0, .slice A0_1 l0_1.length c0_1]) (t := 25) ?hr ?_; (case hd => rfl); (case hg => rfl); (case hr => first | (go_simp; done) | (go_simp; rfl)); intro gb364 hg w12 hbox hb; have n0_ := Aside0.mk (below_step (by repeat (first | (with_reducible first | exact HB.out | apply below_alloc | apply pw_below_drewN | apply below_drew1) | exact HB.out)) hb); have n1_ := Aside0.mk (hbox); have n2_ := Aside0.mk ((by rw [hg]; exact (below_size (by repeat (first | (with_reducible first | exact HB.out | apply below_alloc | apply pw_below_drewN | apply below_drew1) | exact HB.out))) : w.heap.size ≤ gb364)); have n3_ := Aside0.mk ((by rw [hg]; exact (below_size (by repeat (first | (with_reducible first | exact HB.out | apply below_alloc | apply pw_below_drewN | apply below_drew1) | exact HB.out))) : w.heap.size ≤ gb364)); clear HB; have HB := n0_; have BK364 := n1_; have GW364 := n2_; have GE364 := n3_; clear n0_ n1_ n2_ n3_; clear hb hbox hg) | ((with_reducible refine gate_dst (N := 3) rfl ?_); refine box_event ?hg (N := 3) ?hd (cs := #[.slice A1_0 l1_0.length c1_0, .slice A1_1 l1_1.length c1_1]) (t := 25) ?hr ?_; (case hd => rfl); (case hg => rfl); (case hr => first | (go_simp; done) | (go_simp; rfl)); intro gb365 hg w13 hbox hb; have n0_ := Aside0.mk (blk_below (g := gb364) (o := .cells #[.slice A0_0 l0_0.length c0_0, .slice A0_1 l0_1.length c0_1] 25 (0, 0)) (by (with_reducible repeat (first | refine blk_drewN ?_ _ | refine blk_drew ?_ | refine blk_alloc ?_ _)); exact BK364.out) hb); have n1_ := Aside0.mk (below_step (by repeat (first | (with_reducible first | exact HB.out | apply below_alloc | apply pw_below_drewN | apply below_drew1 | refine below_set ?_ GE364.out) | exact HB.out)) hb); have n2_ := Aside0.mk (hbox); have n3_ := Aside0.mk ((by rw [hg]; exact (below_size (by repeat (first | (with_reducible first | exact HB.out | apply below_alloc | apply pw_below_drewN | apply below_drew1 | refine below_set ?_ GE364.out) | exact HB.out))) : w.heap.size ≤ gb365)); have n4_ := Aside0.mk ((by rw [hg]; exact (below_size (by repeat (first | (with_reducible first | exact HB.out | apply below_alloc | apply pw_below_drewN | apply below_drew1 | refine below_set ?_ GE364.out) | exact HB.out))) : w.heap.size ≤ gb365)); have n5_ := Aside0.mk ((by rw [hg]; exact Nat.ne_of_lt (blk_lt (g := gb364) (o := .cells #[.slice A0_0 l0_0.length c0_0, .slice A0_1 l0_1.length c0_1] 25 (0, 0)) (by (with_reducible repeat (first | refine blk_drewN ?_ _ | refine blk_drew ?_ | refine blk_alloc ?_ _)); exact BK364.out)) : gb364 ≠ gb365)); have n6_ := Aside0.mk ((by rw [hg]; exact Nat.ne_of_gt (blk_lt (g := gb364) (o := .cells #[.slice A0_0 l0_0.length c0_0, .slice A0_1 l0_1.length c0_1] 25 (0, 0)) (by (with_reducible repeat (first | refine blk_drewN ?_ _ | refine blk_drew ?_ | refine blk_alloc ?_ _)); exact BK364.out)) : gb365 ≠ gb364)); clear BK364; clear HB; have BK364 := n0_; have HB := n1_; have BK365 := n2_; have GW365 := n3_; have GE365 := n4_; have NB364_365 := n5_; have NB365_364 := n6_; clear n0_ n1_ n2_ n3_ n4_ n5_ n6_; clear hb hbox hg; have hnb14 := NB364_365.out; have hnc14 := NB365_364.out; have hcz15_0 : w13.cell? ⟨gb364, 0, none⟩ = some (.slice A0_0 l0_0.length c0_0) := (blk_cell BK364.out 0).trans rfl; have hcz15_1 : w13.cell? ⟨gb364, 1, none⟩ = some (.slice A0_1 l0_1.length c0_1) := (blk_cell BK364.out 1).trans rfl; have hfz15_0 := blk_frozen BK364.out 0; have hfz15_1 := blk_frozen BK364.out 1; have hcz16_0 : w13.cell? ⟨gb365, 0, none⟩ = some (.slice A1_0 l1_0.length c1_0) := (blk_cell BK365.out 0).trans rfl; have hcz16_1 : w13.cell? ⟨gb365, 1, none⟩ = some (.slice A1_1 l1_1.length c1_1) := (blk_cell BK365.out 1).trans rfl; have hfz16_0 := blk_frozen BK365.out 0; have hfz16_1 := blk_frozen BK365.out 1) | ((with_reducible refine gate_callee (f := 38) rfl ?_); refine goesL_ (some 9) rfl rfl Try.func38 (by kernel_rfl) rfl #[.slice A0_0 l0_0.length c0_0, .slice A1_0 l1_0.length c1_0] rfl (by (try simp only [List.map_toArray, List.map_cons, List.map_nil]); first | done | rfl | (simp only [List.length_drop, List.length_take]; rfl)) ?_; (with_reducible refine (laws_eqIntSS.calls k _ _ l0_0 _ _ l1_0 true _ ?side1 ?side2 ?side3 ?side4 A3.out).mono ?_); (case side1 => repeat (first | exact (Kd.C_below HR0_0.out HB.out) | (with_reducible refine Kd.C_alloc ?_ _) | (with_reducible refine Kd.C_drewN ?_ _) | (with_reducible refine Kd.C_drew ?_))); (case side2 => exact HC0_0.out); (case side3 => repeat (first | exact (Kd.C_below HR1_0.out HB.out) | (with_reducible refine Kd.C_alloc ?_ _) | (with_reducible refine Kd.C_drewN ?_ _) | (with_reducible refine Kd.C_drew ?_))); (case side4 => exact HC1_0.out); rintro e w' ⟨rfl, ⟨nd, rfl⟩⟩; refine ⟨_, rfl, ?_⟩) | ((with_reducible refine gate_callee (f := 38) rfl ?_); refine goesL_ (some 15) rfl rfl Try.func38 (by kernel_rfl) rfl #[.slice A0_1 l0_1.length c0_1, .slice A1_1 l1_1.length c1_1] rfl (by (try simp only [List.map_toArray, List.map_cons, List.map_nil]); first | done | rfl | (simp only [List.length_drop, List.length_take]; rfl)) ?_; (with_reducible refine (laws_eqIntSS.calls k _ _ l0_1 _ _ l1_1 false _ ?side1 ?side2 ?side3 ?side4 A5.out).mono ?_); (case side1 => repeat (first | exact (Kd.C_below HR0_1.out (by repeat (first | (with_reducible first | exact HB.out | apply below_alloc | apply pw_below_drewN | apply below_drew1 | refine below_set ?_ GE364.out | refine below_set ?_ GE365.out) | exact HB.out))) | (with_reducible refine Kd.C_alloc ?_ _) | (with_reducible refine Kd.C_drewN ?_ _) | (with_reducible refine Kd.C_drew ?_))); (case side2 => exact HC0_1.out); (case side3 => repeat (first | exact (Kd.C_below HR1_1.out (by repeat (first | (with_reducible first | exact HB.out | apply below_alloc | apply pw_below_drewN | apply below_drew1 | refine below_set ?_ GE364.out | refine below_set ?_ GE365.out) | exact HB.out))) | (with_reducible refine Kd.C_alloc ?_ _) | (with_reducible refine Kd.C_drewN ?_ _) | (with_reducible refine Kd.C_drew ?_))); (case side4 => exact HC1_1.out); rintro e w' ⟨rfl, ⟨nd, rfl⟩⟩; refine ⟨_, rfl, ?_⟩))
      go_ret
      exact ⟨by first | rfl | (simp [errW_none, errW_some] <;> rfl) | (simp [*, errW_none, errW_some] <;> rfl), by repeat (first | (with_reducible first | exact HB.out | apply below_alloc | apply pw_below_drewN | apply below_drew1 | refine below_set ?_ GE364.out | refine below_set ?_ GE365.out) | exact HB.out)⟩
  · replace c4 := Bool.eq_false_iff.mpr c4
    subst c4
    have H1 : (some false) = some r := by rw [if_neg (show ¬ (false = true) by decide)] at H; exact H
    clear H
    have H := H1
    clear H1
    obtain rfl := Option.some.inj H
    go_enter Try.func25, Try.ntmps25
    go_wp2_with (first | ((with_reducible refine gate_dst (N := 2) rfl ?_); refine box_event ?hg (N := 2) ?hd (cs := #[.slice A0_0 l0_0.length c0_0, .slice A0_1 l0_1.length c0_1]) (t := 25) ?hr ?_; (case hd => rfl); (case hg => rfl); (case hr => first | (go_simp; done) | (go_simp; rfl)); intro gb364 hg w17 hbox hb; have n0_ := Aside0.mk (below_step (by repeat (first | (with_reducible first | exact HB.out | apply below_alloc | apply pw_below_drewN | apply below_drew1) | exact HB.out)) hb); have n1_ := Aside0.mk (hbox); have n2_ := Aside0.mk ((by rw [hg]; exact (below_size (by repeat (first | (with_reducible first | exact HB.out | apply below_alloc | apply pw_below_drewN | apply below_drew1) | exact HB.out))) : w.heap.size ≤ gb364)); have n3_ := Aside0.mk ((by rw [hg]; exact (below_size (by repeat (first | (with_reducible first | exact HB.out | apply below_alloc | apply pw_below_drewN | apply below_drew1) | exact HB.out))) : w.heap.size ≤ gb364)); clear HB; have HB := n0_; have BK364 := n1_; have GW364 := n2_; have GE364 := n3_; clear n0_ n1_ n2_ n3_; clear hb hbox hg) | ((with_reducible refine gate_dst (N := 3) rfl ?_); refine box_event ?hg (N := 3) ?hd (cs := #[.slice A1_0 l1_0.length c1_0, .slice A1_1 l1_1.length c1_1]) (t := 25) ?hr ?_; (case hd => rfl); (case hg => rfl); (case hr => first | (go_simp; done) | (go_simp; rfl)); intro gb365 hg w18 hbox hb; have n0_ := Aside0.mk (blk_below (g := gb364) (o := .cells #[.slice A0_0 l0_0.length c0_0, .slice A0_1 l0_1.length c0_1] 25 (0, 0)) (by (with_reducible repeat (first | refine blk_drewN ?_ _ | refine blk_drew ?_ | refine blk_alloc ?_ _)); exact BK364.out) hb); have n1_ := Aside0.mk (below_step (by repeat (first | (with_reducible first | exact HB.out | apply below_alloc | apply pw_below_drewN | apply below_drew1 | refine below_set ?_ GE364.out) | exact HB.out)) hb); have n2_ := Aside0.mk (hbox); have n3_ := Aside0.mk ((by rw [hg]; exact (below_size (by repeat (first | (with_reducible first | exact HB.out | apply below_alloc | apply pw_below_drewN | apply below_drew1 | refine below_set ?_ GE364.out) | exact HB.out))) : w.heap.size ≤ gb365)); have n4_ := Aside0.mk ((by rw [hg]; exact (below_size (by repeat (first | (with_reducible first | exact HB.out | apply below_alloc | apply pw_below_drewN | apply below_drew1 | refine below_set ?_ GE364.out) | exact HB.out))) : w.heap.size ≤ gb365)); have n5_ := Aside0.mk ((by rw [hg]; exact Nat.ne_of_lt (blk_lt (g := gb364) (o := .cells #[.slice A0_0 l0_0.length c0_0, .slice A0_1 l0_1.length c0_1] 25 (0, 0)) (by (with_reducible repeat (first | refine blk_drewN ?_ _ | refine blk_drew ?_ | refine blk_alloc ?_ _)); exact BK364.out)) : gb364 ≠ gb365)); have n6_ := Aside0.mk ((by rw [hg]; exact Nat.ne_of_gt (blk_lt (g := gb364) (o := .cells #[.slice A0_0 l0_0.length c0_0, .slice A0_1 l0_1.length c0_1] 25 (0, 0)) (by (with_reducible repeat (first | refine blk_drewN ?_ _ | refine blk_drew ?_ | refine blk_alloc ?_ _)); exact BK364.out)) : gb365 ≠ gb364)); clear BK364; clear HB; have BK364 := n0_; have HB := n1_; have BK365 := n2_; have GW365 := n3_; have GE365 := n4_; have NB364_365 := n5_; have NB365_364 := n6_; clear n0_ n1_ n2_ n3_ n4_ n5_ n6_; clear hb hbox hg; have hnb19 := NB364_365.out; have hnc19 := NB365_364.out; have hcz20_0 : w18.cell? ⟨gb364, 0, none⟩ = some (.slice A0_0 l0_0.length c0_0) := (blk_cell BK364.out 0).trans rfl; have hcz20_1 : w18.cell? ⟨gb364, 1, none⟩ = some (.slice A0_1 l0_1.length c0_1) := (blk_cell BK364.out 1).trans rfl; have hfz20_0 := blk_frozen BK364.out 0; have hfz20_1 := blk_frozen BK364.out 1; have hcz21_0 : w18.cell? ⟨gb365, 0, none⟩ = some (.slice A1_0 l1_0.length c1_0) := (blk_cell BK365.out 0).trans rfl; have hcz21_1 : w18.cell? ⟨gb365, 1, none⟩ = some (.slice A1_1 l1_1.length c1_1) := (blk_cell BK365.out 1).trans rfl; have hfz21_0 := blk_frozen BK365.out 0; have hfz21_1 := blk_frozen BK365.out 1) | ((with_reducible refine gate_callee (f := 38) rfl ?_); refine goesL_ (some 9) rfl rfl Try.func38 (by kernel_rfl) rfl #[.slice A0_0 l0_0.length c0_0, .slice A1_0 l1_0.length c1_0] rfl (by (try simp only [List.map_toArray, List.map_cons, List.map_nil]); first | done | rfl | (simp only [List.length_drop, List.length_take]; rfl)) ?_; (with_reducible refine (laws_eqIntSS.calls k _ _ l0_0 _ _ l1_0 false _ ?side1 ?side2 ?side3 ?side4 A3.out).mono ?_); (case side1 => repeat (first | exact (Kd.C_below HR0_0.out HB.out) | (with_reducible refine Kd.C_alloc ?_ _) | (with_reducible refine Kd.C_drewN ?_ _) | (with_reducible refine Kd.C_drew ?_))); (case side2 => exact HC0_0.out); (case side3 => repeat (first | exact (Kd.C_below HR1_0.out HB.out) | (with_reducible refine Kd.C_alloc ?_ _) | (with_reducible refine Kd.C_drewN ?_ _) | (with_reducible refine Kd.C_drew ?_))); (case side4 => exact HC1_0.out); rintro e w' ⟨rfl, ⟨nd, rfl⟩⟩; refine ⟨_, rfl, ?_⟩))
    go_ret
    exact ⟨by first | rfl | (simp [errW_none, errW_some] <;> rfl) | (simp [*, errW_none, errW_some] <;> rfl), by repeat (first | (with_reducible first | exact HB.out | apply below_alloc | apply pw_below_drewN | apply below_drew1 | refine below_set ?_ GE364.out | refine below_set ?_ GE365.out) | exact HB.out)⟩

/-! ### laws_markIntS: function 72 -/
def laws_markIntS.l0 : Nat → List Int → Int → Int → Option (Int × List Int)
  | 0, _, _, _ => none
  | k + 1, x0, x1, x5 => if x5 < (x0.length : Int) then (if 0 ≤ x5 then (laws_markIntS.l0 k (x0.set (x5 : Int).toNat x1) (wrap64 (x1 + 1)) (wrap64 (x5 + 1))) else (none)) else (some (x1, x0))
def laws_markIntS.f (k : Nat) (l0 : List Int) (a1 : Int) : Option (Int × List Int) := laws_markIntS.l0 k l0 a1 0
theorem laws_markIntS.mono_l : ∀ k, (∀ y0 y1 y2, LeO (laws_markIntS.l0 k y0 y1 y2) (laws_markIntS.l0 (k + 1) y0 y1 y2))
  | 0 => fun _ _ _ r h => by simp [laws_markIntS.l0] at h
  | k + 1 => by
    have ih0 := laws_markIntS.mono_l k
    · intro y0 y1 y2
      unfold laws_markIntS.l0
      repeat' first
      | (with_reducible exact ih0 _ _ _)
      | (with_reducible exact LeO.refl _)
      | (with_reducible exact LeO.none _)
      | (with_reducible refine LeO.ite ?_ ?_)
      | (with_reducible refine LeO.bind ?_ (fun _ => ?_))
      | exact ih0 _ _ _
      | exact LeO.none _
      | refine LeO.ite ?_ ?_
      | refine LeO.bind ?_ (fun _ => ?_)
theorem laws_markIntS.mono : ∀ a0 a1 k, LeO (laws_markIntS.f k a0 a1) (laws_markIntS.f (k + 1) a0 a1) := by
  intro a0 a1 k
  have ih0 := laws_markIntS.mono_l k
  unfold laws_markIntS.f
  repeat' first
      | (with_reducible exact ih0 _ _ _)
      | (with_reducible exact LeO.refl _)
      | (with_reducible exact LeO.none _)
      | (with_reducible refine LeO.ite ?_ ?_)
      | (with_reducible refine LeO.bind ?_ (fun _ => ?_))
      | exact ih0 _ _ _
      | exact LeO.none _
      | refine LeO.ite ?_ ?_
      | refine LeO.bind ?_ (fun _ => ?_)
set_option maxHeartbeats 8000000 in
set_option maxRecDepth 100000 in
theorem laws_markIntS.calls (k : Nat) (P0_ : Nat → Prop) (u9000_ : Value) (l0 : List Int) (a1 : Int) (r1 : Int) (r2 : List Int) (w0 w : World) (hB : Below w0.heap.size w0 w) (ho0 : Kd.R (Kd.int .i64) 3 w w0.heap.size P0_ u9000_ l0) (h : laws_markIntS.f k l0 a1 = some (r1, r2)) :
    Calls Try.prog 72 #[u9000_, .int .i64 a1] w fun e w' => e = .returned (.int .i64 r1) ∧ Kd.R (Kd.int .i64) 3 w' w0.heap.size (fun k_ => (P0_ k_ ∨ w.heap.size ≤ k_)) u9000_ r2 ∧ Below w0.heap.size w0 w' ∧ Kept w w' (fun k_ => P0_ k_) := by
  have HO0 := Aside0.mk (show Kd.R (Kd.int .i64) 3 w w0.heap.size (fun k_ => (P0_ k_ ∨ w.heap.size ≤ k_)) u9000_ l0 from Kd.R_mono ho0 (fun k_ hk => (.inl hk)))
  have HK := Aside0.mk (Kept.refl w (fun k_ => P0_ k_))
  have HW0 := Aside0.mk hB.size
  have HB := Aside0.mk hB
  clear hB
  have H : (laws_markIntS.l0 k l0 a1 0) = some (r1, r2) := h
  clear h
  have H' := Aside0.mk H
  clear H
  go_enter Try.func72, Try.ntmps72
  go_wp2
  go_loopg [1, 5] k (fun kq v1 v5 w' => ∃ (x0_1 : List Int) (x1_1 : Int) (x5_1 : Int), v1 = .int .i64 x1_1 ∧ v5 = .int .i64 x5_1 ∧ Aside0 (laws_markIntS.l0 kq x0_1 x1_1 x5_1 = some (r1, r2)) ∧ Aside0 (kq ≤ k) ∧ Aside0 (Kd.R (Kd.int .i64) 3 w' w0.heap.size (fun k_ => (P0_ k_ ∨ w.heap.size ≤ k_)) u9000_ x0_1) ∧ Aside0 (Kept w w' (fun k_ => P0_ k_)) ∧ Aside0 (Below w0.heap.size w0 w'))
  case atStart => exact ⟨(l0), (a1), (0), (by first | rfl | (simp; done) | (simp [*]; done)), (by first | rfl | (simp; done) | (simp [*]; done)), H', ⟨Nat.le_refl _⟩, ⟨by (with_reducible repeat (first | apply Kd.R_alloc | apply Kd.R_drewN | apply Kd.R_drew)); exact HO0.out⟩, ⟨by repeat (first | (with_reducible first | exact HK.out | apply Kept.alloc | apply Kept.drewN | apply Kept.drew) | exact HK.out)⟩, ⟨by repeat (first | (with_reducible first | exact HB.out | apply below_alloc | apply pw_below_drewN | apply below_drew1) | exact HB.out)⟩⟩
  case round =>
    clear H'
    try clear p2
    obtain ⟨x0_1, x1_1, x5_1, rfl, rfl, HA, HK1, HO_0, HK, HB⟩ := hrel
    cases gk with
    | zero => exact absurd HA.out (by simp [laws_markIntS.l0])
    | succ k1 =>
      have H := HA.out
      clear HA
      simp only [laws_markIntS.l0] at H
      by_cases c3 : x5_1 < (x0_1.length : Int)
      · rw [if_pos c3] at H
        have c3b0 : decide (x5_1 < (x0_1.length : Int)) = true := decide_eq_true c3
        clear c3
        by_cases c4 : 0 ≤ x5_1
        · rw [if_pos c4] at H
          have c4b0 : decide (0 ≤ x5_1) = true := decide_eq_true c4
          clear c4
          obtain ⟨y368, hy368⟩ : ∃ y_ : List Int, y_ = (x0_1.set (x5_1 : Int).toNat x1_1) := ⟨_, rfl⟩
          replace H : (laws_markIntS.l0 k1 y368 (wrap64 (x1_1 + 1)) (wrap64 (x5_1 + 1))) = some (r1, r2) := by first | (rw [hy368]; with_reducible exact H) | (have H2_ := (Option.bind_some _ _).symm.trans H; rw [hy368]; with_reducible exact H2_) | (have H2_ := (Option.bind_some _ _).symm.trans H; with_reducible exact H2_) | with_reducible exact H | (rw [hy368]; exact H) | exact H
          have Ny368 := Aside0.mk hy368
          clear hy368
          have H' := Aside0.mk H
          clear H
          obtain ⟨Ao6, co6, eo6⟩ := Kd.R_slice HO_0.out
          subst eo6
          have p5 : 0 ≤ (x5_1 : Int) := of_decide_eq_true (by first | (with_reducible assumption) | assumption)
          have q5 : (x5_1 : Int) < ((x0_1.length : Int) : Int) := of_decide_eq_true (by first | (with_reducible assumption) | assumption)
          obtain ⟨go5, co5, eo5, gb5, gl5, cl5, HG5⟩ := Kd.R_form HO_0.out (by omega)
          (first | cases eo5 | (injection eo5 with ea_ en_ ec_; (first | subst ea_ | (injection ea_ with ea_; subst ea_)); subst ec_; clear en_))
          have GB5 := Aside0.mk gb5
          have GG5 := Aside0.mk HG5
          clear gb5 gl5 HG5
          have HMgo5 := Aside0.mk (show (P0_ go5 ∨ w.heap.size ≤ go5) from (HO_0.out.1 _ rfl))
          obtain ⟨hx5_0, hf5_0⟩ := Kd.R_celln 0 HO_0.out (x5_1 : Int) p5 q5
          replace p5 := eq_true p5
          replace q5 := eq_true q5
          have HP7 := Kd.R_putg HO_0.out (x5_1 : Int) x1_1
          go_wp2_with (first | ((with_reducible refine gate_store (t := 3) (p := 15) rfl ?_); refine store_event (t := 3) (p := 15) (v := ?vo_w8) (w1 := (wr.setCell ⟨go5, (x5_1 : Int).toNat, none⟩ (.int .i64 x1_1))) ?hg ?ho ?hn ?hr ?_; (case ho => rfl); (case hg => rfl); (case hn => rfl); (case hr => first | (go_simp; done) | (go_simp; rfl)); intro w8 hw; have hg : wr.grownBy w8 (some go5) := (by rw [hw]; exact HP7.2); have hp_ : Kd.R (Kd.int .i64) 3 w8 w0.heap.size (fun k_ => (P0_ k_ ∨ w.heap.size ≤ k_)) (.slice (some ⟨go5, 0, none⟩) x0_1.length co6) y368 := (by rw [hw, Ny368.out]; exact HP7.1); clear HP7; have n0_ := Aside0.mk (hp_); have n1_ := Aside0.mk ((by rw [hw]; exact below_set (HB.out) GB5.out : Below w0.heap.size w0 w8)); have n2_ := Aside0.mk (Kept.of_grown (S := (fun k_ => P0_ k_)) hg (by repeat (first | (with_reducible first | exact HK.out | apply Kept.alloc | apply Kept.drewN | apply Kept.drew) | exact HK.out)) (fun k_ e_ => (HO_0.out.1 k_ e_))); clear HO_0; clear HB; clear HK; have HO_0 := n0_; have HB := n1_; have HK := n2_; clear n0_ n1_ n2_; clear hg hw hp_))
          go_roundg k1
          case measure => have := HK1.out; omega
          case rel => exact ⟨(y368), (wrap64 (x1_1 + 1)), (wrap64 (x5_1 + 1)), (by first | rfl | (simp; done) | (simp [*]; done)), (by first | rfl | (simp; done) | (simp [*]; done)), H', ⟨by have := HK1.out; omega⟩, ⟨by (with_reducible repeat (first | apply Kd.R_alloc | apply Kd.R_drewN | apply Kd.R_drew)); exact HO_0.out⟩, ⟨by repeat (first | (with_reducible first | exact HK.out | apply Kept.alloc | apply Kept.drewN | apply Kept.drew) | exact HK.out)⟩, ⟨by repeat (first | (with_reducible first | exact HB.out | apply below_alloc | apply pw_below_drewN | apply below_drew1) | exact HB.out)⟩⟩
        · rw [if_neg c4] at H
          exact absurd H (by simp)
      · rw [if_neg c3] at H
        have c3b0 : decide (x5_1 < (x0_1.length : Int)) = false := decide_eq_false c3
        clear c3
        simp only [Option.some.injEq, Prod.mk.injEq] at H
        obtain ⟨rfl, rfl⟩ := H
        obtain ⟨Ao9, co9, eo9⟩ := Kd.R_slice HO_0.out
        subst eo9
        go_wp2
        go_ret
        exact ⟨by first | rfl | (simp [errW_none, errW_some] <;> rfl) | (simp [*, errW_none, errW_some] <;> rfl), by (with_reducible repeat (first | apply Kd.R_alloc | apply Kd.R_drewN | apply Kd.R_drew)); exact HO_0.out, by repeat (first | (with_reducible first | exact HB.out | apply below_alloc | apply pw_below_drewN | apply below_drew1) | exact HB.out), by repeat (first | (with_reducible first | exact HK.out | apply Kept.alloc | apply Kept.drewN | apply Kept.drew) | exact HK.out)⟩

/-! ### laws_markIntSS: function 39 -/
--@import Derived.Test.YtapnohcfnclleaaV2
open Go.Proofs.Ytapnohcfnclleaa.My
def laws_markIntSS.l0 : Nat → List (List Int) → Int → Int → Option (Int × List (List Int))
  | 0, _, _, _ => none
  | k + 1, l0, q, i => if i < (l0.length : Int) then (if 0 ≤ i then ((laws_markIntS.f k (l0.getD i.toNat ([] : List Int)) q).bind fun z => (laws_markIntSS.l0 k (l0.set i.toNat z.2) z.1 (wrap64 (i + 1)))) else none) else some (q, l0)
def laws_markIntSS.f (k : Nat) (l0 : List (List Int)) (q : Int) : Option (Int × List (List Int)) := laws_markIntSS.l0 k l0 q 0
theorem laws_markIntSS.mono_l : ∀ k, (∀ y0 y1 y2, LeO (laws_markIntSS.l0 k y0 y1 y2) (laws_markIntSS.l0 (k + 1) y0 y1 y2))
  | 0 => fun _ _ _ r h => by simp [laws_markIntSS.l0] at h
  | k + 1 => by
    have ih0 := laws_markIntSS.mono_l k
    · intro y0 y1 y2
      unfold laws_markIntSS.l0
      repeat' first
      | (with_reducible exact ih0 _ _ _)
      | (with_reducible exact laws_markIntS.mono _ _ _)
      | (with_reducible exact LeO.refl _)
      | (with_reducible exact LeO.none _)
      | (with_reducible refine LeO.ite ?_ ?_)
      | (with_reducible refine LeO.bind ?_ (fun _ => ?_))
      | exact ih0 _ _ _
      | exact laws_markIntS.mono _ _ _
      | exact LeO.none _
      | refine LeO.ite ?_ ?_
      | refine LeO.bind ?_ (fun _ => ?_)
theorem laws_markIntSS.mono : ∀ a0 a1 k, LeO (laws_markIntSS.f k a0 a1) (laws_markIntSS.f (k + 1) a0 a1) := by
  intro a0 a1 k
  have ih0 := laws_markIntSS.mono_l k
  unfold laws_markIntSS.f
  repeat' first
      | (with_reducible exact ih0 _ _ _)
      | (with_reducible exact laws_markIntS.mono _ _ _)
      | (with_reducible exact LeO.refl _)
      | (with_reducible exact LeO.none _)
      | (with_reducible refine LeO.ite ?_ ?_)
      | (with_reducible refine LeO.bind ?_ (fun _ => ?_))
      | exact ih0 _ _ _
      | exact laws_markIntS.mono _ _ _
      | exact LeO.none _
      | refine LeO.ite ?_ ?_
      | refine LeO.bind ?_ (fun _ => ?_)
set_option maxHeartbeats 8000000 in
set_option maxRecDepth 100000 in
theorem laws_markIntSS.calls (k : Nat) (P0_ : Nat → Prop) (u : Value) (l0 : List (List Int)) (a1 : Int) (r1 : Int) (r2 : List (List Int)) (w0 w : World) (hB : Below w0.heap.size w0 w) (ho0 : Kd.S (Kd.slice 3 (Kd.int .i64)) 36 w w0.heap.size P0_ u l0) (h : laws_markIntSS.f k l0 a1 = some (r1, r2)) :
    Calls Try.prog 39 #[u, .int .i64 a1] w fun e w' => e = .returned (.int .i64 r1) ∧ Kd.S (Kd.slice 3 (Kd.int .i64)) 36 w' w0.heap.size P0_ u r2 ∧ Below w0.heap.size w0 w' ∧ Kept w w' P0_ := by
  unfold laws_markIntSS.f at h
  have HO := Aside0.mk ho0
  have HB := Aside0.mk hB
  have H' := Aside0.mk h
  clear ho0 hB h
  obtain ⟨A0, c0, e0⟩ := Kd.S_slice HO.out
  subst e0
  go_enter Try.func39, Try.ntmps39
  go_wp2_with fail
  go_loopg [1, 5] k (fun kq v1 v5 w' => ∃ (l : List (List Int)) (q i : Int), v1 = .int .i64 q ∧ v5 = .int .i64 i ∧ Aside0 (laws_markIntSS.l0 kq l q i = some (r1, r2)) ∧ Aside0 (kq ≤ k) ∧ Aside0 (l.length = l0.length) ∧ Aside0 (Kd.S (Kd.slice 3 (Kd.int .i64)) 36 w' w0.heap.size P0_ (.slice A0 l0.length c0) l) ∧ Aside0 (Below w0.heap.size w0 w') ∧ Aside0 (Kept w w' P0_))
  case atStart => exact ⟨l0, a1, 0, rfl, rfl, H', ⟨Nat.le_refl _⟩, ⟨rfl⟩, HO, HB, ⟨Kept.refl _ _⟩⟩
  case round =>
    clear H' HO HB
    obtain ⟨l, q, i, rfl, rfl, HA, HK, HL, HO, HB, HKp⟩ := hrel
    cases gk with
    | zero => exact absurd HA.out (by simp [laws_markIntSS.l0])
    | succ k1 =>
      have H := HA.out
      clear HA
      rw [laws_markIntSS.l0] at H
      by_cases c5 : i < (l.length : Int)
      · rw [if_pos c5] at H
        have c5' : i < (l0.length : Int) := by have := HL.out; omega
        have b5 : decide (i < (l0.length : Int)) = true := decide_eq_true c5'
        by_cases c6 : 0 ≤ i
        · rw [if_pos c6] at H
          replace H := Option.bind_eq_some_iff.mp H
          obtain ⟨⟨q2, x2⟩, hx, H⟩ := H
          have HX := Aside0.mk hx
          have H' := Aside0.mk H
          clear H hx
          obtain ⟨g, cap, eg, bg1, bg2, bg3⟩ := Kd.S_form HO.out (by have := HL.out; omega)
          obtain ⟨eA, eL, eC⟩ := (Value.slice.injEq _ _ _ _ _ _).mp eg
          subst eA
          subst eC
          have p5 := eq_true c6
          have q5 := eq_true c5'
          obtain ⟨oki, c, hcl, hM, hcc, hok, hH⟩ := Kd.S_lend HO.out ([] : List Int) i c6 c5'
          obtain ⟨vi, ec, hvi⟩ := hM
          subst ec
          have hcell := hcc 0 vi rfl
          rw [Nat.add_zero, show (Kd.slice 3 (Kd.int .i64)).sz = 1 from rfl, Nat.mul_one] at hcell
          have HV := Aside0.mk hvi
          have HH := Aside0.mk hH
          have HOK := Aside0.mk hok
          have HM : Aside0 (∀ (W : World) (x : List Int), Kd.R (Kd.int .i64) 3 W w0.heap.size oki vi x → (Kd.slice 3 (Kd.int .i64)).M W w0.heap.size oki x [vi]) := ⟨fun W x hx => ⟨vi, rfl, hx⟩⟩
          clear hcc hcl hvi hH hok bg1 bg2 bg3 eg eL c5 c5' c6
          go_wp2_with (first | ((with_reducible refine gate_callee (f := 72) rfl ?_); refine goesL_ (some 17) rfl rfl Try.func72 (by kernel_rfl) rfl #[vi, .int .i64 q] rfl (by (try simp only [List.map_toArray, List.map_cons, List.map_nil]); first | done | rfl) ?_; (with_reducible refine (laws_markIntS.calls k1 oki vi (l.getD i.toNat []) q q2 x2 w0 _ HB.out HV.out HX.out).mono ?_); rintro e wb ⟨rfl, hr, hb, hk⟩; have hr2 := Kd.R_reok rfl hr (fun k_ e_ => HV.out.1 k_ e_); have ho2 := Kd.H_back (Kd.H_step HH.out (fun k _ hn hlt => hk.2 k hlt hn)) (HM.out _ _ hr2) (fun k hk_ => hk_); have HO2 := Aside0.mk ho2; have HB2 := Aside0.mk hb; have HK2 := Aside0.mk (HKp.out.then_ hk (fun k hk_ => .inl (HOK.out k hk_).1)); clear hr hr2 ho2 hb hk; refine ⟨_, rfl, ?_⟩))
          go_roundg k1
          case measure => have := HK.out; omega
          case rel => exact ⟨l.set i.toNat x2, q2, wrap64 (i + 1), rfl, rfl, H', ⟨by have := HK.out; omega⟩, ⟨by rw [List.length_set]; exact HL.out⟩, HO2, HB2, HK2⟩
        · rw [if_neg c6] at H
          exact absurd H (by simp)
      · rw [if_neg c5] at H
        have c5b0 : decide (i < (l0.length : Int)) = false := decide_eq_false (by have := HL.out; omega)
        have e0 := Option.some.inj H
        have e1 : q = r1 := congrArg Prod.fst e0
        have e2 : l = r2 := congrArg Prod.snd e0
        subst e1
        subst e2
        clear H c5 e0
        go_wp2
        go_ret
        exact ⟨rfl, HO.out, HB.out, HKp.out⟩

/-! ### laws_markPicture: function 33 -/
--@import Derived.Test.YtapnohcfnclleaaV2
open Go.Proofs.Ytapnohcfnclleaa.My
def laws_markPicture.f (k : Nat) (l0 l1 : List (List Int)) (q : Int) : Option Int := (laws_markIntSS.f k l0 q).bind fun z => ((laws_markIntSS.f k l1 z.1).bind fun y => some y.1)
theorem laws_markPicture.mono : ∀ a0 a1 a2 k, LeO (laws_markPicture.f k a0 a1 a2) (laws_markPicture.f (k + 1) a0 a1 a2) := by
  intro a0 a1 a2 k
  unfold laws_markPicture.f
  repeat' first
      | (with_reducible exact laws_markIntSS.mono _ _ _)
      | (with_reducible exact LeO.refl _)
      | (with_reducible exact LeO.none _)
      | (with_reducible refine LeO.ite ?_ ?_)
      | (with_reducible refine LeO.bind ?_ (fun _ => ?_))
      | exact laws_markIntSS.mono _ _ _
      | exact LeO.none _
      | refine LeO.ite ?_ ?_
      | refine LeO.bind ?_ (fun _ => ?_)
set_option maxHeartbeats 8000000 in
set_option maxRecDepth 100000 in
theorem laws_markPicture.calls (k : Nat) (lo0 hi0 lo1 hi1 : Nat) (A0 A1 : Option Addr) (n0 n1 c0 c1 : Nat) (l0 l1 : List (List Int)) (a1 r : Int) (w0 w : World) (hB : Below w0.heap.size w0 w) (h0 : Own (Kd.slice 3 (Kd.int .i64)) 36 w w0.heap.size lo0 hi0 (.slice A0 n0 c0) l0) (h1 : Own (Kd.slice 3 (Kd.int .i64)) 36 w w0.heap.size lo1 hi1 (.slice A1 n1 c1) l1) (hd : hi0 ≤ lo1) (h : laws_markPicture.f k l0 l1 a1 = some r) :
    Calls Try.prog 33 #[.agg #[.slice A0 n0 c0, .slice A1 n1 c1], .int .i64 a1] w fun e w' => e = .returned (.int .i64 r) ∧ Below w0.heap.size w0 w' ∧ Kept w w' (fun k => (lo0 ≤ k ∧ k < hi0) ∨ (lo1 ≤ k ∧ k < hi1)) := by
  have hu25 := Try.underlying25
  unfold laws_markPicture.f at h
  obtain ⟨⟨z1, zx⟩, h2, h⟩ := Option.bind_eq_some_iff.mp h
  obtain ⟨⟨y1, yx⟩, h3, h⟩ := Option.bind_eq_some_iff.mp h
  have er : y1 = r := Option.some.inj h
  subst er
  have A2 := Aside0.mk h2
  have A3 := Aside0.mk h3
  have HD := Aside0.mk hd
  clear h2 h3 h hd
  obtain ⟨W1, hW1⟩ : ∃ W1 : World, W1 = w.alloc (Obj.cells #[.slice A0 n0 c0, .slice A1 n1 c1] 25) := ⟨_, rfl⟩
  have HW1 := Aside0.mk hW1
  have HBW : Aside0 (Below w.heap.size w W1) := ⟨by rw [hW1]; exact (Below.refl _ _).alloc (Nat.le_refl _) _⟩
  have HB := Aside0.mk (below_step hB HBW.out)
  have HG : Aside0 (W1.heap[w.heap.size]? = some (Obj.cells #[.slice A0 n0 c0, .slice A1 n1 c1] 25 (0, 0))) := ⟨by rw [hW1]; exact blk_new _ _⟩
  have HT0 := Aside0.mk h0.top
  have HT1 := Aside0.mk h1.top
  have HX0 := Aside0.mk (h0.below HBW.out)
  have HX1 := Aside0.mk (h1.below HBW.out)
  have cb0 : (w.alloc (Obj.cells #[.slice A0 n0 c0, .slice A1 n1 c1] 25)).cell? ⟨w.heap.size, 0, none⟩ = some (.slice A0 n0 c0) := blk_cell (blk_new _ _) 0
  have cb1 : (w.alloc (Obj.cells #[.slice A0 n0 c0, .slice A1 n1 c1] 25)).cell? ⟨w.heap.size, 1, none⟩ = some (.slice A1 n1 c1) := blk_cell (blk_new _ _) 1
  clear hW1 h0 h1 hB
  go_enter Try.func33, Try.ntmps33
  go_wp2_with (first | ((with_reducible refine gate_callee (f := 39) rfl ?_); (try rw [← HW1.out]); refine goesL_ (some 8) rfl rfl Try.func39 (by kernel_rfl) rfl #[.slice A0 n0 c0, .int .i64 a1] rfl (by (try simp only [List.map_toArray, List.map_cons, List.map_nil]); first | done | rfl) ?_; (with_reducible refine (laws_markIntSS.calls k (fun k_ => lo0 ≤ k_ ∧ k_ < hi0) (.slice A0 n0 c0) l0 a1 z1 zx w0 _ HB.out HX0.out.row A2.out).mono ?_); rintro e wb ⟨rfl, hr, hb, hk⟩; refine ⟨_, rfl, ?_⟩; have HB2 := Aside0.mk hb; have HK1 := Aside0.mk hk; have HG2 := Aside0.mk (kept_blk HG.out hk (fun hp => by have h1 := HT0.out; have h2 : lo0 ≤ w.heap.size ∧ w.heap.size < hi0 := hp; omega)); have HX1b := Aside0.mk (HX1.out.kept hk (fun k_ hk_ hp_ => by have h1 := HD.out; have h2 : lo0 ≤ k_ ∧ k_ < hi0 := hp_; omega)); have cd0 : wb.cell? ⟨w.heap.size, 0, none⟩ = some (.slice A0 n0 c0) := blk_cell HG2.out 0; have cd1 : wb.cell? ⟨w.heap.size, 1, none⟩ = some (.slice A1 n1 c1) := blk_cell HG2.out 1; clear hr hb hk) | ((with_reducible refine gate_callee (f := 39) rfl ?_); refine goesL_ (some 12) rfl rfl Try.func39 (by kernel_rfl) rfl #[.slice A1 n1 c1, .int .i64 z1] rfl (by (try simp only [List.map_toArray, List.map_cons, List.map_nil]); first | done | rfl) ?_; (with_reducible refine (laws_markIntSS.calls k (fun k_ => lo1 ≤ k_ ∧ k_ < hi1) (.slice A1 n1 c1) l1 z1 y1 yx w0 _ HB2.out HX1b.out.row A3.out).mono ?_); rintro e we ⟨rfl, hr, hb, hk⟩; refine ⟨_, rfl, ?_⟩; have HB3 := Aside0.mk hb; have KW : Aside0 (Kept w we (fun k => (lo0 ≤ k ∧ k < hi0) ∨ (lo1 ≤ k ∧ k < hi1))) := ⟨⟨Nat.le_trans HBW.out.size (Nat.le_trans HK1.out.1 hk.1), fun k_ hlt hn => (by have s1 := HBW.out.size; have s2 := HK1.out.1; rw [hk.2 k_ (by omega) (fun hp => hn (.inr hp)), HK1.out.2 k_ (by omega) (fun hp => hn (.inl hp)), HBW.out.block k_ hlt])⟩⟩; clear hr hb hk))
  go_ret
  exact ⟨rfl, HB3.out, KW.out⟩

/-! ### laws_heldIntS: function 73 -/
def laws_heldIntS.l0 : Nat → List Int → Int → Int → Option (Int)
  | 0, _, _, _ => none
  | k + 1, x0, x1, x5 => if x5 < (x0.length : Int) then (if 0 ≤ x5 then (if (rd x0 x5) = x1 then (laws_heldIntS.l0 k x0 (wrap64 (x1 + 1)) (wrap64 (x5 + 1))) else (some (-1))) else (none)) else (some x1)
def laws_heldIntS.f (k : Nat) (l0 : List Int) (a1 : Int) : Option (Int) := laws_heldIntS.l0 k l0 a1 0
theorem laws_heldIntS.mono_l : ∀ k, (∀ y0 y1 y2, LeO (laws_heldIntS.l0 k y0 y1 y2) (laws_heldIntS.l0 (k + 1) y0 y1 y2))
  | 0 => fun _ _ _ r h => by simp [laws_heldIntS.l0] at h
  | k + 1 => by
    have ih0 := laws_heldIntS.mono_l k
    · intro y0 y1 y2
      unfold laws_heldIntS.l0
      repeat' first
      | (with_reducible exact ih0 _ _ _)
      | (with_reducible exact LeO.refl _)
      | (with_reducible exact LeO.none _)
      | (with_reducible refine LeO.ite ?_ ?_)
      | (with_reducible refine LeO.bind ?_ (fun _ => ?_))
      | exact ih0 _ _ _
      | exact LeO.none _
      | refine LeO.ite ?_ ?_
      | refine LeO.bind ?_ (fun _ => ?_)
theorem laws_heldIntS.mono : ∀ a0 a1 k, LeO (laws_heldIntS.f k a0 a1) (laws_heldIntS.f (k + 1) a0 a1) := by
  intro a0 a1 k
  have ih0 := laws_heldIntS.mono_l k
  unfold laws_heldIntS.f
  repeat' first
      | (with_reducible exact ih0 _ _ _)
      | (with_reducible exact LeO.refl _)
      | (with_reducible exact LeO.none _)
      | (with_reducible refine LeO.ite ?_ ?_)
      | (with_reducible refine LeO.bind ?_ (fun _ => ?_))
      | exact ih0 _ _ _
      | exact LeO.none _
      | refine LeO.ite ?_ ?_
      | refine LeO.bind ?_ (fun _ => ?_)
set_option maxHeartbeats 8000000 in
set_option maxRecDepth 100000 in
theorem laws_heldIntS.calls (k : Nat) (A0 : Option Addr) (c0 : Nat) (l0 : List Int) (a1 : Int) (r : Int) (w : World) (hr0 : Kd.C (Kd.int .i64) w A0 l0.length l0) (hc0 : l0.length ≤ c0) (h : laws_heldIntS.f k l0 a1 = some r) :
    Calls Try.prog 73 #[.slice A0 l0.length c0, .int .i64 a1] w fun e w' => e = .returned (.int .i64 r) ∧ Drawn0 w w' := by
  have HR0 := Aside0.mk hr0
  have HC0 := Aside0.mk hc0
  clear hr0 hc0
  have H : (laws_heldIntS.l0 k l0 a1 0) = some r := h
  clear h
  have H' := Aside0.mk H
  clear H
  go_enter Try.func73, Try.ntmps73
  go_wp2
  go_loopg [1, 5] k (fun kq v1 v5 w' => ∃ (x1_1 : Int) (x5_1 : Int), v1 = .int .i64 x1_1 ∧ v5 = .int .i64 x5_1 ∧ Aside0 (laws_heldIntS.l0 kq l0 x1_1 x5_1 = some r) ∧ Aside0 (kq ≤ k) ∧ Drawn0 w w')
  case atStart => exact ⟨(a1), (0), (by first | rfl | (simp; done) | (simp [*]; done)), (by first | rfl | (simp; done) | (simp [*]; done)), H', ⟨Nat.le_refl _⟩, by repeat (first | exact Drawn0.refl _ | apply Drawn0.step)⟩
  case round =>
    clear H'
    try clear p2
    obtain ⟨x1_1, x5_1, rfl, rfl, HA, HK1, ⟨m1, rfl⟩⟩ := hrel
    cases gk with
    | zero => exact absurd HA.out (by simp [laws_heldIntS.l0])
    | succ k1 =>
      have H := HA.out
      clear HA
      simp only [laws_heldIntS.l0] at H
      by_cases c3 : x5_1 < (l0.length : Int)
      · rw [if_pos c3] at H
        have c3b0 : decide (x5_1 < (l0.length : Int)) = true := decide_eq_true c3
        clear c3
        by_cases c4 : 0 ≤ x5_1
        · rw [if_pos c4] at H
          have c4b0 : decide (0 ≤ x5_1) = true := decide_eq_true c4
          clear c4
          by_cases c5 : (rd l0 x5_1) = x1_1
          · rw [if_pos c5] at H
            have c5b0 : ((rd l0 x5_1) == x1_1) = true := beq_iff_eq.mpr c5
            have c5b1 : ((rd l0 x5_1) != x1_1) = false := bne_eq_false_iff_eq.mpr c5
            clear c5
            have H' := Aside0.mk H
            clear H
            have p369 : 0 ≤ (x5_1 : Int) := of_decide_eq_true (by first | (with_reducible assumption) | assumption)
            have q369 : x5_1 < (l0.length : Int) := of_decide_eq_true (by first | (with_reducible assumption) | assumption)
            obtain ⟨ad369, e369, hx369_0⟩ := Kd.at_int HR0.out x5_1 p369 q369
            cases e369
            replace p369 := eq_true p369
            replace q369 := eq_true q369
            go_wp2
            go_roundg k1
            case measure => have := HK1.out; omega
            case rel => exact ⟨(wrap64 (x1_1 + 1)), (wrap64 (x5_1 + 1)), (by first | rfl | (simp; done) | (simp [*]; done)), (by first | rfl | (simp; done) | (simp [*]; done)), H', ⟨by have := HK1.out; omega⟩, by repeat (first | exact Drawn0.refl _ | apply Drawn0.step)⟩
          · rw [if_neg c5] at H
            have c5b0 : ((rd l0 x5_1) == x1_1) = false := beq_eq_false_iff_ne.mpr c5
            have c5b1 : ((rd l0 x5_1) != x1_1) = true := bne_iff_ne.mpr c5
            obtain rfl := Option.some.inj H
            have p369 : 0 ≤ (x5_1 : Int) := of_decide_eq_true (by first | (with_reducible assumption) | assumption)
            have q369 : x5_1 < (l0.length : Int) := of_decide_eq_true (by first | (with_reducible assumption) | assumption)
            obtain ⟨ad369, e369, hx369_0⟩ := Kd.at_int HR0.out x5_1 p369 q369
            cases e369
            replace p369 := eq_true p369
            replace q369 := eq_true q369
            go_wp2
            go_ret
            exact ⟨by first | rfl | (simp; done) | (simp [*]; done), by repeat (first | exact Drawn0.refl _ | apply Drawn0.step)⟩
        · rw [if_neg c4] at H
          exact absurd H (by simp)
      · rw [if_neg c3] at H
        have c3b0 : decide (x5_1 < (l0.length : Int)) = false := decide_eq_false c3
        clear c3
        obtain rfl := Option.some.inj H
        go_wp2
        go_ret
        exact ⟨by first | rfl | (simp; done) | (simp [*]; done), by repeat (first | exact Drawn0.refl _ | apply Drawn0.step)⟩

/-! ### laws_heldIntSS: function 40 -/
def laws_heldIntSS.l0 : Nat → List (List Int) → Int → Int → Option (Int)
  | 0, _, _, _ => none
  | k + 1, x0, x1, x5 => if x5 < (x0.length : Int) then (if 0 ≤ x5 then ((laws_heldIntS.f k (rd_L1 x0 x5) x1).bind fun t371 => (if t371 < 0 then (some (-1)) else (laws_heldIntSS.l0 k x0 t371 (wrap64 (x5 + 1))))) else (none)) else (some x1)
def laws_heldIntSS.f (k : Nat) (l0 : List (List Int)) (a1 : Int) : Option (Int) := laws_heldIntSS.l0 k l0 a1 0
theorem laws_heldIntSS.mono_l : ∀ k, (∀ y0 y1 y2, LeO (laws_heldIntSS.l0 k y0 y1 y2) (laws_heldIntSS.l0 (k + 1) y0 y1 y2))
  | 0 => fun _ _ _ r h => by simp [laws_heldIntSS.l0] at h
  | k + 1 => by
    have ih0 := laws_heldIntSS.mono_l k
    · intro y0 y1 y2
      unfold laws_heldIntSS.l0
      repeat' first
      | (with_reducible exact ih0 _ _ _)
      | (with_reducible exact laws_heldIntS.mono _ _ _)
      | (with_reducible exact LeO.refl _)
      | (with_reducible exact LeO.none _)
      | (with_reducible refine LeO.ite ?_ ?_)
      | (with_reducible refine LeO.bind ?_ (fun _ => ?_))
      | exact ih0 _ _ _
      | exact laws_heldIntS.mono _ _ _
      | exact LeO.none _
      | refine LeO.ite ?_ ?_
      | refine LeO.bind ?_ (fun _ => ?_)
theorem laws_heldIntSS.mono : ∀ a0 a1 k, LeO (laws_heldIntSS.f k a0 a1) (laws_heldIntSS.f (k + 1) a0 a1) := by
  intro a0 a1 k
  have ih0 := laws_heldIntSS.mono_l k
  unfold laws_heldIntSS.f
  repeat' first
      | (with_reducible exact ih0 _ _ _)
      | (with_reducible exact laws_heldIntS.mono _ _ _)
      | (with_reducible exact LeO.refl _)
      | (with_reducible exact LeO.none _)
      | (with_reducible refine LeO.ite ?_ ?_)
      | (with_reducible refine LeO.bind ?_ (fun _ => ?_))
      | exact ih0 _ _ _
      | exact laws_heldIntS.mono _ _ _
      | exact LeO.none _
      | refine LeO.ite ?_ ?_
      | refine LeO.bind ?_ (fun _ => ?_)
set_option maxHeartbeats 8000000 in
set_option maxRecDepth 100000 in
theorem laws_heldIntSS.calls (k : Nat) (A0 : Option Addr) (c0 : Nat) (l0 : List (List Int)) (a1 : Int) (r : Int) (w : World) (hr0 : Kd.C (Kd.slice 3 (Kd.int .i64)) w A0 l0.length l0) (hc0 : l0.length ≤ c0) (h : laws_heldIntSS.f k l0 a1 = some r) :
    Calls Try.prog 40 #[.slice A0 l0.length c0, .int .i64 a1] w fun e w' => e = .returned (.int .i64 r) ∧ Drawn0 w w' := by
  have HR0 := Aside0.mk hr0
  have HC0 := Aside0.mk hc0
  clear hr0 hc0
  have H : (laws_heldIntSS.l0 k l0 a1 0) = some r := h
  clear h
  have H' := Aside0.mk H
  clear H
  go_enter Try.func40, Try.ntmps40
  go_wp2
  go_loopg [1, 5] k (fun kq v1 v5 w' => ∃ (x1_1 : Int) (x5_1 : Int), v1 = .int .i64 x1_1 ∧ v5 = .int .i64 x5_1 ∧ Aside0 (laws_heldIntSS.l0 kq l0 x1_1 x5_1 = some r) ∧ Aside0 (kq ≤ k) ∧ Drawn0 w w')
  case atStart => exact ⟨(a1), (0), (by first | rfl | (simp; done) | (simp [*]; done)), (by first | rfl | (simp; done) | (simp [*]; done)), H', ⟨Nat.le_refl _⟩, by repeat (first | exact Drawn0.refl _ | apply Drawn0.step)⟩
  case round =>
    clear H'
    try clear p2
    obtain ⟨x1_1, x5_1, rfl, rfl, HA, HK1, ⟨m1, rfl⟩⟩ := hrel
    cases gk with
    | zero => exact absurd HA.out (by simp [laws_heldIntSS.l0])
    | succ k1 =>
      have H := HA.out
      clear HA
      simp only [laws_heldIntSS.l0] at H
      by_cases c3 : x5_1 < (l0.length : Int)
      · rw [if_pos c3] at H
        have c3b0 : decide (x5_1 < (l0.length : Int)) = true := decide_eq_true c3
        clear c3
        by_cases c4 : 0 ≤ x5_1
        · rw [if_pos c4] at H
          have c4b0 : decide (0 ≤ x5_1) = true := decide_eq_true c4
          clear c4
          replace H := Option.bind_eq_some_iff.mp H
          obtain ⟨t371, A50, H⟩ := H
          replace H : (if t371 < 0 then (some (-1)) else (laws_heldIntSS.l0 k1 l0 t371 (wrap64 (x5_1 + 1)))) = some r := H
          have A5 := Aside0.mk A50
          clear A50
          by_cases c6 : t371 < 0
          · rw [if_pos c6] at H
            have c6b0 : decide (t371 < 0) = true := decide_eq_true c6
            clear c6
            obtain rfl := Option.some.inj H
            have p370 : 0 ≤ (x5_1 : Int) := of_decide_eq_true (by first | (with_reducible assumption) | assumption)
            have q370 : x5_1 < (l0.length : Int) := of_decide_eq_true (by first | (with_reducible assumption) | assumption)
            obtain ⟨ad370, A370_0, c370_0, e370, hx370_0, hl370_0, hi370_0⟩ := at_L1 HR0.out x5_1 p370 q370
            cases e370
            have HR370_0 := Aside0.mk hi370_0
            have HC370_0 := Aside0.mk hl370_0
            clear hi370_0 hl370_0
            replace p370 := eq_true p370
            replace q370 := eq_true q370
            go_wp2_with (first | ((with_reducible refine gate_callee (f := 73) rfl ?_); refine goesL_ (some 17) rfl rfl Try.func73 (by kernel_rfl) rfl #[.slice A370_0 (rd_L1 l0 x5_1).length c370_0, .int .i64 x1_1] rfl (by (try simp only [List.map_toArray, List.map_cons, List.map_nil]); first | done | rfl | (simp only [List.length_drop, List.length_take]; rfl)) ?_; (with_reducible refine (laws_heldIntS.calls k1 _ _ (rd_L1 l0 x5_1) x1_1 t371 _ ?side1 ?side2 A5.out).mono ?_); (case side1 => repeat (first | exact HR370_0.out | (with_reducible refine Kd.C_alloc ?_ _) | (with_reducible refine Kd.C_drewN ?_ _) | (with_reducible refine Kd.C_drew ?_))); (case side2 => exact HC370_0.out); rintro e w' ⟨rfl, ⟨nd, rfl⟩⟩; refine ⟨_, rfl, ?_⟩))
            go_ret
            exact ⟨by first | rfl | (simp; done) | (simp [*]; done), by repeat (first | exact Drawn0.refl _ | apply Drawn0.step)⟩
          · rw [if_neg c6] at H
            have c6b0 : decide (t371 < 0) = false := decide_eq_false c6
            clear c6
            have H' := Aside0.mk H
            clear H
            have p370 : 0 ≤ (x5_1 : Int) := of_decide_eq_true (by first | (with_reducible assumption) | assumption)
            have q370 : x5_1 < (l0.length : Int) := of_decide_eq_true (by first | (with_reducible assumption) | assumption)
            obtain ⟨ad370, A370_0, c370_0, e370, hx370_0, hl370_0, hi370_0⟩ := at_L1 HR0.out x5_1 p370 q370
            cases e370
            have HR370_0 := Aside0.mk hi370_0
            have HC370_0 := Aside0.mk hl370_0
            clear hi370_0 hl370_0
            replace p370 := eq_true p370
            replace q370 := eq_true q370
            go_wp2_with (first | ((with_reducible refine gate_callee (f := 73) rfl ?_); refine goesL_ (some 17) rfl rfl Try.func73 (by kernel_rfl) rfl #[.slice A370_0 (rd_L1 l0 x5_1).length c370_0, .int .i64 x1_1] rfl (by (try simp only [List.map_toArray, List.map_cons, List.map_nil]); first | done | rfl | (simp only [List.length_drop, List.length_take]; rfl)) ?_; (with_reducible refine (laws_heldIntS.calls k1 _ _ (rd_L1 l0 x5_1) x1_1 t371 _ ?side1 ?side2 A5.out).mono ?_); (case side1 => repeat (first | exact HR370_0.out | (with_reducible refine Kd.C_alloc ?_ _) | (with_reducible refine Kd.C_drewN ?_ _) | (with_reducible refine Kd.C_drew ?_))); (case side2 => exact HC370_0.out); rintro e w' ⟨rfl, ⟨nd, rfl⟩⟩; refine ⟨_, rfl, ?_⟩))
            go_roundg k1
            case measure => have := HK1.out; omega
            case rel => exact ⟨(t371), (wrap64 (x5_1 + 1)), (by first | rfl | (simp; done) | (simp [*]; done)), (by first | rfl | (simp; done) | (simp [*]; done)), H', ⟨by have := HK1.out; omega⟩, by repeat (first | exact Drawn0.refl _ | apply Drawn0.step)⟩
        · rw [if_neg c4] at H
          exact absurd H (by simp)
      · rw [if_neg c3] at H
        have c3b0 : decide (x5_1 < (l0.length : Int)) = false := decide_eq_false c3
        clear c3
        obtain rfl := Option.some.inj H
        go_wp2
        go_ret
        exact ⟨by first | rfl | (simp; done) | (simp [*]; done), by repeat (first | exact Drawn0.refl _ | apply Drawn0.step)⟩

/-! ### laws_FnExactPictureLines: function 11 -/
--@import Derived.Test.YtapnohcfnclleaaV2
open Go.Proofs.Ytapnohcfnclleaa.My
theorem own_lower {α : Type} {d : Kd α} {e b b' lo hi : Nat} {w : World} {v : Value} {xs : List α} (h : Own d e w b' lo hi v xs) (hb : b ≤ b') : Own d e w b lo hi v xs := ⟨Kd.S_lower h.1 hb, h.2⟩
theorem ownR_set {α : Type} {d : Kd α} {e b lo hi : Nat} {w : World} {v : Value} {xs : List α} (h : OwnR d e w b lo hi v xs) (p : Addr) (u : Value) (hp : ∀ k, lo ≤ k ∧ k < hi → k ≠ p.block) : OwnR d e (w.setCell p u) b lo hi v xs :=
  h.kept (P := fun k => k = p.block) ⟨by rw [World.size_setCell]; exact Nat.le_refl _, fun k _ hn => Below.heap_setCell w p u k hn⟩ hp
def laws_FnExactPictureLines.f (k : Nat) (l0_0 l0_1 : List (List Int)) : Option Bool := (laws_szPicture.f k l0_0 l0_1 1048576).bind fun left => (if left < 0 then some true else ((laws_toPicture.f k l0_0 l0_1).bind fun p => ((spec_PictureLines.f k p.1 p.2).bind fun wf => ((impl_PictureLines.f k p.1 p.2).bind fun g => ((laws_eqIntSS.f k g.1 wf.1).bind fun e1 => (if e1 = true then (if g.2 = wf.2 then ((laws_eqPicture.f k p.1 p.2 p.1 p.2).bind fun e2 => (if e2 = true then ((laws_markPicture.f k p.1 p.2 1).bind fun kx => (if 0 ≤ kx then ((laws_markIntSS.f k g.1 1).bind fun kg => (if 0 ≤ kg.1 then ((laws_heldIntSS.f k kg.2 1).bind fun q => (if q = kg.1 then some true else none)) else none)) else none)) else none)) else none) else none))))))
theorem laws_FnExactPictureLines.mono : ∀ a0 a1 k, LeO (laws_FnExactPictureLines.f k a0 a1) (laws_FnExactPictureLines.f (k + 1) a0 a1) := by
  intro a0 a1 k
  unfold laws_FnExactPictureLines.f
  repeat' first
      | (with_reducible exact laws_szPicture.mono _ _ _ _)
      | (with_reducible exact laws_toPicture.mono _ _ _)
      | (with_reducible exact spec_PictureLines.mono _ _ _)
      | (with_reducible exact impl_PictureLines.mono _ _ _)
      | (with_reducible exact laws_eqIntSS.mono _ _ _)
      | (with_reducible exact laws_eqPicture.mono _ _ _ _ _)
      | (with_reducible exact laws_markPicture.mono _ _ _ _)
      | (with_reducible exact laws_markIntSS.mono _ _ _)
      | (with_reducible exact laws_heldIntSS.mono _ _ _)
      | (with_reducible exact LeO.refl _)
      | (with_reducible exact LeO.none _)
      | (with_reducible refine LeO.ite ?_ ?_)
      | (with_reducible refine LeO.bind ?_ (fun _ => ?_))
      | exact laws_szPicture.mono _ _ _ _
      | exact laws_toPicture.mono _ _ _
      | exact spec_PictureLines.mono _ _ _
      | exact impl_PictureLines.mono _ _ _
      | exact laws_eqIntSS.mono _ _ _
      | exact laws_eqPicture.mono _ _ _ _ _
      | exact laws_markPicture.mono _ _ _ _
      | exact laws_markIntSS.mono _ _ _
      | exact laws_heldIntSS.mono _ _ _
      | exact LeO.none _
      | refine LeO.ite ?_ ?_
      | refine LeO.bind ?_ (fun _ => ?_)
set_option maxHeartbeats 8000000 in
set_option maxRecDepth 100000 in
theorem laws_FnExactPictureLines.calls (k : Nat) (A0_0 : Option Addr) (c0_0 : Nat) (l0_0 : List (List Int)) (A0_1 : Option Addr) (c0_1 : Nat) (l0_1 : List (List Int)) (r : Bool) (w : World) (hr0_0 : Kd.C (Kd.slice 3 (Kd.int .i64)) w A0_0 l0_0.length l0_0) (hc0_0 : l0_0.length ≤ c0_0) (hr0_1 : Kd.C (Kd.slice 3 (Kd.int .i64)) w A0_1 l0_1.length l0_1) (hc0_1 : l0_1.length ≤ c0_1) (h : laws_FnExactPictureLines.f k l0_0 l0_1 = some r) :
    Calls Try.prog 11 #[.agg #[.slice A0_0 l0_0.length c0_0, .slice A0_1 l0_1.length c0_1]] w fun e w' => e = .returned (.bool r) ∧ Below w.heap.size w w' := by
  have hu39 := Try.underlying39
  have hu25 := Try.underlying25
  have HR0 := Aside0.mk hr0_0
  have HR1 := Aside0.mk hr0_1
  clear hr0_0 hr0_1
  unfold laws_FnExactPictureLines.f at h
  obtain ⟨left, hleft, h⟩ := Option.bind_eq_some_iff.mp h
  have HZ := Aside0.mk hleft
  clear hleft
  obtain ⟨W1, hW1⟩ : ∃ W1 : World, W1 = w.alloc (Obj.cells #[.slice A0_0 l0_0.length c0_0, .slice A0_1 l0_1.length c0_1] 39) := ⟨_, rfl⟩
  have HW1 := Aside0.mk hW1
  have HB : Aside0 (Below w.heap.size w W1) := ⟨by rw [hW1]; exact (Below.refl _ _).alloc (Nat.le_refl _) _⟩
  have HA : Aside0 (W1.heap[w.heap.size]? = some (Obj.cells #[.slice A0_0 l0_0.length c0_0, .slice A0_1 l0_1.length c0_1] 39 (0, 0))) := ⟨by rw [hW1]; exact blk_new _ _⟩
  have cb0 : (w.alloc (Obj.cells #[.slice A0_0 l0_0.length c0_0, .slice A0_1 l0_1.length c0_1] 39)).cell? ⟨w.heap.size, 0, none⟩ = some (.slice A0_0 l0_0.length c0_0) := blk_cell (blk_new _ _) 0
  have cb1 : (w.alloc (Obj.cells #[.slice A0_0 l0_0.length c0_0, .slice A0_1 l0_1.length c0_1] 39)).cell? ⟨w.heap.size, 1, none⟩ = some (.slice A0_1 l0_1.length c0_1) := blk_cell (blk_new _ _) 1
  clear hW1
  by_cases c1 : left < 0
  · rw [if_pos c1] at h
    obtain rfl := Option.some.inj h
    have b1 : decide (left < 0) = true := decide_eq_true c1
    clear h c1
    go_enter Try.func11, Try.ntmps11
    go_wp2_with (first | ((with_reducible refine gate_callee (f := 22) rfl ?_); (try rw [← HW1.out]); refine goesL_ (some 16) rfl rfl Try.func22 (by kernel_rfl) rfl #[.agg #[.slice A0_0 l0_0.length c0_0, .slice A0_1 l0_1.length c0_1], .int .i64 1048576] rfl (by (try simp only [List.map_toArray, List.map_cons, List.map_nil]); first | done | rfl) ?_; (with_reducible refine (laws_szPicture.calls k A0_0 c0_0 l0_0 A0_1 c0_1 l0_1 1048576 left _ (Kd.C_below HR0.out HB.out) hc0_0 (Kd.C_below HR1.out HB.out) hc0_1 HZ.out).mono ?_); rintro e wv1 ⟨rfl, hb⟩; refine ⟨_, rfl, ?_⟩; have n0_ := Aside0.mk (below_step HB.out hb); have n1_ := Aside0.mk (blk_lower' HA.out hb); (try clear HB); (try clear HA); have HB := n0_; have HA := n1_; clear n0_ n1_; (try clear hb); (try clear ca0); (try clear ca1); (try clear cx0); (try clear cx1); (try clear cb0); (try clear cb1); have ca0 : wv1.cell? ⟨w.heap.size, 0, none⟩ = some (.slice A0_0 l0_0.length c0_0) := blk_cell HA.out 0; have ca1 : wv1.cell? ⟨w.heap.size, 1, none⟩ = some (.slice A0_1 l0_1.length c0_1) := blk_cell HA.out 1))
    go_ret
    exact ⟨rfl, HB.out⟩
  · rw [if_neg c1] at h
    have b1 : decide (left < 0) = false := decide_eq_false c1
    clear c1
    obtain ⟨⟨X0, X1⟩, hx, h⟩ := Option.bind_eq_some_iff.mp h
    obtain ⟨⟨wf, ok⟩, hw, h⟩ := Option.bind_eq_some_iff.mp h
    obtain ⟨⟨g, ok2⟩, hg, h⟩ := Option.bind_eq_some_iff.mp h
    dsimp only at hw hg h
    obtain ⟨e1, he1, h⟩ := Option.bind_eq_some_iff.mp h
    by_cases c2 : e1 = true
    case neg => rw [if_neg c2] at h; exact absurd h (by simp)
    rw [if_pos c2] at h
    subst c2
    by_cases c2b : ok2 = ok
    case neg => rw [if_neg c2b] at h; exact absurd h (by simp)
    subst c2b
    rw [if_pos rfl] at h
    obtain ⟨e2, he2, h⟩ := Option.bind_eq_some_iff.mp h
    by_cases c3 : e2 = true
    case neg => rw [if_neg c3] at h; exact absurd h (by simp)
    rw [if_pos c3] at h
    subst c3
    obtain ⟨kx, hkx, h⟩ := Option.bind_eq_some_iff.mp h
    by_cases c4 : 0 ≤ kx
    case neg => rw [if_neg c4] at h; exact absurd h (by simp)
    rw [if_pos c4] at h
    obtain ⟨kg, hkg, h⟩ := Option.bind_eq_some_iff.mp h
    by_cases c5 : 0 ≤ kg.1
    case neg => rw [if_neg c5] at h; exact absurd h (by simp)
    rw [if_pos c5] at h
    obtain ⟨q, hq, h⟩ := Option.bind_eq_some_iff.mp h
    by_cases c6 : q = kg.1
    case neg => rw [if_neg c6] at h; exact absurd h (by simp)
    rw [if_pos c6] at h
    subst c6
    obtain rfl := Option.some.inj h
    have d4 : decide (kx < 0) = false := decide_eq_false (by omega)
    have d5 : decide (kg.1 < 0) = false := decide_eq_false (by omega)
    have HT := Aside0.mk hx
    have HS := Aside0.mk hw
    have HG0 := Aside0.mk hg
    have HE1 := Aside0.mk he1
    have HE2 := Aside0.mk he2
    have HM1 := Aside0.mk hkx
    have HM2 : Aside0 (laws_markIntSS.f k g 1 = some (kg.1, kg.2)) := ⟨hkg⟩
    have HQ := Aside0.mk hq
    clear hx hw hg he1 he2 hkx hkg hq h c4 c5
    go_enter Try.func11, Try.ntmps11
    go_upto_region 10 with (first | ((with_reducible refine gate_callee (f := 22) rfl ?_); (try rw [← HW1.out]); refine goesL_ (some 16) rfl rfl Try.func22 (by kernel_rfl) rfl #[.agg #[.slice A0_0 l0_0.length c0_0, .slice A0_1 l0_1.length c0_1], .int .i64 1048576] rfl (by (try simp only [List.map_toArray, List.map_cons, List.map_nil]); first | done | rfl) ?_; (with_reducible refine (laws_szPicture.calls k A0_0 c0_0 l0_0 A0_1 c0_1 l0_1 1048576 left _ (Kd.C_below HR0.out HB.out) hc0_0 (Kd.C_below HR1.out HB.out) hc0_1 HZ.out).mono ?_); rintro e wv1 ⟨rfl, hb⟩; refine ⟨_, rfl, ?_⟩; have n0_ := Aside0.mk (below_step HB.out hb); have n1_ := Aside0.mk (blk_lower' HA.out hb); (try clear HB); (try clear HA); have HB := n0_; have HA := n1_; clear n0_ n1_; (try clear hb); (try clear ca0); (try clear ca1); (try clear cx0); (try clear cx1); (try clear cb0); (try clear cb1); have ca0 : wv1.cell? ⟨w.heap.size, 0, none⟩ = some (.slice A0_0 l0_0.length c0_0) := blk_cell HA.out 0; have ca1 : wv1.cell? ⟨w.heap.size, 1, none⟩ = some (.slice A0_1 l0_1.length c0_1) := blk_cell HA.out 1) | ((with_reducible refine gate_callee (f := 23) rfl ?_); refine goesL_ (some 21) rfl rfl Try.func23 (by kernel_rfl) rfl #[.agg #[.slice A0_0 l0_0.length c0_0, .slice A0_1 l0_1.length c0_1]] rfl (by (try simp only [List.map_toArray, List.map_cons, List.map_nil]); first | done | rfl) ?_; (with_reducible refine (laws_toPicture.calls k A0_0 c0_0 l0_0 A0_1 c0_1 l0_1 X0 X1 _ (Kd.C_below HR0.out HB.out) hc0_0 (Kd.C_below HR1.out HB.out) hc0_1 HT.out).mono ?_); rintro e wv2 ⟨v0_, v1_, loP0, hiP0, loP1, hiP1, rfl, ho0, ho1, hl0, hl1, hl2, hb⟩; refine ⟨_, rfl, ?_⟩; have NS := HB.out.size; have EP := Aside0.mk (show w.heap.size < loP0 ∧ w.heap.size < loP1 from ⟨Nat.lt_of_lt_of_le (lt_of_some HA.out) hl0, Nat.lt_of_lt_of_le (lt_of_some HA.out) hl2⟩); have n0_ := Aside0.mk (below_step HB.out hb); have n1_ := Aside0.mk (blk_lower' HA.out hb); (try clear HB); (try clear HA); have HB := n0_; have HA := n1_; clear n0_ n1_; have HP0 := Aside0.mk (own_lower ho0 NS); have HP1 := Aside0.mk (own_lower ho1 NS); have LLP : Aside0 (hiP0 ≤ loP1) := ⟨hl1⟩; clear ho0 ho1 hl0 hl1 hl2 hb NS; (try clear ca0); (try clear ca1); (try clear cx0); (try clear cx1); obtain ⟨AP0, cP0, eP0⟩ := Kd.S_slice HP0.out.row; subst eP0; obtain ⟨AP1, cP1, eP1⟩ := Kd.S_slice HP1.out.row; subst eP1; have ca0 : wv2.cell? ⟨w.heap.size, 0, none⟩ = some (.slice A0_0 l0_0.length c0_0) := blk_cell HA.out 0; have ca1 : wv2.cell? ⟨w.heap.size, 1, none⟩ = some (.slice A0_1 l0_1.length c0_1) := blk_cell HA.out 1) | ((with_reducible refine gate_callee (f := 16) rfl ?_); refine goesL_ (some 22) rfl rfl Try.func16 (by kernel_rfl) rfl #[.agg #[.slice AP0 X0.length cP0, .slice AP1 X1.length cP1]] rfl (by (try simp only [List.map_toArray, List.map_cons, List.map_nil]); first | done | rfl) ?_; (with_reducible refine (spec_PictureLines.calls k AP0 cP0 X0 AP1 cP1 X1 wf ok2 _ HP0.out.reads.2.2 HP0.out.reads.2.1 HP1.out.reads.2.2 HP1.out.reads.2.1 HS.out).mono ?_); rintro e wv3 ⟨vW, rfl, ho, hb⟩; refine ⟨_, rfl, ?_⟩; have EW0 := lt_of_some HA.out; obtain ⟨loW, hiW, ho1, hd1⟩ := own_new (b := w.heap.size) ho hb HB.out.size; have EW : Aside0 (w.heap.size < loW) := ⟨Nat.lt_of_lt_of_le EW0 (hd1 _ (Nat.le_refl _))⟩; have n0_ := Aside0.mk (below_step HB.out hb); have n1_ := Aside0.mk (blk_lower' HA.out hb); (try clear HB); (try clear HA); have HB := n0_; have HA := n1_; clear n0_ n1_; have HW := Aside0.mk ho1; clear ho hb ho1 hd1 EW0; (try clear ca0); (try clear ca1); (try clear cx0); (try clear cx1); obtain ⟨AW, cW, eW⟩ := Kd.S_slice HW.out.row; subst eW; have ca0 : wv3.cell? ⟨w.heap.size, 0, none⟩ = some (.slice A0_0 l0_0.length c0_0) := blk_cell HA.out 0; have ca1 : wv3.cell? ⟨w.heap.size, 1, none⟩ = some (.slice A0_1 l0_1.length c0_1) := blk_cell HA.out 1) | ((with_reducible refine gate_callee (f := 23) rfl ?_); refine goesL_ (some 26) rfl rfl Try.func23 (by kernel_rfl) rfl #[.agg #[.slice A0_0 l0_0.length c0_0, .slice A0_1 l0_1.length c0_1]] rfl (by (try simp only [List.map_toArray, List.map_cons, List.map_nil]); first | done | rfl) ?_; (with_reducible refine (laws_toPicture.calls k A0_0 c0_0 l0_0 A0_1 c0_1 l0_1 X0 X1 _ (Kd.C_below HR0.out HB.out) hc0_0 (Kd.C_below HR1.out HB.out) hc0_1 HT.out).mono ?_); rintro e wv4 ⟨v0_, v1_, loX0, hiX0, loX1, hiX1, rfl, ho0, ho1, hl0, hl1, hl2, hb⟩; refine ⟨_, rfl, ?_⟩; have NS := HB.out.size; have DWX := Aside0.mk (show hiW ≤ loX0 ∧ hiW ≤ loX1 from ⟨Nat.le_trans HW.out.top hl0, Nat.le_trans HW.out.top hl2⟩); have EX := Aside0.mk (show w.heap.size < loX0 ∧ w.heap.size < loX1 from ⟨Nat.lt_of_lt_of_le (lt_of_some HA.out) hl0, Nat.lt_of_lt_of_le (lt_of_some HA.out) hl2⟩); have n0_ := Aside0.mk (below_step HB.out hb); have n1_ := Aside0.mk (blk_lower' HA.out hb); have n2_ := Aside0.mk (HW.out.below hb); (try clear HB); (try clear HA); (try clear HW); have HB := n0_; have HA := n1_; have HW := n2_; clear n0_ n1_ n2_; have HX0 := Aside0.mk (own_lower ho0 NS); have HX1 := Aside0.mk (own_lower ho1 NS); have LLX : Aside0 (hiX0 ≤ loX1) := ⟨hl1⟩; clear ho0 ho1 hl0 hl1 hl2 hb NS; (try clear ca0); (try clear ca1); (try clear cx0); (try clear cx1); obtain ⟨AX0, cX0, eX0⟩ := Kd.S_slice HX0.out.row; subst eX0; obtain ⟨AX1, cX1, eX1⟩ := Kd.S_slice HX1.out.row; subst eX1; have ca0 : wv4.cell? ⟨w.heap.size, 0, none⟩ = some (.slice A0_0 l0_0.length c0_0) := blk_cell HA.out 0; have ca1 : wv4.cell? ⟨w.heap.size, 1, none⟩ = some (.slice A0_1 l0_1.length c0_1) := blk_cell HA.out 1) | ((with_reducible refine gate_dst (N := 6) rfl ?_); refine box_event ?hg (N := 6) ?hd (cs := #[.slice none 0 0, .slice none 0 0]) (t := 25) ?hr ?_; (case hd => rfl); (case hg => rfl); (case hr => first | (go_simp; done) | (go_simp; rfl)); intro bx hg wx1 hbox hb; have GEX : Aside0 (w.heap.size < bx) := ⟨by rw [hg]; exact lt_of_some HA.out⟩; have TXW : Aside0 (hiW ≤ bx) := ⟨by rw [hg]; exact HW.out.top⟩; have TXX0 : Aside0 (hiX0 ≤ bx) := ⟨by rw [hg]; exact HX0.out.top⟩; have TXX1 : Aside0 (hiX1 ≤ bx) := ⟨by rw [hg]; exact HX1.out.top⟩; have n0_ := Aside0.mk (below_step HB.out hb); have n1_ := Aside0.mk (blk_lower' HA.out hb); have n2_ := Aside0.mk (HW.out.below hb); have n3_ := Aside0.mk (HX0.out.below hb); have n4_ := Aside0.mk (HX1.out.below hb); (try clear HB); (try clear HA); (try clear HW); (try clear HX0); (try clear HX1); have HB := n0_; have HA := n1_; have HW := n2_; have HX0 := n3_; have HX1 := n4_; clear n0_ n1_ n2_ n3_ n4_; have HXB := Aside0.mk hbox; clear hb hbox hg; (try clear ca0); (try clear ca1); (try clear cx0); (try clear cx1); have cz0 : wx1.cell? ⟨bx, 0, none⟩ = some (.slice none 0 0) := blk_cell HXB.out 0; have cz1 : wx1.cell? ⟨bx, 1, none⟩ = some (.slice none 0 0) := blk_cell HXB.out 1; have cf0 := blk_frozen HXB.out 0; have cf1 := blk_frozen HXB.out 1) | ((with_reducible refine gate_callee (f := 15) rfl ?_); obtain ⟨wx2, hwx2⟩ : ∃ W_ : World, W_ = (wx1.setCell ⟨bx, 0, none⟩ (.slice AX0 X0.length cX0)).setCell ⟨bx, 1, none⟩ (.slice AX1 X1.length cX1) := ⟨_, rfl⟩; rw [← hwx2]; have m0_ : Aside0 (Below w.heap.size w wx2) := ⟨by rw [hwx2]; exact below_set (below_set HB.out (Nat.le_of_lt GEX.out)) (Nat.le_of_lt GEX.out)⟩; have m1_ : Aside0 (wx2.heap[w.heap.size]? = some (Obj.cells #[.slice A0_0 l0_0.length c0_0, .slice A0_1 l0_1.length c0_1] 39 (0, 0))) := ⟨by rw [hwx2]; exact blk_far (blk_far HA.out (Nat.ne_of_lt GEX.out) _) (Nat.ne_of_lt GEX.out) _⟩; have m2_ : Aside0 (wx2.heap[bx]? = some (Obj.cells #[(.slice AX0 X0.length cX0), (.slice AX1 X1.length cX1)] 25 (0, 0))) := ⟨by rw [hwx2]; exact blk_put (cs := #[(.slice AX0 X0.length cX0), .slice none 0 0]) (blk_put (cs := #[.slice none 0 0, .slice none 0 0]) HXB.out 0 _ rfl) 1 _ rfl⟩; have mW_ : Aside0 (Own (Kd.slice 3 (Kd.int .i64)) 36 wx2 w.heap.size loW hiW (.slice AW wf.length cW) wf) := ⟨by rw [hwx2]; exact own_set (own_set HW.out _ _ (fun k_ hk_ => by have h1 := TXW.out; have h3 : _ := hk_; show k_ ≠ bx; omega)) _ _ (fun k_ hk_ => by have h1 := TXW.out; have h3 : _ := hk_; show k_ ≠ bx; omega)⟩; have mX0_ : Aside0 (Own (Kd.slice 3 (Kd.int .i64)) 36 wx2 w.heap.size loX0 hiX0 (.slice AX0 X0.length cX0) X0) := ⟨by rw [hwx2]; exact own_set (own_set HX0.out _ _ (fun k_ hk_ => by have h1 := TXX0.out; have h3 : _ := hk_; show k_ ≠ bx; omega)) _ _ (fun k_ hk_ => by have h1 := TXX0.out; have h3 : _ := hk_; show k_ ≠ bx; omega)⟩; have mX1_ : Aside0 (Own (Kd.slice 3 (Kd.int .i64)) 36 wx2 w.heap.size loX1 hiX1 (.slice AX1 X1.length cX1) X1) := ⟨by rw [hwx2]; exact own_set (own_set HX1.out _ _ (fun k_ hk_ => by have h1 := TXX1.out; have h3 : _ := hk_; show k_ ≠ bx; omega)) _ _ (fun k_ hk_ => by have h1 := TXX1.out; have h3 : _ := hk_; show k_ ≠ bx; omega)⟩; clear hwx2 cz0 cz1 cf0 cf1 HB HA HXB HW HX0 HX1; have HB := m0_; have HA := m1_; have HXB := m2_; have HW := mW_; have HX0 := mX0_; have HX1 := mX1_; clear m0_ m1_ m2_ mW_ mX0_ mX1_; refine goesL_ (some 29) rfl rfl Try.func15 (by kernel_rfl) rfl #[.agg #[.slice AX0 X0.length cX0, .slice AX1 X1.length cX1]] rfl (by (try simp only [List.map_toArray, List.map_cons, List.map_nil]); first | done | rfl) ?_; (with_reducible refine (impl_PictureLines.calls k AX0 cX0 X0 AX1 cX1 X1 g ok2 _ HX0.out.reads.2.2 HX0.out.reads.2.1 HX1.out.reads.2.2 HX1.out.reads.2.1 HG0.out).mono ?_); rintro e wv5 ⟨vG, rfl, ho, hb⟩; refine ⟨_, rfl, ?_⟩; have EG0 := lt_of_some HA.out; obtain ⟨loG, hiG, ho1, hd1⟩ := own_new (b := w.heap.size) ho hb HB.out.size; have DWG := Aside0.mk (hd1 _ HW.out.top); have DX0G := Aside0.mk (hd1 _ HX0.out.top); have DX1G := Aside0.mk (hd1 _ HX1.out.top); have EG : Aside0 (w.heap.size < loG) := ⟨Nat.lt_of_lt_of_le EG0 (hd1 _ (Nat.le_refl _))⟩; have n0_ := Aside0.mk (below_step HB.out hb); have n1_ := Aside0.mk (blk_lower' HA.out hb); have n2_ := Aside0.mk (blk_lower' HXB.out hb); have n3_ := Aside0.mk (HW.out.below hb); have n4_ := Aside0.mk (HX0.out.below hb); have n5_ := Aside0.mk (HX1.out.below hb); (try clear HB); (try clear HA); (try clear HXB); (try clear HW); (try clear HX0); (try clear HX1); have HB := n0_; have HA := n1_; have HXB := n2_; have HW := n3_; have HX0 := n4_; have HX1 := n5_; clear n0_ n1_ n2_ n3_ n4_ n5_; have HG := Aside0.mk ho1; clear ho hb ho1 hd1 EG0; (try clear ca0); (try clear ca1); (try clear cx0); (try clear cx1); obtain ⟨AG, cG, eG⟩ := Kd.S_slice HG.out.row; subst eG; have ca0 : wv5.cell? ⟨w.heap.size, 0, none⟩ = some (.slice A0_0 l0_0.length c0_0) := blk_cell HA.out 0; have ca1 : wv5.cell? ⟨w.heap.size, 1, none⟩ = some (.slice A0_1 l0_1.length c0_1) := blk_cell HA.out 1; have cx0 : wv5.cell? ⟨bx, 0, none⟩ = some (.slice AX0 X0.length cX0) := blk_cell HXB.out 0; have cx1 : wv5.cell? ⟨bx, 1, none⟩ = some (.slice AX1 X1.length cX1) := blk_cell HXB.out 1) | ((with_reducible refine gate_callee (f := 38) rfl ?_); refine goesL_ (some 34) rfl rfl Try.func38 (by kernel_rfl) rfl #[.slice AG g.length cG, .slice AW wf.length cW] rfl (by (try simp only [List.map_toArray, List.map_cons, List.map_nil]); first | done | rfl) ?_; (with_reducible refine (laws_eqIntSS.calls k AG cG g AW cW wf true _ HG.out.reads.2.2 HG.out.reads.2.1 HW.out.reads.2.2 HW.out.reads.2.1 HE1.out).mono ?_); rintro e wv6 ⟨rfl, hd⟩; refine ⟨_, rfl, ?_⟩; have hb := drawn_below hd; have n0_ := Aside0.mk (below_step HB.out hb); have n1_ := Aside0.mk (blk_lower' HA.out hb); have n2_ := Aside0.mk (blk_lower' HXB.out hb); have n3_ := Aside0.mk (HW.out.below hb); have n4_ := Aside0.mk (HX0.out.below hb); have n5_ := Aside0.mk (HX1.out.below hb); have n6_ := Aside0.mk (HG.out.below hb); (try clear HB); (try clear HA); (try clear HXB); (try clear HW); (try clear HX0); (try clear HX1); (try clear HG); have HB := n0_; have HA := n1_; have HXB := n2_; have HW := n3_; have HX0 := n4_; have HX1 := n5_; have HG := n6_; clear n0_ n1_ n2_ n3_ n4_ n5_ n6_; (try clear hb); (try clear hd); (try clear ca0); (try clear ca1); (try clear cx0); (try clear cx1); have ca0 : wv6.cell? ⟨w.heap.size, 0, none⟩ = some (.slice A0_0 l0_0.length c0_0) := blk_cell HA.out 0; have ca1 : wv6.cell? ⟨w.heap.size, 1, none⟩ = some (.slice A0_1 l0_1.length c0_1) := blk_cell HA.out 1; have cx0 : wv6.cell? ⟨bx, 0, none⟩ = some (.slice AX0 X0.length cX0) := blk_cell HXB.out 0; have cx1 : wv6.cell? ⟨bx, 1, none⟩ = some (.slice AX1 X1.length cX1) := blk_cell HXB.out 1))
    have hb : Below wv6.heap.size wv6 wv6.drew := below_drew1 (Below.refl _ _)
    have n0_ := Aside0.mk (below_step HB.out hb)
    have n1_ := Aside0.mk (blk_lower' HA.out hb)
    have n2_ := Aside0.mk (blk_lower' HXB.out hb)
    have n3_ := Aside0.mk (HW.out.below hb)
    have n4_ := Aside0.mk (HX0.out.below hb)
    have n5_ := Aside0.mk (HX1.out.below hb)
    have n6_ := Aside0.mk (HG.out.below hb)
    (try clear HB)
    (try clear HA)
    (try clear HXB)
    (try clear HW)
    (try clear HX0)
    (try clear HX1)
    (try clear HG)
    have HB := n0_
    have HA := n1_
    have HXB := n2_
    have HW := n3_
    have HX0 := n4_
    have HX1 := n5_
    have HG := n6_
    clear n0_ n1_ n2_ n3_ n4_ n5_ n6_
    (try clear hb)
    (try clear ca0)
    (try clear ca1)
    (try clear cx0)
    (try clear cx1)
    refine start_ (n := 5) (S := fun w' => w'.cell? ⟨w.heap.size, 0, none⟩ = some (.slice A0_0 l0_0.length c0_0) ∧ w'.cell? ⟨w.heap.size, 1, none⟩ = some (.slice A0_1 l0_1.length c0_1) ∧ w'.cell? ⟨bx, 0, none⟩ = some (.slice AX0 X0.length cX0) ∧ w'.cell? ⟨bx, 1, none⟩ = some (.slice AX1 X1.length cX1)) (ds := []) #[false, false, false, false, false] (by kernel_rfl) rfl rfl ⟨blk_cell HA.out 0, blk_cell HA.out 1, blk_cell HXB.out 0, blk_cell HXB.out 1⟩ (fun hHeld => ?_)
    generalize wv6.drew = wr0 at HB HA HXB HW HX0 HX1 HG hHeld ⊢
    refine take_ (i := 0) (N := some 41) (v := ?_) (a' := ?_) #[true, false, false, false, false] rfl rfl (by kernel_rfl) (fun _ _ _ h => h) (Or.inl ⟨by rfl, ?_⟩) hHeld ?_ ?_
    rotate_left
    · rintro w' ⟨s0, s1, s2, s3⟩
      go_simp
      with_reducible rfl
    rotate_left
    · simp only [Act.put, List.setIfInBounds_toArray, List.set_cons_zero, List.set_cons_succ, i64_w, i32_w]
      rfl
    refine take_ (i := 1) (N := some 42) (v := ?_) (a' := ?_) #[true, true, false, false, false] rfl rfl (by kernel_rfl) (fun _ _ _ h => h) (Or.inl ⟨by rfl, ?_⟩) hHeld ?_ ?_
    rotate_left
    · rintro w' ⟨s0, s1, s2, s3⟩
      go_simp
      with_reducible rfl
    rotate_left
    · simp only [Act.put, List.setIfInBounds_toArray, List.set_cons_zero, List.set_cons_succ, i64_w, i32_w]
      rfl
    refine one_ (i := 2) (N := some 43) #[true, true, true, false, false] rfl rfl (by kernel_rfl) (by decide) (fun K hK => ?_)
    refine call_ 23 #[.agg #[.slice A0_0 l0_0.length c0_0, .slice A0_1 l0_1.length c0_1]] (by rfl) rfl ?_ ?_
    · first | (go_simp; done) | (go_simp; rfl)
    refine (laws_toPicture.calls k A0_0 c0_0 l0_0 A0_1 c0_1 l0_1 X0 X1 _ (Kd.C_below HR0.out HB.out) hc0_0 (Kd.C_below HR1.out HB.out) hc0_1 HT.out).mono ?_
    rintro e wv7 ⟨v0_, v1_, loY0, hiY0, loY1, hiY1, rfl, ho0, ho1, hl0, hl1, hl2, hb⟩
    have NS := HB.out.size
    have EY := Aside0.mk (show w.heap.size < loY0 ∧ w.heap.size < loY1 from ⟨Nat.lt_of_lt_of_le (lt_of_some HA.out) hl0, Nat.lt_of_lt_of_le (lt_of_some HA.out) hl2⟩)
    have n0_ := Aside0.mk (below_step HB.out hb)
    have n1_ := Aside0.mk (blk_lower' HA.out hb)
    have n2_ := Aside0.mk (blk_lower' HXB.out hb)
    have n3_ := Aside0.mk (HW.out.below hb)
    have n4_ := Aside0.mk (HX0.out.below hb)
    have n5_ := Aside0.mk (HX1.out.below hb)
    have n6_ := Aside0.mk (HG.out.below hb)
    (try clear HB)
    (try clear HA)
    (try clear HXB)
    (try clear HW)
    (try clear HX0)
    (try clear HX1)
    (try clear HG)
    have HB := n0_
    have HA := n1_
    have HXB := n2_
    have HW := n3_
    have HX0 := n4_
    have HX1 := n5_
    have HG := n6_
    clear n0_ n1_ n2_ n3_ n4_ n5_ n6_
    have HY0 := Aside0.mk (own_lower ho0 NS)
    have HY1 := Aside0.mk (own_lower ho1 NS)
    have LLY : Aside0 (hiY0 ≤ loY1) := ⟨hl1⟩
    clear ho0 ho1 hl0 hl1 hl2 hb NS
    (try clear ca0)
    (try clear ca1)
    (try clear cx0)
    (try clear cx1)
    obtain ⟨AY0, cY0, eY0⟩ := Kd.S_slice HY0.out.row; subst eY0
    obtain ⟨AY1, cY1, eY1⟩ := Kd.S_slice HY1.out.row; subst eY1
    have ca0 : wv7.cell? ⟨w.heap.size, 0, none⟩ = some (.slice A0_0 l0_0.length c0_0) := blk_cell HA.out 0
    have ca1 : wv7.cell? ⟨w.heap.size, 1, none⟩ = some (.slice A0_1 l0_1.length c0_1) := blk_cell HA.out 1
    have cx0 : wv7.cell? ⟨bx, 0, none⟩ = some (.slice AX0 X0.length cX0) := blk_cell HXB.out 0
    have cx1 : wv7.cell? ⟨bx, 1, none⟩ = some (.slice AX1 X1.length cX1) := blk_cell HXB.out 1
    refine ⟨_, rfl, ?_⟩
    refine hK.out _ _ ⟨ca0, ca1, cx0, cx1⟩ (fun hHeld => ?_)
    clear hK K
    refine norm_ (a' := ?_) ?_ ?_
    rotate_left
    · show Act.put _ (some 43) _ = _
      simp only [Act.put, List.setIfInBounds_toArray, List.set_cons_zero, List.set_cons_succ, i64_w, i32_w]
      rfl
    refine one_ (i := 3) (N := some 44) #[true, true, true, true, false] rfl rfl (by kernel_rfl) (by decide) (fun K hK => ?_)
    refine call_ 25 #[.agg #[.slice AX0 X0.length cX0, .slice AX1 X1.length cX1], .agg #[.slice AY0 X0.length cY0, .slice AY1 X1.length cY1]] (by rfl) rfl ?_ ?_
    · first | (go_simp; done) | (go_simp; rfl)
    refine (laws_eqPicture.calls k AX0 cX0 X0 AX1 cX1 X1 AY0 cY0 X0 AY1 cY1 X1 true _ HX0.out.reads.2.2 HX0.out.reads.2.1 HX1.out.reads.2.2 HX1.out.reads.2.1 HY0.out.reads.2.2 HY0.out.reads.2.1 HY1.out.reads.2.2 HY1.out.reads.2.1 HE2.out).mono ?_
    rintro e wv8 ⟨rfl, hb⟩
    have n0_ := Aside0.mk (below_step HB.out hb)
    have n1_ := Aside0.mk (blk_lower' HA.out hb)
    have n2_ := Aside0.mk (blk_lower' HXB.out hb)
    have n3_ := Aside0.mk (HW.out.below hb)
    have n4_ := Aside0.mk (HX0.out.below hb)
    have n5_ := Aside0.mk (HX1.out.below hb)
    have n6_ := Aside0.mk (HG.out.below hb)
    (try clear HB)
    (try clear HA)
    (try clear HXB)
    (try clear HW)
    (try clear HX0)
    (try clear HX1)
    (try clear HG)
    have HB := n0_
    have HA := n1_
    have HXB := n2_
    have HW := n3_
    have HX0 := n4_
    have HX1 := n5_
    have HG := n6_
    clear n0_ n1_ n2_ n3_ n4_ n5_ n6_
    (try clear hb)
    (try clear ca0)
    (try clear ca1)
    (try clear cx0)
    (try clear cx1)
    have ca0 : wv8.cell? ⟨w.heap.size, 0, none⟩ = some (.slice A0_0 l0_0.length c0_0) := blk_cell HA.out 0
    have ca1 : wv8.cell? ⟨w.heap.size, 1, none⟩ = some (.slice A0_1 l0_1.length c0_1) := blk_cell HA.out 1
    have cx0 : wv8.cell? ⟨bx, 0, none⟩ = some (.slice AX0 X0.length cX0) := blk_cell HXB.out 0
    have cx1 : wv8.cell? ⟨bx, 1, none⟩ = some (.slice AX1 X1.length cX1) := blk_cell HXB.out 1
    refine ⟨_, rfl, ?_⟩
    refine hK.out _ _ ⟨ca0, ca1, cx0, cx1⟩ (fun hHeld => ?_)
    clear hK K
    refine norm_ (a' := ?_) ?_ ?_
    rotate_left
    · show Act.put _ (some 44) _ = _
      simp only [Act.put, List.setIfInBounds_toArray, List.set_cons_zero, List.set_cons_succ, i64_w, i32_w]
      rfl
    refine pure_ (i := 4) (N := some 45) (v := ?_) (a' := ?_) #[true, true, true, true, true] rfl rfl (by kernel_rfl) (fun _ _ _ h => h) (Or.inl ⟨by rfl, ?_⟩) ?_ ?_
    rotate_left
    · intro w'
      go_simp
      with_reducible rfl
    rotate_left
    · simp only [Act.put, List.setIfInBounds_toArray, List.set_cons_zero, List.set_cons_succ, i64_w, i32_w]
      rfl
    refine done_ (by kernel_rfl) ?_
    go_wp2_with (first | ((with_reducible refine gate_callee (f := 33) rfl ?_); refine goesL_ (some 48) rfl rfl Try.func33 (by kernel_rfl) rfl #[.agg #[.slice AX0 X0.length cX0, .slice AX1 X1.length cX1], .int .i64 1] rfl (by (try simp only [List.map_toArray, List.map_cons, List.map_nil]); first | done | rfl) ?_; (with_reducible refine (laws_markPicture.calls k loX0 hiX0 loX1 hiX1 AX0 AX1 X0.length X1.length cX0 cX1 X0 X1 1 kx w _ HB.out HX0.out HX1.out LLX.out HM1.out).mono ?_); rintro e wv9 ⟨rfl, hb, hk⟩; refine ⟨_, rfl, ?_⟩; have n0_ := Aside0.mk (hb); have n1_ := Aside0.mk (kept_blk HA.out hk (fun hp_ => by have h1 := EX.out; have h3 : (loX0 ≤ w.heap.size ∧ w.heap.size < hiX0) ∨ (loX1 ≤ w.heap.size ∧ w.heap.size < hiX1) := hp_; omega)); have n2_ := Aside0.mk (HW.out.kept hk (fun k_ hk_ hp_ => by have h1 := DWX.out; have h2 := DWX.out; have h3 : (loX0 ≤ k_ ∧ k_ < hiX0) ∨ (loX1 ≤ k_ ∧ k_ < hiX1) := hp_; omega)); have n3_ := Aside0.mk (HG.out.kept hk (fun k_ hk_ hp_ => by have h1 := DX0G.out; have h2 := DX1G.out; have h3 : (loX0 ≤ k_ ∧ k_ < hiX0) ∨ (loX1 ≤ k_ ∧ k_ < hiX1) := hp_; omega)); (try clear HB); (try clear HA); (try clear HW); (try clear HG); have HB := n0_; have HA := n1_; have HW := n2_; have HG := n3_; clear n0_ n1_ n2_ n3_; (try clear hb); (try clear hk); (try clear HX0); (try clear HX1); (try clear HXB); (try clear HY0); (try clear HY1); (try clear ca0); (try clear ca1); (try clear cx0); (try clear cx1); have ca0 : wv9.cell? ⟨w.heap.size, 0, none⟩ = some (.slice A0_0 l0_0.length c0_0) := blk_cell HA.out 0; have ca1 : wv9.cell? ⟨w.heap.size, 1, none⟩ = some (.slice A0_1 l0_1.length c0_1) := blk_cell HA.out 1) | (go_at_call 38; (with_reducible refine (laws_eqIntSS.calls k AG cG g AW cW wf true _ HG.out.reads.2.2 HG.out.reads.2.1 HW.out.reads.2.2 HW.out.reads.2.1 HE1.out).mono ?_); rintro e wv10 ⟨rfl, hd⟩; have hb := drawn_below hd; have n0_ := Aside0.mk (below_step HB.out hb); have n1_ := Aside0.mk (blk_lower' HA.out hb); have n2_ := Aside0.mk (HW.out.below hb); have n3_ := Aside0.mk (HG.out.below hb); (try clear HB); (try clear HA); (try clear HW); (try clear HG); have HB := n0_; have HA := n1_; have HW := n2_; have HG := n3_; clear n0_ n1_ n2_ n3_; (try clear hb); (try clear hd); (try clear ca0); (try clear ca1); (try clear cx0); (try clear cx1); have ca0 : wv10.cell? ⟨w.heap.size, 0, none⟩ = some (.slice A0_0 l0_0.length c0_0) := blk_cell HA.out 0; have ca1 : wv10.cell? ⟨w.heap.size, 1, none⟩ = some (.slice A0_1 l0_1.length c0_1) := blk_cell HA.out 1) | ((with_reducible refine gate_callee (f := 39) rfl ?_); refine goesL_ (some 64) rfl rfl Try.func39 (by kernel_rfl) rfl #[.slice AG g.length cG, .int .i64 1] rfl (by (try simp only [List.map_toArray, List.map_cons, List.map_nil]); first | done | rfl) ?_; (with_reducible refine (laws_markIntSS.calls k (fun k => loG ≤ k ∧ k < hiG) (.slice AG g.length cG) g 1 kg.1 kg.2 w _ HB.out HG.out.row HM2.out).mono ?_); rintro e wv11 ⟨rfl, hs, hb, hk⟩; refine ⟨_, rfl, ?_⟩; have n0_ := Aside0.mk (hb); have n1_ := Aside0.mk (kept_blk HA.out hk (fun hp_ => by have h1 := EG.out; have h3 : loG ≤ w.heap.size ∧ w.heap.size < hiG := hp_; omega)); have n2_ := Aside0.mk (HW.out.kept hk (fun k_ hk_ hp_ => by have h1 := DWG.out; have h3 : loG ≤ k_ ∧ k_ < hiG := hp_; omega)); have n3_ := Aside0.mk (own_mk hs (Nat.le_trans HG.out.top hk.1)); (try clear HB); (try clear HA); (try clear HW); (try clear HG); have HB := n0_; have HA := n1_; have HW := n2_; have HG := n3_; clear n0_ n1_ n2_ n3_; (try clear hb); (try clear hk); (try clear hs); have LG := Aside0.mk HG.out.reads.1; (try clear ca0); (try clear ca1); (try clear cx0); (try clear cx1); have ca0 : wv11.cell? ⟨w.heap.size, 0, none⟩ = some (.slice A0_0 l0_0.length c0_0) := blk_cell HA.out 0; have ca1 : wv11.cell? ⟨w.heap.size, 1, none⟩ = some (.slice A0_1 l0_1.length c0_1) := blk_cell HA.out 1) | ((with_reducible refine gate_callee (f := 40) rfl ?_); refine goesL_ (some 67) rfl rfl Try.func40 (by kernel_rfl) rfl #[.slice AG kg.2.length cG, .int .i64 1] rfl (by (try simp only [List.map_toArray, List.map_cons, List.map_nil]); first | done | rfl | (rw [← LG.out] <;> rfl)) ?_; (with_reducible refine (laws_heldIntSS.calls k AG cG kg.2 1 kg.1 _ HG.out.reads.2.2 (by have := HG.out.reads; omega) HQ.out).mono ?_); rintro e wv12 ⟨rfl, hd⟩; refine ⟨_, rfl, ?_⟩; have hb := drawn_below hd; have n0_ := Aside0.mk (below_step HB.out hb); have n1_ := Aside0.mk (blk_lower' HA.out hb); have n2_ := Aside0.mk (HW.out.below hb); have n3_ := Aside0.mk (HG.out.below hb); (try clear HB); (try clear HA); (try clear HW); (try clear HG); have HB := n0_; have HA := n1_; have HW := n2_; have HG := n3_; clear n0_ n1_ n2_ n3_; (try clear hb); (try clear hd); (try clear ca0); (try clear ca1); (try clear cx0); (try clear cx1); have ca0 : wv12.cell? ⟨w.heap.size, 0, none⟩ = some (.slice A0_0 l0_0.length c0_0) := blk_cell HA.out 0; have ca1 : wv12.cell? ⟨w.heap.size, 1, none⟩ = some (.slice A0_1 l0_1.length c0_1) := blk_cell HA.out 1) | ((with_reducible refine gate_callee (f := 23) rfl ?_); refine goesL_ (some 75) rfl rfl Try.func23 (by kernel_rfl) rfl #[.agg #[.slice A0_0 l0_0.length c0_0, .slice A0_1 l0_1.length c0_1]] rfl (by (try simp only [List.map_toArray, List.map_cons, List.map_nil]); first | done | rfl) ?_; (with_reducible refine (laws_toPicture.calls k A0_0 c0_0 l0_0 A0_1 c0_1 l0_1 X0 X1 _ (Kd.C_below HR0.out HB.out) hc0_0 (Kd.C_below HR1.out HB.out) hc0_1 HT.out).mono ?_); rintro e wv13 ⟨v0_, v1_, loZ0, hiZ0, loZ1, hiZ1, rfl, ho0, ho1, hl0, hl1, hl2, hb⟩; refine ⟨_, rfl, ?_⟩; have NS := HB.out.size; have EZ := Aside0.mk (show w.heap.size < loZ0 ∧ w.heap.size < loZ1 from ⟨Nat.lt_of_lt_of_le (lt_of_some HA.out) hl0, Nat.lt_of_lt_of_le (lt_of_some HA.out) hl2⟩); have n0_ := Aside0.mk (below_step HB.out hb); have n1_ := Aside0.mk (blk_lower' HA.out hb); have n2_ := Aside0.mk (HW.out.below hb); have n3_ := Aside0.mk (HG.out.below hb); (try clear HB); (try clear HA); (try clear HW); (try clear HG); have HB := n0_; have HA := n1_; have HW := n2_; have HG := n3_; clear n0_ n1_ n2_ n3_; have HZ0 := Aside0.mk (own_lower ho0 NS); have HZ1 := Aside0.mk (own_lower ho1 NS); have LLZ : Aside0 (hiZ0 ≤ loZ1) := ⟨hl1⟩; clear ho0 ho1 hl0 hl1 hl2 hb NS; (try clear ca0); (try clear ca1); (try clear cx0); (try clear cx1); obtain ⟨AZ0, cZ0, eZ0⟩ := Kd.S_slice HZ0.out.row; subst eZ0; obtain ⟨AZ1, cZ1, eZ1⟩ := Kd.S_slice HZ1.out.row; subst eZ1; have ca0 : wv13.cell? ⟨w.heap.size, 0, none⟩ = some (.slice A0_0 l0_0.length c0_0) := blk_cell HA.out 0; have ca1 : wv13.cell? ⟨w.heap.size, 1, none⟩ = some (.slice A0_1 l0_1.length c0_1) := blk_cell HA.out 1) | ((with_reducible refine gate_callee (f := 15) rfl ?_); refine goesL_ (some 76) rfl rfl Try.func15 (by kernel_rfl) rfl #[.agg #[.slice AZ0 X0.length cZ0, .slice AZ1 X1.length cZ1]] rfl (by (try simp only [List.map_toArray, List.map_cons, List.map_nil]); first | done | rfl) ?_; (with_reducible refine (impl_PictureLines.calls k AZ0 cZ0 X0 AZ1 cZ1 X1 g ok2 _ HZ0.out.reads.2.2 HZ0.out.reads.2.1 HZ1.out.reads.2.2 HZ1.out.reads.2.1 HG0.out).mono ?_); rintro e wv14 ⟨vH, rfl, ho, hb⟩; refine ⟨_, rfl, ?_⟩; have EH0 := lt_of_some HA.out; obtain ⟨loH, hiH, ho1, hd1⟩ := own_new (b := w.heap.size) ho hb HB.out.size; have EH : Aside0 (w.heap.size < loH) := ⟨Nat.lt_of_lt_of_le EH0 (hd1 _ (Nat.le_refl _))⟩; have n0_ := Aside0.mk (below_step HB.out hb); have n1_ := Aside0.mk (blk_lower' HA.out hb); have n2_ := Aside0.mk (HW.out.below hb); have n3_ := Aside0.mk (HG.out.below hb); (try clear HB); (try clear HA); (try clear HW); (try clear HG); have HB := n0_; have HA := n1_; have HW := n2_; have HG := n3_; clear n0_ n1_ n2_ n3_; have HH := Aside0.mk ho1; clear ho hb ho1 hd1 EH0; (try clear ca0); (try clear ca1); (try clear cx0); (try clear cx1); obtain ⟨AH, cH, eH⟩ := Kd.S_slice HH.out.row; subst eH; have ca0 : wv14.cell? ⟨w.heap.size, 0, none⟩ = some (.slice A0_0 l0_0.length c0_0) := blk_cell HA.out 0; have ca1 : wv14.cell? ⟨w.heap.size, 1, none⟩ = some (.slice A0_1 l0_1.length c0_1) := blk_cell HA.out 1) | ((with_reducible refine gate_callee (f := 38) rfl ?_); refine goesL_ (some 81) rfl rfl Try.func38 (by kernel_rfl) rfl #[.slice AH g.length cH, .slice AW wf.length cW] rfl (by (try simp only [List.map_toArray, List.map_cons, List.map_nil]); first | done | rfl) ?_; (with_reducible refine (laws_eqIntSS.calls k AH cH g AW cW wf true _ HH.out.reads.2.2 HH.out.reads.2.1 HW.out.reads.2.2 HW.out.reads.2.1 HE1.out).mono ?_); rintro e wv15 ⟨rfl, hd⟩; refine ⟨_, rfl, ?_⟩; have hb := drawn_below hd; have n0_ := Aside0.mk (below_step HB.out hb); have n1_ := Aside0.mk (blk_lower' HA.out hb); have n2_ := Aside0.mk (HW.out.below hb); have n3_ := Aside0.mk (HG.out.below hb); have n4_ := Aside0.mk (HH.out.below hb); (try clear HB); (try clear HA); (try clear HW); (try clear HG); (try clear HH); have HB := n0_; have HA := n1_; have HW := n2_; have HG := n3_; have HH := n4_; clear n0_ n1_ n2_ n3_ n4_; (try clear hb); (try clear hd); (try clear ca0); (try clear ca1); (try clear cx0); (try clear cx1); have ca0 : wv15.cell? ⟨w.heap.size, 0, none⟩ = some (.slice A0_0 l0_0.length c0_0) := blk_cell HA.out 0; have ca1 : wv15.cell? ⟨w.heap.size, 1, none⟩ = some (.slice A0_1 l0_1.length c0_1) := blk_cell HA.out 1) | ((with_reducible refine gate_callee (f := 40) rfl ?_); refine goesL_ (some 90) rfl rfl Try.func40 (by kernel_rfl) rfl #[.slice AG kg.2.length cG, .int .i64 1] rfl (by (try simp only [List.map_toArray, List.map_cons, List.map_nil]); first | done | rfl | (rw [← LG.out] <;> rfl)) ?_; (with_reducible refine (laws_heldIntSS.calls k AG cG kg.2 1 kg.1 _ HG.out.reads.2.2 (by have := HG.out.reads; omega) HQ.out).mono ?_); rintro e wv16 ⟨rfl, hd⟩; refine ⟨_, rfl, ?_⟩; have hb := drawn_below hd; have n0_ := Aside0.mk (below_step HB.out hb); have n1_ := Aside0.mk (blk_lower' HA.out hb); have n2_ := Aside0.mk (HW.out.below hb); have n3_ := Aside0.mk (HG.out.below hb); have n4_ := Aside0.mk (HH.out.below hb); (try clear HB); (try clear HA); (try clear HW); (try clear HG); (try clear HH); have HB := n0_; have HA := n1_; have HW := n2_; have HG := n3_; have HH := n4_; clear n0_ n1_ n2_ n3_ n4_; (try clear hb); (try clear hd); (try clear ca0); (try clear ca1); (try clear cx0); (try clear cx1); have ca0 : wv16.cell? ⟨w.heap.size, 0, none⟩ = some (.slice A0_0 l0_0.length c0_0) := blk_cell HA.out 0; have ca1 : wv16.cell? ⟨w.heap.size, 1, none⟩ = some (.slice A0_1 l0_1.length c0_1) := blk_cell HA.out 1))
    go_ret
    exact ⟨rfl, HB.out⟩

end Go.Proofs.Ytapnohcfnclleaa.PFnExactPictureLines
