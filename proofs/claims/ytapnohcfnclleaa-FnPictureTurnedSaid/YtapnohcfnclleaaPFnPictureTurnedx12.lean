-- Made by a program of this session (a changed copy of the kit print): the kit print itself does not give this text
import Derived.Test.YtapnohcfnclleaaPFnPictureTurnedx0
import Derived.Test.YtapnohcfnclleaaPFnPictureTurnedx1
import Derived.Test.YtapnohcfnclleaaPFnPictureTurnedx5
import Derived.Test.YtapnohcfnclleaaPFnPictureTurnedx8
import Derived.Test.YtapnohcfnclleaaPFnPictureTurnedx10
import Derived.Test.YtapnohcfnclleaaPFnPictureTurnedx11
namespace Go.Proofs.Ytapnohcfnclleaa.PFnPictureTurned
open Go.RowKit Go.Proofs.YtapnohcfnclleaaW.PrintWords Go.Proofs.YtapnohcfnclleaaW.PrintLast Go.Proofs.YtapnohcfnclleaaW.PrintMore
attribute [local go_sem] max2_int min2_int max_two min_two max_three min_three max_four min_four   -- for this text's walks alone
set_option linter.unusedVariables false
set_option linter.unusedSimpArgs false

/-! ### spec_l20Open: function 46 -/
def spec_l20Open.f (l0 : List Int) : Option (List Int × Int) := if (l0.length : Int) > 2000 then (if 2000 ≤ (l0.length : Int) then (some (l0.take 2000, 0)) else (none)) else (some (l0, 0))
set_option maxHeartbeats 8000000 in
set_option maxRecDepth 100000 in
theorem spec_l20Open.calls (A0 : Option Addr) (c0 : Nat) (l0 : List Int) (r1 : List Int) (r2 : Int) (w0 w : World) (hB : Below w0.heap.size w0 w) (hr0 : Kd.C (Kd.int .u8) w0 A0 l0.length l0) (hc0 : l0.length ≤ c0) (h : spec_l20Open.f l0 = some (r1, r2)) :
    Calls Try.prog 46 #[.slice A0 l0.length c0] w fun e w' => ∃ g_ : Nat, e = .returned (.pointer (some ⟨g_, 0, none⟩)) ∧ IsS80 w0 w' g_ r1 r2 ∧ Below w0.heap.size w0 w' ∧ Below w.heap.size w w' := by
  have hu80 := Try.underlying80
  have HR0 := Aside0.mk hr0
  have HC0 := Aside0.mk hc0
  clear hr0 hc0
  have HBW := Aside0.mk (Below.refl w.heap.size w)
  have HW0 := Aside0.mk hB.size
  have HB := Aside0.mk hB
  clear hB
  have H : (if (l0.length : Int) > 2000 then (if 2000 ≤ (l0.length : Int) then (some (l0.take 2000, 0)) else (none)) else (some (l0, 0))) = some (r1, r2) := h
  clear h
  by_cases c2 : (l0.length : Int) > 2000
  · rw [if_pos c2] at H
    have c2b0 : decide (2000 < (l0.length : Int)) = true := decide_eq_true c2
    have c2b1 : decide (2000 < l0.length) = true := decide_eq_true (by omega)
    clear c2
    by_cases c3 : 2000 ≤ (l0.length : Int)
    · rw [if_pos c3] at H
      have c3b0 := eq_true c3
      have c3b1 : decide (2000 ≤ (l0.length : Int)) = true := decide_eq_true c3
      clear c3
      simp only [Option.some.injEq, Prod.mk.injEq] at H
      obtain ⟨rfl, rfl⟩ := H
      obtain ⟨i04, hi04, _, hsz4, _⟩ := info_parts info5
      obtain ⟨hcut4, hA4, hC4⟩ := print_take_of (P := Try.prog) (Value.int .u8) 0 22 5 .i64 Try.underlying22 hi04 hsz4 A0 c0 l0 2000 (by omega) (of_decide_eq_true (by first | (with_reducible assumption) | assumption)) HC0.out
      have HR335 := Aside0.mk (Kd.C_of_reads (h1 := fun _ => rfl) (hA4 _ (Kd.reads_of_C HR0.out)))
      have HC335 := Aside0.mk hC4
      clear hA4 hC4 hi04 hsz4
      go_enter Try.func46, Try.ntmps46
      go_wp2_with (first | ((with_reducible refine gate_dst (N := 10) rfl ?_); refine box_event ?hg (N := 10) ?hd (cs := #[.slice A0 (l0.take 2000).length c0, .int .i64 0]) (t := 80) ?hr ?_; (case hd => rfl); (case hg => rfl); (case hr => first | (go_simp; done) | (go_simp; rfl)); intro gb336 hg w5 hbox hb; have n0_ := Aside0.mk (below_step HBW.out hb); have n1_ := Aside0.mk (below_step (by repeat (first | (with_reducible first | exact HB.out | apply below_alloc | apply pw_below_drewN | apply below_drew1) | exact HB.out)) hb); have n2_ := Aside0.mk (hbox); have n3_ := Aside0.mk ((by rw [hg]; exact (below_size (by repeat (first | (with_reducible first | exact HBW.out | apply below_alloc | apply pw_below_drewN | apply below_drew1) | exact HBW.out))) : w.heap.size ≤ gb336)); have n4_ := Aside0.mk ((Nat.le_trans HW0.out (by rw [hg]; exact (below_size (by repeat (first | (with_reducible first | exact HBW.out | apply below_alloc | apply pw_below_drewN | apply below_drew1) | exact HBW.out))) : w.heap.size ≤ gb336) : w0.heap.size ≤ gb336)); clear HBW; clear HB; have HBW := n0_; have HB := n1_; have BK336 := n2_; have GW336 := n3_; have GE336 := n4_; clear n0_ n1_ n2_ n3_ n4_; clear hb hbox hg))
      go_ret
      exact ⟨_, rfl, (show IsS80 w0 _ gb336 (l0.take 2000) 0 from ⟨_, _, by (with_reducible repeat (first | refine blk_drewN ?_ _ | refine blk_drew ?_ | refine blk_alloc ?_ _)); exact BK336.out, GE336.out, HR335.out⟩), by repeat (first | (with_reducible first | exact HB.out | apply below_alloc | apply pw_below_drewN | apply below_drew1 | refine below_set ?_ GE336.out) | exact HB.out), by repeat (first | (with_reducible first | exact HBW.out | apply below_alloc | apply pw_below_drewN | apply below_drew1 | refine below_set ?_ GW336.out) | exact HBW.out)⟩
    · rw [if_neg c3] at H
      exact absurd H (by simp)
  · rw [if_neg c2] at H
    have c2b0 : decide (2000 < (l0.length : Int)) = false := decide_eq_false c2
    have c2b1 : decide (2000 < l0.length) = false := decide_eq_false (by omega)
    clear c2
    simp only [Option.some.injEq, Prod.mk.injEq] at H
    obtain ⟨rfl, rfl⟩ := H
    go_enter Try.func46, Try.ntmps46
    go_wp2_with (first | ((with_reducible refine gate_dst (N := 10) rfl ?_); refine box_event ?hg (N := 10) ?hd (cs := #[.slice A0 l0.length c0, .int .i64 0]) (t := 80) ?hr ?_; (case hd => rfl); (case hg => rfl); (case hr => first | (go_simp; done) | (go_simp; rfl)); intro gb337 hg w6 hbox hb; have n0_ := Aside0.mk (below_step HBW.out hb); have n1_ := Aside0.mk (below_step (by repeat (first | (with_reducible first | exact HB.out | apply below_alloc | apply pw_below_drewN | apply below_drew1) | exact HB.out)) hb); have n2_ := Aside0.mk (hbox); have n3_ := Aside0.mk ((by rw [hg]; exact (below_size (by repeat (first | (with_reducible first | exact HBW.out | apply below_alloc | apply pw_below_drewN | apply below_drew1) | exact HBW.out))) : w.heap.size ≤ gb337)); have n4_ := Aside0.mk ((Nat.le_trans HW0.out (by rw [hg]; exact (below_size (by repeat (first | (with_reducible first | exact HBW.out | apply below_alloc | apply pw_below_drewN | apply below_drew1) | exact HBW.out))) : w.heap.size ≤ gb337) : w0.heap.size ≤ gb337)); clear HBW; clear HB; have HBW := n0_; have HB := n1_; have BK337 := n2_; have GW337 := n3_; have GE337 := n4_; clear n0_ n1_ n2_ n3_ n4_; clear hb hbox hg))
    go_ret
    exact ⟨_, rfl, (show IsS80 w0 _ gb337 l0 0 from ⟨_, _, by (with_reducible repeat (first | refine blk_drewN ?_ _ | refine blk_drew ?_ | refine blk_alloc ?_ _)); exact BK337.out, GE337.out, HR0.out⟩), by repeat (first | (with_reducible first | exact HB.out | apply below_alloc | apply pw_below_drewN | apply below_drew1 | refine below_set ?_ GE337.out) | exact HB.out), by repeat (first | (with_reducible first | exact HBW.out | apply below_alloc | apply pw_below_drewN | apply below_drew1 | refine below_set ?_ GW337.out) | exact HBW.out)⟩

/-! ### spec_DrawPictureCount: function 37 -/
def spec_DrawPictureCount.f (k : Nat) (l0 : List Int) : Option ((List (List Int)) × (List (List Int)) × Int) := (spec_l20Open.f l0).bind fun bt339 => ((spec_l20Picture.f k bt339.1 bt339.2 9).bind fun bt342 => ((spec_l20Rd_pick.f k bt339.1 bt342.2.2 3).bind fun bt350 => ((some (([wrap64 (1 + bt350.1), 100, 0, 101] : List Int) : List Int)).bind fun y352 => ((some (([0, 0, 1, 1, 1, 2, 3] : List Int) : List Int)).bind fun y355 => ((spec_l20Rd_pick.f k bt339.1 bt350.2 7).bind fun bt358 => (if 0 ≤ bt358.1 then (if bt358.1 < (y355.length : Int) then (if 0 ≤ (rd y355 bt358.1) then (if (rd y355 bt358.1) < (y352.length : Int) then (some (bt342.1, bt342.2.1, rd y352 (rd y355 bt358.1))) else (none)) else (none)) else (none)) else (none)))))))
theorem spec_DrawPictureCount.mono : ∀ a0 k, LeO (spec_DrawPictureCount.f k a0) (spec_DrawPictureCount.f (k + 1) a0) := by
  intro a0 k
  unfold spec_DrawPictureCount.f
  repeat' first
      | (with_reducible exact spec_l20Picture.mono _ _ _ _)
      | (with_reducible exact spec_l20Rd_pick.mono _ _ _ _)
      | (with_reducible exact LeO.refl _)
      | (with_reducible exact LeO.none _)
      | (with_reducible refine LeO.ite ?_ ?_)
      | (with_reducible refine LeO.bind ?_ (fun _ => ?_))
      | exact spec_l20Picture.mono _ _ _ _
      | exact spec_l20Rd_pick.mono _ _ _ _
      | exact LeO.none _
      | refine LeO.ite ?_ ?_
      | refine LeO.bind ?_ (fun _ => ?_)
def spec_DrawPictureCount.T3 : Bool × List (List Nat × List Nat) := (true, [([], []), ([], []), ([1], [1]), ([2], [2]), ([3], [3]), ([], []), ([], []), ([6, 2], [6]), ([5, 7], [5, 7]), ([8], [8]), ([4, 9], [4, 9]), ([10], [10]), ([0, 7, 0], [0]), ([11, 12, 0, 1, 2, 3, 4, 5, 6, 7, 8, 9, 10, 11, 12], [11])])
def spec_DrawPictureCount.B3 : List Nat := [0, 0, 2, 6, 14, 0, 0, 70, 230, 486, 1022, 2046, 199, 8191]
theorem spec_DrawPictureCount.tab3 : rtab .any (opsOf Try.f37 3) = spec_DrawPictureCount.T3 := by kernel_rfl
theorem spec_DrawPictureCount.bits3 : waitsOk spec_DrawPictureCount.T3.2 spec_DrawPictureCount.B3 = true := by kernel_rfl
set_option maxHeartbeats 8000000 in
set_option maxRecDepth 100000 in
theorem spec_DrawPictureCount.calls (k : Nat) (A0 : Option Addr) (c0 : Nat) (l0 : List Int) (r1 : List (List Int)) (r2 : List (List Int)) (r3 : Int) (w : World) (hr0 : Kd.C (Kd.int .u8) w A0 l0.length l0) (hc0 : l0.length ≤ c0) (h : spec_DrawPictureCount.f k l0 = some (r1, r2, r3)) :
    Calls Try.prog 37 #[.slice A0 l0.length c0] w fun e w' => ∃ v0_ v1_ : Value, e = .returned (.tuple #[.agg #[v0_, v1_], .int .i64 r3]) ∧ Kd.N (Kd.slice 3 (Kd.int .i64)) 36 w' w.heap.size (fun k_ => (w.heap.size ≤ k_) ∧ some k_ ≠ (v1_ : Value).ownBlock) v0_ r1 ∧ Kd.N (Kd.slice 3 (Kd.int .i64)) 36 w' w.heap.size (fun k_ => (w.heap.size ≤ k_) ∧ some k_ ≠ (v0_ : Value).ownBlock) v1_ r2 ∧ Below w.heap.size w w' := by
  have hu25 := Try.underlying25
  have HR0 := Aside0.mk hr0
  have HC0 := Aside0.mk hc0
  clear hr0 hc0
  have HB := Aside0.mk (Below.refl w.heap.size w)
  have H : ((spec_l20Open.f l0).bind fun bt339 => ((spec_l20Picture.f k bt339.1 bt339.2 9).bind fun bt342 => ((spec_l20Rd_pick.f k bt339.1 bt342.2.2 3).bind fun bt350 => ((some (([wrap64 (1 + bt350.1), 100, 0, 101] : List Int) : List Int)).bind fun y352 => ((some (([0, 0, 1, 1, 1, 2, 3] : List Int) : List Int)).bind fun y355 => ((spec_l20Rd_pick.f k bt339.1 bt350.2 7).bind fun bt358 => (if 0 ≤ bt358.1 then (if bt358.1 < (y355.length : Int) then (if 0 ≤ (rd y355 bt358.1) then (if (rd y355 bt358.1) < (y352.length : Int) then (some (bt342.1, bt342.2.1, rd y352 (rd y355 bt358.1))) else (none)) else (none)) else (none)) else (none)))))))) = some (r1, r2, r3) := h
  clear h
  replace H := Option.bind_eq_some_iff.mp H
  obtain ⟨⟨t339, t340⟩, A20, H⟩ := H
  replace H : ((spec_l20Picture.f k t339 t340 9).bind fun bt342 => ((spec_l20Rd_pick.f k t339 bt342.2.2 3).bind fun bt350 => ((some (([wrap64 (1 + bt350.1), 100, 0, 101] : List Int) : List Int)).bind fun y352 => ((some (([0, 0, 1, 1, 1, 2, 3] : List Int) : List Int)).bind fun y355 => ((spec_l20Rd_pick.f k t339 bt350.2 7).bind fun bt358 => (if 0 ≤ bt358.1 then (if bt358.1 < (y355.length : Int) then (if 0 ≤ (rd y355 bt358.1) then (if (rd y355 bt358.1) < (y352.length : Int) then (some (bt342.1, bt342.2.1, rd y352 (rd y355 bt358.1))) else (none)) else (none)) else (none)) else (none))))))) = some (r1, r2, r3) := H
  have A2 := Aside0.mk A20
  clear A20
  replace H := Option.bind_eq_some_iff.mp H
  obtain ⟨⟨t342, t345, t348⟩, A30, H⟩ := H
  replace H : ((spec_l20Rd_pick.f k t339 t348 3).bind fun bt350 => ((some (([wrap64 (1 + bt350.1), 100, 0, 101] : List Int) : List Int)).bind fun y352 => ((some (([0, 0, 1, 1, 1, 2, 3] : List Int) : List Int)).bind fun y355 => ((spec_l20Rd_pick.f k t339 bt350.2 7).bind fun bt358 => (if 0 ≤ bt358.1 then (if bt358.1 < (y355.length : Int) then (if 0 ≤ (rd y355 bt358.1) then (if (rd y355 bt358.1) < (y352.length : Int) then (some (t342, t345, rd y352 (rd y355 bt358.1))) else (none)) else (none)) else (none)) else (none)))))) = some (r1, r2, r3) := H
  have A3 := Aside0.mk A30
  clear A30
  replace H := Option.bind_eq_some_iff.mp H
  obtain ⟨⟨t350, t351⟩, A40, H⟩ := H
  replace H : ((some (([wrap64 (1 + t350), 100, 0, 101] : List Int) : List Int)).bind fun y352 => ((some (([0, 0, 1, 1, 1, 2, 3] : List Int) : List Int)).bind fun y355 => ((spec_l20Rd_pick.f k t339 t351 7).bind fun bt358 => (if 0 ≤ bt358.1 then (if bt358.1 < (y355.length : Int) then (if 0 ≤ (rd y355 bt358.1) then (if (rd y355 bt358.1) < (y352.length : Int) then (some (t342, t345, rd y352 (rd y355 bt358.1))) else (none)) else (none)) else (none)) else (none))))) = some (r1, r2, r3) := H
  have A4 := Aside0.mk A40
  clear A40
  obtain ⟨y352, hy352⟩ : ∃ y_ : List Int, y_ = (([wrap64 (1 + t350), 100, 0, 101] : List Int)) := ⟨_, rfl⟩
  replace H : ((some (([0, 0, 1, 1, 1, 2, 3] : List Int) : List Int)).bind fun y355 => ((spec_l20Rd_pick.f k t339 t351 7).bind fun bt358 => (if 0 ≤ bt358.1 then (if bt358.1 < (y355.length : Int) then (if 0 ≤ (rd y355 bt358.1) then (if (rd y355 bt358.1) < (y352.length : Int) then (some (t342, t345, rd y352 (rd y355 bt358.1))) else (none)) else (none)) else (none)) else (none)))) = some (r1, r2, r3) := by first | (rw [hy352]; with_reducible exact H) | (have H2_ := (Option.bind_some _ _).symm.trans H; rw [hy352]; with_reducible exact H2_) | (have H2_ := (Option.bind_some _ _).symm.trans H; with_reducible exact H2_) | with_reducible exact H | (rw [hy352]; exact H) | exact H
  have Ny352 := Aside0.mk hy352
  clear hy352
  obtain ⟨y355, hy355⟩ : ∃ y_ : List Int, y_ = (([0, 0, 1, 1, 1, 2, 3] : List Int)) := ⟨_, rfl⟩
  replace H : ((spec_l20Rd_pick.f k t339 t351 7).bind fun bt358 => (if 0 ≤ bt358.1 then (if bt358.1 < (y355.length : Int) then (if 0 ≤ (rd y355 bt358.1) then (if (rd y355 bt358.1) < (y352.length : Int) then (some (t342, t345, rd y352 (rd y355 bt358.1))) else (none)) else (none)) else (none)) else (none))) = some (r1, r2, r3) := by first | (rw [hy355]; with_reducible exact H) | (have H2_ := (Option.bind_some _ _).symm.trans H; rw [hy355]; with_reducible exact H2_) | (have H2_ := (Option.bind_some _ _).symm.trans H; with_reducible exact H2_) | with_reducible exact H | (rw [hy355]; exact H) | exact H
  have Ny355 := Aside0.mk hy355
  clear hy355
  replace H := Option.bind_eq_some_iff.mp H
  obtain ⟨⟨t358, t359⟩, A50, H⟩ := H
  replace H : (if 0 ≤ t358 then (if t358 < (y355.length : Int) then (if 0 ≤ (rd y355 t358) then (if (rd y355 t358) < (y352.length : Int) then (some (t342, t345, rd y352 (rd y355 t358))) else (none)) else (none)) else (none)) else (none)) = some (r1, r2, r3) := H
  have A5 := Aside0.mk A50
  clear A50
  by_cases c6 : 0 ≤ t358
  · rw [if_pos c6] at H
    have c6b0 : decide (0 ≤ t358) = true := decide_eq_true c6
    clear c6
    by_cases c7 : t358 < (y355.length : Int)
    · rw [if_pos c7] at H
      have c7b0 : decide (t358 < (y355.length : Int)) = true := decide_eq_true c7
      clear c7
      by_cases c8 : 0 ≤ (rd y355 t358)
      · rw [if_pos c8] at H
        have c8b0 : decide (0 ≤ (rd y355 t358)) = true := decide_eq_true c8
        clear c8
        by_cases c9 : (rd y355 t358) < (y352.length : Int)
        · rw [if_pos c9] at H
          have c9b0 : decide ((rd y355 t358) < (y352.length : Int)) = true := decide_eq_true c9
          clear c9
          simp only [Option.some.injEq, Prod.mk.injEq] at H
          obtain ⟨rfl, rfl, rfl⟩ := H
          go_enter Try.func37, Try.ntmps37
          try go_wp2_with (first | ((with_reducible refine gate_dst (N := 2) rfl ?_); refine box_event ?hg (N := 2) ?hd (cs := #[.slice none 0 0, .slice none 0 0]) (t := 25) ?hr ?_; (case hd => rfl); (case hg => rfl); (case hr => first | (go_simp; done) | (go_simp; rfl)); intro gb338 hg w10 hbox hb; have n0_ := Aside0.mk (below_step (by repeat (first | (with_reducible first | exact HB.out | apply below_alloc | apply pw_below_drewN | apply below_drew1) | exact HB.out)) hb); have n1_ := Aside0.mk (hbox); have n2_ := Aside0.mk ((by rw [hg]; exact (below_size (by repeat (first | (with_reducible first | exact HB.out | apply below_alloc | apply pw_below_drewN | apply below_drew1) | exact HB.out))) : w.heap.size ≤ gb338)); have n3_ := Aside0.mk ((by rw [hg]; exact (below_size (by repeat (first | (with_reducible first | exact HB.out | apply below_alloc | apply pw_below_drewN | apply below_drew1) | exact HB.out))) : w.heap.size ≤ gb338)); clear HB; have HB := n0_; have BK338 := n1_; have GW338 := n2_; have GE338 := n3_; clear n0_ n1_ n2_ n3_; clear hb hbox hg) | ((with_reducible refine gate_callee (f := 46) rfl ?_); refine goesL_ (some 7) rfl rfl Try.func46 (by kernel_rfl) rfl #[.slice A0 l0.length c0] rfl (by (try simp only [List.map_toArray, List.map_cons, List.map_nil]); first | done | rfl | (simp only [List.length_drop, List.length_take]; rfl)) ?_; (with_reducible refine (spec_l20Open.calls _ _ l0 t339 t340 w _ ?side1 ?side2 ?side3 A2.out).mono ?_); (case side1 => repeat (first | (with_reducible first | exact HB.out | apply below_alloc | apply pw_below_drewN | apply below_drew1 | refine below_set ?_ GE338.out) | exact HB.out)); (case side2 => exact HR0.out); (case side3 => exact HC0.out); rintro e w11 ⟨g341, rfl, hi, hb, hb2⟩; refine ⟨_, rfl, ?_⟩; have n0_ := Aside0.mk (blk_below (g := gb338) (o := .cells #[.slice none 0 0, .slice none 0 0] 25 (0, 0)) (by (with_reducible repeat (first | refine blk_drewN ?_ _ | refine blk_drew ?_ | refine blk_alloc ?_ _)); exact BK338.out) hb2); have n1_ := Aside0.mk (hb); have n2_ := Aside0.mk (hi); have n3_ := Aside0.mk (IsS80.ne_blk hi (blk_below (g := gb338) (o := .cells #[.slice none 0 0, .slice none 0 0] 25 (0, 0)) (by (with_reducible repeat (first | refine blk_drewN ?_ _ | refine blk_drew ?_ | refine blk_alloc ?_ _)); exact BK338.out) hb2) (by decide)); have n4_ := Aside0.mk (Ne.symm (IsS80.ne_blk hi (blk_below (g := gb338) (o := .cells #[.slice none 0 0, .slice none 0 0] 25 (0, 0)) (by (with_reducible repeat (first | refine blk_drewN ?_ _ | refine blk_drew ?_ | refine blk_alloc ?_ _)); exact BK338.out) hb2) (by decide))); clear BK338; clear HB; have BK338 := n0_; have HB := n1_; have HI341 := n2_; have NB341_338 := n3_; have NB338_341 := n4_; clear n0_ n1_ n2_ n3_ n4_; (try clear hb); (try clear hb2); (try clear hk); (try clear hi)) | ((with_reducible refine gate_callee (f := 45) rfl ?_); refine goesL_ (some 9) rfl rfl Try.func45 (by kernel_rfl) rfl #[.pointer (some ⟨g341, 0, none⟩), .int .i64 9] rfl (by (try simp only [List.map_toArray, List.map_cons, List.map_nil]); first | done | rfl | (simp only [List.length_drop, List.length_take]; rfl)) ?_; (with_reducible refine (spec_l20Picture.calls k g341 t339 t340 9 t342 t345 t348 w _ ?side1 ?side2 A3.out).mono ?_); (case side1 => repeat (first | (with_reducible first | exact HI341.out | apply IsS80.alloc | apply IsS80.drewN | apply IsS80.drew | apply IsS80.set_1 | refine IsS80.far ?_ NB341_338.out _) | exact HI341.out)); (case side2 => repeat (first | (with_reducible first | exact HB.out | apply below_alloc | apply pw_below_drewN | apply below_drew1 | refine below_set ?_ (IsS80.ge HI341.out) | refine below_set ?_ GE338.out) | exact HB.out)); rintro e w12 ⟨v343, v346, rfl, ho0, ho1, hi, hb, hk⟩; refine ⟨_, rfl, ?_⟩; have n0_ := Aside0.mk (KeepBut.blk hk (g' := gb338) (o := .cells #[.slice none 0 0, .slice none 0 0] 25 (0, 0)) (by (with_reducible repeat (first | refine blk_drewN ?_ _ | refine blk_drew ?_ | refine blk_alloc ?_ _)); exact BK338.out) NB338_341.out (by simp)); have n1_ := Aside0.mk (Kd.N_lower (Kd.N_mono (ok' := fun k_ => (w.heap.size ≤ k_) ∧ some k_ ≠ (v346 : Value).ownBlock ∧ k_ ≠ gb338 ∧ k_ ≠ g341) ho0 (fun k_ hk_ => ⟨(Nat.le_trans (below_size (by repeat (first | (with_reducible first | exact HB.out | apply below_alloc | apply pw_below_drewN | apply below_drew1 | refine below_set ?_ (IsS80.ge HI341.out) | refine below_set ?_ GE338.out) | exact HB.out))) hk_.1), hk_.2, (Kd.freshB (g := gb338) (o := .cells #[.slice none 0 0, .slice none 0 0] 25 (0, 0)) (by (with_reducible repeat (first | refine blk_drewN ?_ _ | refine blk_drew ?_ | refine blk_alloc ?_ _)); exact BK338.out) k_ hk_.1), (IsS80.fresh (by repeat (first | (with_reducible first | exact HI341.out | apply IsS80.alloc | apply IsS80.drewN | apply IsS80.drew | apply IsS80.set_1 | refine IsS80.far ?_ NB341_338.out _) | exact HI341.out)) k_ hk_.1)⟩)) (below_size (by repeat (first | (with_reducible first | exact HB.out | apply below_alloc | apply pw_below_drewN | apply below_drew1 | refine below_set ?_ (IsS80.ge HI341.out) | refine below_set ?_ GE338.out) | exact HB.out)))); have n2_ := Aside0.mk (Kd.N_lower (Kd.N_mono (ok' := fun k_ => (w.heap.size ≤ k_) ∧ some k_ ≠ (v343 : Value).ownBlock ∧ k_ ≠ gb338 ∧ k_ ≠ g341) ho1 (fun k_ hk_ => ⟨(Nat.le_trans (below_size (by repeat (first | (with_reducible first | exact HB.out | apply below_alloc | apply pw_below_drewN | apply below_drew1 | refine below_set ?_ (IsS80.ge HI341.out) | refine below_set ?_ GE338.out) | exact HB.out))) hk_.1), hk_.2, (Kd.freshB (g := gb338) (o := .cells #[.slice none 0 0, .slice none 0 0] 25 (0, 0)) (by (with_reducible repeat (first | refine blk_drewN ?_ _ | refine blk_drew ?_ | refine blk_alloc ?_ _)); exact BK338.out) k_ hk_.1), (IsS80.fresh (by repeat (first | (with_reducible first | exact HI341.out | apply IsS80.alloc | apply IsS80.drewN | apply IsS80.drew | apply IsS80.set_1 | refine IsS80.far ?_ NB341_338.out _) | exact HI341.out)) k_ hk_.1)⟩)) (below_size (by repeat (first | (with_reducible first | exact HB.out | apply below_alloc | apply pw_below_drewN | apply below_drew1 | refine below_set ?_ (IsS80.ge HI341.out) | refine below_set ?_ GE338.out) | exact HB.out)))); have n3_ := Aside0.mk (hb); have n4_ := Aside0.mk (hi); clear BK338; clear HB; clear HI341; have BK338 := n0_; have HO344 := n1_; have HO347 := n2_; have HB := n3_; have HI341 := n4_; clear n0_ n1_ n2_ n3_ n4_; (try clear hb); (try clear hb2); (try clear hk); (try clear hi); (try clear ho0); (try clear ho1)) | ((with_reducible refine gate_dst (N := 5) rfl ?_); refine box_event ?hg (N := 5) ?hd (cs := #[.slice none 0 0, .slice none 0 0]) (t := 25) ?hr ?_; (case hd => rfl); (case hg => rfl); (case hr => first | (go_simp; done) | (go_simp; rfl)); intro gb349 hg w13 hbox hb; have n0_ := Aside0.mk (Kd.N_below (Kd.N_elderB (by (with_reducible repeat (first | apply Kd.N_alloc | apply Kd.N_drewN | apply Kd.N_drew)); exact HO344.out) gb349 (Nat.le_of_eq hg.symm)) hb); have n1_ := Aside0.mk (Kd.N_below (Kd.N_elderB (by (with_reducible repeat (first | apply Kd.N_alloc | apply Kd.N_drewN | apply Kd.N_drew)); exact HO347.out) gb349 (Nat.le_of_eq hg.symm)) hb); have n2_ := Aside0.mk (blk_below (g := gb338) (o := .cells #[.slice none 0 0, .slice none 0 0] 25 (0, 0)) (by (with_reducible repeat (first | refine blk_drewN ?_ _ | refine blk_drew ?_ | refine blk_alloc ?_ _)); exact BK338.out) hb); have n3_ := Aside0.mk (IsS80.below (by repeat (first | (with_reducible first | exact HI341.out | apply IsS80.alloc | apply IsS80.drewN | apply IsS80.drew | apply IsS80.set_1 | refine IsS80.far ?_ NB341_338.out _) | exact HI341.out)) hb); have n4_ := Aside0.mk (below_step (by repeat (first | (with_reducible first | exact HB.out | apply below_alloc | apply pw_below_drewN | apply below_drew1 | refine below_set ?_ (IsS80.ge HI341.out) | refine below_set ?_ GE338.out) | exact HB.out)) hb); have n5_ := Aside0.mk (hbox); have n6_ := Aside0.mk ((by rw [hg]; exact (below_size (by repeat (first | (with_reducible first | exact HB.out | apply below_alloc | apply pw_below_drewN | apply below_drew1 | refine below_set ?_ (IsS80.ge HI341.out) | refine below_set ?_ GE338.out) | exact HB.out))) : w.heap.size ≤ gb349)); have n7_ := Aside0.mk ((by rw [hg]; exact (below_size (by repeat (first | (with_reducible first | exact HB.out | apply below_alloc | apply pw_below_drewN | apply below_drew1 | refine below_set ?_ (IsS80.ge HI341.out) | refine below_set ?_ GE338.out) | exact HB.out))) : w.heap.size ≤ gb349)); have n8_ := Aside0.mk ((by rw [hg]; exact Nat.ne_of_lt (blk_lt (g := gb338) (o := .cells #[.slice none 0 0, .slice none 0 0] 25 (0, 0)) (by (with_reducible repeat (first | refine blk_drewN ?_ _ | refine blk_drew ?_ | refine blk_alloc ?_ _)); exact BK338.out)) : gb338 ≠ gb349)); have n9_ := Aside0.mk ((by rw [hg]; exact Nat.ne_of_gt (blk_lt (g := gb338) (o := .cells #[.slice none 0 0, .slice none 0 0] 25 (0, 0)) (by (with_reducible repeat (first | refine blk_drewN ?_ _ | refine blk_drew ?_ | refine blk_alloc ?_ _)); exact BK338.out)) : gb349 ≠ gb338)); have n10_ := Aside0.mk ((by rw [hg]; exact Nat.ne_of_lt (IsS80.lt (show IsS80 w _ g341 t339 t348 from by repeat (first | (with_reducible first | exact HI341.out | apply IsS80.alloc | apply IsS80.drewN | apply IsS80.drew | apply IsS80.set_1 | refine IsS80.far ?_ NB341_338.out _) | exact HI341.out))) : g341 ≠ gb349)); have n11_ := Aside0.mk ((by rw [hg]; exact Nat.ne_of_gt (IsS80.lt (show IsS80 w _ g341 t339 t348 from by repeat (first | (with_reducible first | exact HI341.out | apply IsS80.alloc | apply IsS80.drewN | apply IsS80.drew | apply IsS80.set_1 | refine IsS80.far ?_ NB341_338.out _) | exact HI341.out))) : gb349 ≠ g341)); clear HO344; clear HO347; clear BK338; clear HI341; clear HB; have HO344 := n0_; have HO347 := n1_; have BK338 := n2_; have HI341 := n3_; have HB := n4_; have BK349 := n5_; have GW349 := n6_; have GE349 := n7_; have NB338_349 := n8_; have NB349_338 := n9_; have NB341_349 := n10_; have NB349_341 := n11_; clear n0_ n1_ n2_ n3_ n4_ n5_ n6_ n7_ n8_ n9_ n10_ n11_; clear hb hbox hg; obtain ⟨Ao14, co14, eo14⟩ := Kd.N_slice HO344.out; subst eo14; have hnb15 := NB349_338.out; have hnc15 := NB338_349.out; have hnb16 := NB349_341.out; have hnc16 := NB341_349.out; have hcz17_0 : w13.cell? ⟨gb349, 0, none⟩ = some (.slice none 0 0) := (blk_cell BK349.out 0).trans rfl; have hcz17_1 : w13.cell? ⟨gb349, 1, none⟩ = some (.slice none 0 0) := (blk_cell BK349.out 1).trans rfl; have hfz17_0 := blk_frozen BK349.out 0; have hfz17_1 := blk_frozen BK349.out 1; obtain ⟨Ao18, co18, eo18⟩ := Kd.N_slice HO347.out; subst eo18))
          have pi360 : (0 ≤ (t358 : Int)) = True := eq_true (of_decide_eq_true (by first | (with_reducible assumption) | assumption))
          have qi360 : (t358 < (y355.length : Int)) = True := eq_true (of_decide_eq_true (by first | (with_reducible assumption) | assumption))
          have pi361 : (0 ≤ ((rd y355 t358) : Int)) = True := eq_true (of_decide_eq_true (by first | (with_reducible assumption) | assumption))
          have qi361 : ((rd y355 t358) < (y352.length : Int)) = True := eq_true (of_decide_eq_true (by first | (with_reducible assumption) | assumption))
          have n0_ : Aside0 (Kd.N (Kd.slice 3 (Kd.int .i64)) 36 ((w13.setCell ⟨gb349, 0, none⟩ (.slice Ao14 t342.length co14)).setCell ⟨gb349, 1, none⟩ (.slice Ao18 t345.length co18)) w.heap.size (fun k_ => (w.heap.size ≤ k_) ∧ some k_ ≠ (.slice Ao18 t345.length co18 : Value).ownBlock ∧ k_ ≠ gb338 ∧ k_ ≠ g341 ∧ k_ ≠ gb349) (.slice Ao14 t342.length co14) t342) := ⟨by (with_reducible repeat (first | apply Kd.N_alloc | apply Kd.N_drewN | apply Kd.N_drew)); exact Kd.N_mono (Kd.N_far (p := ⟨gb349, 1, none⟩) (Kd.N_far (p := ⟨gb349, 0, none⟩) (Kd.N_mono HO344.out (fun k_ hk => (⟨hk, hk.2⟩ : _ ∧ k_ ≠ gb349))) (fun _ hk => hk.2) (.slice Ao14 t342.length co14)) (fun _ hk => hk.2) (.slice Ao18 t345.length co18)) (fun _ hk => ⟨hk.1.1.1, ⟨hk.1.1.2.1, ⟨hk.1.1.2.2.1, ⟨hk.1.1.2.2.2, hk.1.2⟩⟩⟩⟩)⟩
          have n1_ : Aside0 (Kd.N (Kd.slice 3 (Kd.int .i64)) 36 ((w13.setCell ⟨gb349, 0, none⟩ (.slice Ao14 t342.length co14)).setCell ⟨gb349, 1, none⟩ (.slice Ao18 t345.length co18)) w.heap.size (fun k_ => (w.heap.size ≤ k_) ∧ some k_ ≠ (.slice Ao14 t342.length co14 : Value).ownBlock ∧ k_ ≠ gb338 ∧ k_ ≠ g341 ∧ k_ ≠ gb349) (.slice Ao18 t345.length co18) t345) := ⟨by (with_reducible repeat (first | apply Kd.N_alloc | apply Kd.N_drewN | apply Kd.N_drew)); exact Kd.N_mono (Kd.N_far (p := ⟨gb349, 1, none⟩) (Kd.N_far (p := ⟨gb349, 0, none⟩) (Kd.N_mono HO347.out (fun k_ hk => (⟨hk, hk.2⟩ : _ ∧ k_ ≠ gb349))) (fun _ hk => hk.2) (.slice Ao14 t342.length co14)) (fun _ hk => hk.2) (.slice Ao18 t345.length co18)) (fun _ hk => ⟨hk.1.1.1, ⟨hk.1.1.2.1, ⟨hk.1.1.2.2.1, ⟨hk.1.1.2.2.2, hk.1.2⟩⟩⟩⟩)⟩
          have n2_ : Aside0 (((w13.setCell ⟨gb349, 0, none⟩ (.slice Ao14 t342.length co14)).setCell ⟨gb349, 1, none⟩ (.slice Ao18 t345.length co18)).heap[gb338]? = some (.cells #[.slice none 0 0, .slice none 0 0] 25 (0, 0))) := ⟨by (with_reducible repeat (first | refine blk_drewN ?_ _ | refine blk_drew ?_ | refine blk_alloc ?_ _)); refine blk_far ?_ NB338_349.out _; (with_reducible repeat (first | refine blk_drewN ?_ _ | refine blk_drew ?_ | refine blk_alloc ?_ _)); refine blk_far ?_ NB338_349.out _; (with_reducible repeat (first | refine blk_drewN ?_ _ | refine blk_drew ?_ | refine blk_alloc ?_ _)); exact BK338.out⟩
          have n3_ : Aside0 (((w13.setCell ⟨gb349, 0, none⟩ (.slice Ao14 t342.length co14)).setCell ⟨gb349, 1, none⟩ (.slice Ao18 t345.length co18)).heap[gb349]? = some (.cells #[.slice Ao14 t342.length co14, .slice Ao18 t345.length co18] 25 (0, 0))) := ⟨by (with_reducible repeat (first | refine blk_drewN ?_ _ | refine blk_drew ?_ | refine blk_alloc ?_ _)); refine blk_put (cs := #[.slice Ao14 t342.length co14, .slice none 0 0]) ?_ 1 _ rfl; (with_reducible repeat (first | refine blk_drewN ?_ _ | refine blk_drew ?_ | refine blk_alloc ?_ _)); refine blk_put (cs := #[.slice none 0 0, .slice none 0 0]) ?_ 0 _ rfl; (with_reducible repeat (first | refine blk_drewN ?_ _ | refine blk_drew ?_ | refine blk_alloc ?_ _)); exact BK349.out⟩
          have n4_ : Aside0 (IsS80 w ((w13.setCell ⟨gb349, 0, none⟩ (.slice Ao14 t342.length co14)).setCell ⟨gb349, 1, none⟩ (.slice Ao18 t345.length co18)) g341 t339 t348) := ⟨by repeat (first | (with_reducible first | exact HI341.out | apply IsS80.alloc | apply IsS80.drewN | apply IsS80.drew | apply IsS80.set_1 | refine IsS80.far ?_ NB341_338.out _ | refine IsS80.far ?_ NB341_349.out _) | exact HI341.out)⟩
          have n5_ : Aside0 (Below w.heap.size w ((w13.setCell ⟨gb349, 0, none⟩ (.slice Ao14 t342.length co14)).setCell ⟨gb349, 1, none⟩ (.slice Ao18 t345.length co18))) := ⟨by repeat (first | (with_reducible first | exact HB.out | apply below_alloc | apply pw_below_drewN | apply below_drew1 | refine below_set ?_ (IsS80.ge HI341.out) | refine below_set ?_ GE338.out | refine below_set ?_ GE349.out) | exact HB.out)⟩
          (try clear HO344)
          (try clear HO347)
          (try clear BK338)
          (try clear BK349)
          (try clear HI341)
          (try clear HB)
          generalize ((w13.setCell ⟨gb349, 0, none⟩ (.slice Ao14 t342.length co14)).setCell ⟨gb349, 1, none⟩ (.slice Ao18 t345.length co18)) = w19 at n0_ n1_ n2_ n3_ n4_ n5_ ⊢
          have HO344 := n0_
          have HO347 := n1_
          have BK338 := n2_
          have BK349 := n3_
          have HI341 := n4_
          have HB := n5_
          clear n0_ n1_ n2_ n3_ n4_ n5_
          have n0_ := Aside0.mk (Kd.N_drew HO344.out)
          have n1_ := Aside0.mk (Kd.N_drew HO347.out)
          have n2_ := Aside0.mk (blk_drew BK338.out)
          have n3_ := Aside0.mk (blk_drew BK349.out)
          have n4_ := Aside0.mk (IsS80.drew HI341.out)
          have n5_ := Aside0.mk (below_drew1 HB.out)
          clear HO344
          clear HO347
          clear BK338
          clear BK349
          clear HI341
          clear HB
          have HO344 := n0_
          have HO347 := n1_
          have BK338 := n2_
          have BK349 := n3_
          have HI341 := n4_
          have HB := n5_
          clear n0_ n1_ n2_ n3_ n4_ n5_
          refine start_ (n := 14) (S := fun w' => True) (ds := []) #[false, false, false, false, false, false, false, false, false, false, false, false, false, false] (by kernel_rfl) rfl rfl trivial (fun hHeld => ?_); refine with_tabW spec_DrawPictureCount.tab3 spec_DrawPictureCount.bits3 (fun HT_ HW_ => ?_)
          generalize w19.drew = w20 at HO344 HO347 BK338 BK349 HI341 HB hHeld ⊢
          refine pure_ (i := 1) (N := some 11) (v := ?_) (a' := ?_) #[false, true, false, false, false, false, false, false, false, false, false, false, false, false] rfl rfl (any_of HT_.out (by kernel_rfl)) (fun _ _ _ h => h) (Or.inl ⟨by rfl, ?_⟩) ?_ ?_
          rotate_left
          · intro w'
            go_simp
            with_reducible rfl
          rotate_left
          · simp only [Act.put, List.setIfInBounds_toArray, List.set_cons_zero, List.set_cons_succ, i64_w, i32_w]
            rfl
          refine pure_ (i := 6) (N := some 16) (v := ?_) (a' := ?_) #[false, true, false, false, false, false, true, false, false, false, false, false, false, false] rfl rfl (any_of HT_.out (by kernel_rfl)) (fun _ _ _ h => h) (Or.inl ⟨by rfl, ?_⟩) ?_ ?_
          rotate_left
          · intro w'
            go_simp
            with_reducible rfl
          rotate_left
          · simp only [Act.put, List.setIfInBounds_toArray, List.set_cons_zero, List.set_cons_succ, i64_w, i32_w]
            rfl
          refine inv_at [0, 2, 3, 4, 5, 7, 8, 9, 10, 11, 12, 13] (fun a0_ b a w' => ∃ (v353 : Value) (adz_v353 : Addr) (v356 : Value) (adz_v356 : Addr) (m8_ : Value) (m10_ : Value), a = putSel a0_ b [(0, 10, .agg #[.slice Ao14 t342.length co14, .slice Ao18 t345.length co18]), (2, 12, .int .i64 t350), (3, 13, .int .i64 (wrap64 (1 + t350))), (4, 14, v353), (5, 15, v356), (7, 17, .int .i64 t358), (8, 18, m8_), (9, 19, .int .i64 (rd y355 t358)), (10, 20, m10_), (11, 21, .int .i64 (rd y352 (rd y355 t358))), (13, 3, .int .i64 (rd y352 (rd y355 t358)))] ∧ (Kd.N (Kd.slice 3 (Kd.int .i64)) 36 w' w.heap.size (fun k_ => (w.heap.size ≤ k_) ∧ some k_ ≠ (.slice Ao18 t345.length co18 : Value).ownBlock ∧ k_ ≠ gb338 ∧ k_ ≠ g341 ∧ k_ ≠ gb349) (.slice Ao14 t342.length co14) t342) ∧ (Kd.N (Kd.slice 3 (Kd.int .i64)) 36 w' w.heap.size (fun k_ => (w.heap.size ≤ k_) ∧ some k_ ≠ (.slice Ao14 t342.length co14 : Value).ownBlock ∧ k_ ≠ gb338 ∧ k_ ≠ g341 ∧ k_ ≠ gb349) (.slice Ao18 t345.length co18) t345) ∧ (b 12 = false → w'.heap[gb338]? = some (.cells #[.slice none 0 0, .slice none 0 0] 25 (0, 0))) ∧ (w'.heap[gb349]? = some (.cells #[.slice Ao14 t342.length co14, .slice Ao18 t345.length co18] 25 (0, 0))) ∧ (b 2 = false → IsS80 w w' g341 t339 t348) ∧ (Below w.heap.size w w') ∧ (b 2 = true → b 7 = false → IsS80 w w' g341 t339 t351) ∧ (b 4 = true → Kd.R (Kd.int .i64) 3 w' w.heap.size (fun k_ => (w.heap.size ≤ k_)) v353 y352) ∧ (b 4 = true → ∃ c_, (v353 : Value) = .slice (some adz_v353) y352.length c_) ∧ (b 5 = true → Kd.R (Kd.int .i64) 3 w' w.heap.size (fun k_ => (w.heap.size ≤ k_)) v356 y355) ∧ (b 5 = true → ∃ c_, (v356 : Value) = .slice (some adz_v356) y355.length c_) ∧ (b 7 = true → IsS80 w w' g341 t339 t359) ∧ (b 12 = true → w'.heap[gb338]? = some (.cells #[.slice Ao14 t342.length co14, .slice Ao18 t345.length co18] 25 (0, 0))) ∧ (b 8 = true → (m8_ : Value) = .pointer (some (adz_v356.add (t358).toNat))) ∧ (b 10 = true → (m10_ : Value) = .pointer (some (adz_v353.add ((rd y355 t358)).toNat)))) HT_.out HW_.out (by kernel_rfl) (by kernel_rfl) ?_ ?_ ?_
          · exact ⟨.bool false, ⟨0, 0, none⟩, .bool false, ⟨0, 0, none⟩, .bool false, .bool false, by simp only [putSel, Bool.false_eq_true, if_false], HO344.out, HO347.out, fun _ => BK338.out, BK349.out, fun _ => HI341.out, HB.out, fun h_ => absurd h_ (by decide), fun h_ => absurd h_ (by decide), fun h_ => absurd h_ (by decide), fun h_ => absurd h_ (by decide), fun h_ => absurd h_ (by decide), fun h_ => absurd h_ (by decide), fun h_ => absurd h_ (by decide), fun h_ => absurd h_ (by decide), fun h_ => absurd h_ (by decide)⟩
          · skip
            clear BK338 BK349 HB HI341 HO344 HO347
            refine steps_cons ?_ ?_
            · rintro b a w' ⟨v353, adz_v353, v356, adz_v356, m8_, m10_, ha, Q_HO344, Q_HO347, Q_BK338, Q_BK349, Q_HI341, Q_HB, Q_HI341_e2, Q_HO354, Q_HA_HO354, Q_HO357, Q_HA_HO357, Q_HI341_e7, Q_BK338_e12, Q_X8_, Q_X10_⟩ hb_ hon hoff
              refine ⟨_, rfl, fun K hK => ?_⟩
              have e5 : a.tmps[5]? = some (.pointer (some ⟨gb349, 0, none⟩)) := by rw [ha]; exact (putSel_off rfl).trans rfl
              replace ha := Aside0.mk ha
              have HO344 := Aside0.mk Q_HO344
              have HO347 := Aside0.mk Q_HO347
              have BK338 := Aside0.mk (Q_BK338 (hoff 12 (by kernel_rfl)))
              have BK349 := Aside0.mk Q_BK349
              have HB := Aside0.mk Q_HB
              have hc0_ : w'.cell? ⟨gb349, 0, none⟩ = some (.slice Ao14 t342.length co14) := (blk_cell BK349.out 0).trans rfl
              have hc1_ : w'.cell? ⟨gb349, 1, none⟩ = some (.slice Ao18 t345.length co18) := (blk_cell BK349.out 1).trans rfl
              refine value_ (w1 := w') (v := .agg #[.slice Ao14 t342.length co14, .slice Ao18 t345.length co18]) (by rfl) rfl ?_ ?_
              · go_simp
                (try simp only [i64_w])
                try rfl
              refine hK.out _ _ ⟨v353, adz_v353, v356, adz_v356, m8_, m10_, (by rw [ha.out]; exact putSel_upk 0 hb_ rfl rfl rfl), Q_HO344, Q_HO347, Q_BK338, Q_BK349, Q_HI341, Q_HB, Q_HI341_e2, Q_HO354, Q_HA_HO354, Q_HO357, Q_HA_HO357, Q_HI341_e7, fun h0_ => absurd ((hoff 12 (by kernel_rfl)).symm.trans h0_) (by decide), Q_X8_, Q_X10_⟩
            refine steps_cons ?_ ?_
            · rintro b a w' ⟨v353, adz_v353, v356, adz_v356, m8_, m10_, ha, Q_HO344, Q_HO347, Q_BK338, Q_BK349, Q_HI341, Q_HB, Q_HI341_e2, Q_HO354, Q_HA_HO354, Q_HO357, Q_HA_HO357, Q_HI341_e7, Q_BK338_e12, Q_X8_, Q_X10_⟩ hb_ hon hoff
              refine ⟨_, rfl, fun K hK => ?_⟩
              have e11 : a.tmps[11]? = some (.pointer (some ⟨g341, 0, none⟩)) := by rw [ha]; exact (putSel_off rfl).trans rfl
              replace ha := Aside0.mk ha
              have HO344 := Aside0.mk Q_HO344
              have HO347 := Aside0.mk Q_HO347
              have BK338 := Aside0.mk (Q_BK338 (hoff 12 (by kernel_rfl)))
              have BK349 := Aside0.mk Q_BK349
              have HI341 := Aside0.mk (Q_HI341 hb_)
              have HB := Aside0.mk Q_HB
              refine goes_ Try.func70 (by kernel_rfl) rfl #[.pointer (some ⟨g341, 0, none⟩), .int .i64 3] (by rfl) rfl rfl (by first | (simp only [List.map_toArray, List.map_cons, List.map_nil, Act.eval, Array.getD_eq_getD_getElem?, Option.getD_some, e11]; done) | (simp only [List.map_toArray, List.map_cons, List.map_nil, Act.eval, Array.getD_eq_getD_getElem?, Option.getD_some, e11]; rfl)) ?_
              with_reducible refine (spec_l20Rd_pick.calls k g341 t339 t348 3 t350 t351 w _ ?side1 ?side2 A4.out).mono ?_
              (case side1 => repeat (first | (with_reducible first | exact HI341.out | apply IsS80.alloc | apply IsS80.drewN | apply IsS80.drew | apply IsS80.set_1 | refine IsS80.far ?_ NB341_338.out _ | refine IsS80.far ?_ NB341_349.out _) | exact HI341.out))
              (case side2 => repeat (first | (with_reducible first | exact HB.out | apply below_alloc | apply pw_below_drewN | apply below_drew1 | refine below_set ?_ (IsS80.ge HI341.out) | refine below_set ?_ GE338.out | refine below_set ?_ GE349.out) | exact HB.out))
              rintro e w21 ⟨rfl, hi, hb, hk⟩
              refine ⟨_, rfl, ?_⟩
              have n0_ := Aside0.mk (KeepBut.blk hk (g' := gb338) (o := .cells #[.slice none 0 0, .slice none 0 0] 25 (0, 0)) (by (with_reducible repeat (first | refine blk_drewN ?_ _ | refine blk_drew ?_ | refine blk_alloc ?_ _)); exact BK338.out) NB338_341.out (by simp))
              have n1_ := Aside0.mk (Kd.N_mono (Kd.N_keep (Kd.N_mono (ok := fun k_ => (((w.heap.size ≤ k_)) ∧ (some k_ ≠ (.slice Ao18 t345.length co18 : Value).ownBlock ∧ (k_ ≠ gb338 ∧ (k_ ≠ g341 ∧ k_ ≠ gb349))))) (by (with_reducible repeat (first | apply Kd.N_alloc | apply Kd.N_drewN | apply Kd.N_drew)); exact HO344.out) (fun k_ hk_ => (⟨hk_, hk_.2.2.2.1⟩ : _ ∧ k_ ≠ g341))) hk (fun _ h => h.2)) (fun _ h => h.1))
              have n2_ := Aside0.mk (Kd.N_mono (Kd.N_keep (Kd.N_mono (ok := fun k_ => (((w.heap.size ≤ k_)) ∧ (some k_ ≠ (.slice Ao14 t342.length co14 : Value).ownBlock ∧ (k_ ≠ gb338 ∧ (k_ ≠ g341 ∧ k_ ≠ gb349))))) (by (with_reducible repeat (first | apply Kd.N_alloc | apply Kd.N_drewN | apply Kd.N_drew)); exact HO347.out) (fun k_ hk_ => (⟨hk_, hk_.2.2.2.1⟩ : _ ∧ k_ ≠ g341))) hk (fun _ h => h.2)) (fun _ h => h.1))
              have n3_ := Aside0.mk (KeepBut.blk hk (g' := gb349) (o := .cells #[.slice Ao14 t342.length co14, .slice Ao18 t345.length co18] 25 (0, 0)) (by (with_reducible repeat (first | refine blk_drewN ?_ _ | refine blk_drew ?_ | refine blk_alloc ?_ _)); exact BK349.out) NB349_341.out (by simp))
              have n4_ := Aside0.mk (hb)
              have n5_ := Aside0.mk (hi)
              have z_HO357 := fun (h0_ : b 5 = true) => (show Kd.R (Kd.int .i64) 3 w21 w.heap.size (fun k_ => (w.heap.size ≤ k_)) v356 y355 from by first | exact (Kd.R_mono (Kd.R_keep (IsS80.apart (show IsS80 w _ g341 t339 t348 from by repeat (first | (with_reducible first | exact HI341.out | apply IsS80.alloc | apply IsS80.drewN | apply IsS80.drew | apply IsS80.set_1 | refine IsS80.far ?_ NB341_338.out _ | refine IsS80.far ?_ NB341_349.out _) | exact HI341.out)) (by (with_reducible repeat (first | apply Kd.R_alloc | apply Kd.R_drewN | apply Kd.R_drew)); exact (Q_HO357 h0_)) (by decide)) hk (fun _ h => h.2)) (fun _ h => h.1)) | exact Kd.R_mono (Kd.R_mono (Kd.R_keep (IsS80.apart (show IsS80 w _ g341 t339 t348 from by repeat (first | (with_reducible first | exact HI341.out | apply IsS80.alloc | apply IsS80.drewN | apply IsS80.drew | apply IsS80.set_1 | refine IsS80.far ?_ NB341_338.out _ | refine IsS80.far ?_ NB341_349.out _) | exact HI341.out)) (by (with_reducible repeat (first | apply Kd.R_alloc | apply Kd.R_drewN | apply Kd.R_drew)); exact (Q_HO357 h0_)) (by decide)) hk (fun _ h => h.2)) (fun _ h => h.1)) (fun _ h_ => by first | trivial | exact h_ | exact h_.1))
              clear BK338
              clear HO344
              clear HO347
              clear BK349
              clear HB
              clear HI341
              have BK338 := n0_
              have HO344 := n1_
              have HO347 := n2_
              have BK349 := n3_
              have HB := n4_
              have HI341 := n5_
              clear n0_ n1_ n2_ n3_ n4_ n5_
              (try clear hb)
              (try clear hb2)
              (try clear hk)
              (try clear hi)
              refine hK.out _ _ ⟨v353, adz_v353, v356, adz_v356, m8_, m10_, (by rw [ha.out]; exact putSel_upk 1 hb_ rfl rfl rfl), (by (with_reducible repeat (first | apply Kd.N_alloc | apply Kd.N_drewN | apply Kd.N_drew)); exact HO344.out), (by (with_reducible repeat (first | apply Kd.N_alloc | apply Kd.N_drewN | apply Kd.N_drew)); exact HO347.out), fun _ => (by (with_reducible repeat (first | refine blk_drewN ?_ _ | refine blk_drew ?_ | refine blk_alloc ?_ _)); exact BK338.out), (by (with_reducible repeat (first | refine blk_drewN ?_ _ | refine blk_drew ?_ | refine blk_alloc ?_ _)); exact BK349.out), fun h0_ => absurd ((up_self b 2).symm.trans h0_) (by decide), (by repeat (first | (with_reducible first | exact HB.out | apply below_alloc | apply pw_below_drewN | apply below_drew1 | refine below_set ?_ (IsS80.ge HI341.out) | refine below_set ?_ GE338.out | refine below_set ?_ GE349.out) | exact HB.out)), fun _ _ => (by repeat (first | (with_reducible first | exact HI341.out | apply IsS80.alloc | apply IsS80.drewN | apply IsS80.drew | apply IsS80.set_1 | refine IsS80.far ?_ NB341_338.out _ | refine IsS80.far ?_ NB341_349.out _) | exact HI341.out)), fun h0_ => absurd ((hoff 4 (by kernel_rfl)).symm.trans h0_) (by decide), fun h0_ => absurd ((hoff 4 (by kernel_rfl)).symm.trans h0_) (by decide), z_HO357, Q_HA_HO357, fun h0_ => absurd ((hoff 7 (by kernel_rfl)).symm.trans h0_) (by decide), fun h0_ => absurd ((hoff 12 (by kernel_rfl)).symm.trans h0_) (by decide), fun h0_ => absurd ((hoff 8 (by kernel_rfl)).symm.trans h0_) (by decide), fun h0_ => absurd ((hoff 10 (by kernel_rfl)).symm.trans h0_) (by decide)⟩
            refine steps_cons ?_ ?_
            · rintro b a w' ⟨v353, adz_v353, v356, adz_v356, m8_, m10_, ha, Q_HO344, Q_HO347, Q_BK338, Q_BK349, Q_HI341, Q_HB, Q_HI341_e2, Q_HO354, Q_HA_HO354, Q_HO357, Q_HA_HO357, Q_HI341_e7, Q_BK338_e12, Q_X8_, Q_X10_⟩ hb_ hon hoff
              refine ⟨_, rfl, fun K hK => ?_⟩
              have e12 : a.tmps[12]? = some (.int .i64 t350) := by rw [ha]; exact putSel_on (e := (2, 12, .int .i64 t350)) 1 rfl rfl (hon 2 (by kernel_rfl)) rfl
              replace ha := Aside0.mk ha
              have HO344 := Aside0.mk Q_HO344
              have HO347 := Aside0.mk Q_HO347
              have BK349 := Aside0.mk Q_BK349
              have HB := Aside0.mk Q_HB
              refine value_ (w1 := w') (v := .int .i64 (wrap64 (1 + t350))) (by rfl) rfl ?_ ?_
              · go_simp
                (try simp only [i64_w])
                try rfl
              refine hK.out _ _ ⟨v353, adz_v353, v356, adz_v356, m8_, m10_, (by rw [ha.out]; exact putSel_upk 2 hb_ rfl rfl rfl), Q_HO344, Q_HO347, Q_BK338, Q_BK349, fun h0_ => absurd ((hon 2 (by kernel_rfl)).symm.trans h0_) (by decide), Q_HB, Q_HI341_e2, fun h0_ => absurd ((hoff 4 (by kernel_rfl)).symm.trans h0_) (by decide), fun h0_ => absurd ((hoff 4 (by kernel_rfl)).symm.trans h0_) (by decide), Q_HO357, Q_HA_HO357, Q_HI341_e7, Q_BK338_e12, Q_X8_, fun h0_ => absurd ((hoff 10 (by kernel_rfl)).symm.trans h0_) (by decide)⟩
            refine steps_cons ?_ ?_
            · rintro b a w' ⟨v353, adz_v353, v356, adz_v356, m8_, m10_, ha, Q_HO344, Q_HO347, Q_BK338, Q_BK349, Q_HI341, Q_HB, Q_HI341_e2, Q_HO354, Q_HA_HO354, Q_HO357, Q_HA_HO357, Q_HI341_e7, Q_BK338_e12, Q_X8_, Q_X10_⟩ hb_ hon hoff
              refine ⟨_, rfl, fun K hK => ?_⟩
              have e13 : a.tmps[13]? = some (.int .i64 (wrap64 (1 + t350))) := by rw [ha]; exact putSel_on (e := (3, 13, .int .i64 (wrap64 (1 + t350)))) 2 rfl rfl (hon 3 (by kernel_rfl)) rfl
              replace ha := Aside0.mk ha
              have HO344 := Aside0.mk Q_HO344
              have HO347 := Aside0.mk Q_HO347
              have BK349 := Aside0.mk Q_BK349
              have HB := Aside0.mk Q_HB
              refine Kd.R_lit_step (Kd.int .i64) _ 3 ?hg (N := 14) ?hd (xs := ([wrap64 (1 + t350), 100, 0, 101] : List Int)) (inner := [.int .i64 (wrap64 (1 + t350)), .int .i64 100, .int .i64 0, .int .i64 101]) (ok := fun _ => True) (okp := fun _ => True) ?hr ?hp (fun _ hk => hk) trivial (Below.refl _ _) (Nat.le_refl _) (by simp) ?_; (case hd => rfl); (case hg => rfl); (case hr => first | (go_simp; done) | (go_simp; rfl)); (case hp => exact (Reps.one (show Kd.M (Kd.int .i64) _ _ _ (wrap64 (1 + t350)) [.int .i64 (wrap64 (1 + t350))] from rfl) (Reps.one (show Kd.M (Kd.int .i64) _ _ _ 100 [.int .i64 100] from rfl) (Reps.one (show Kd.M (Kd.int .i64) _ _ _ 0 [.int .i64 0] from rfl) (Reps.one (show Kd.M (Kd.int .i64) _ _ _ 101 [.int .i64 101] from rfl) (Reps.none _ _))))))
              intro v353 w23 ho24 hb hg_ hnew_
              clear hg_ hnew_
              (first | rw [← Ny352.out] at ho24 | (simp only [Int.reduceToNat] at ho24; rw [← Ny352.out] at ho24))
              have n0_ := Aside0.mk (Kd.N_elder' (by (with_reducible repeat (first | apply Kd.N_alloc | apply Kd.N_drewN | apply Kd.N_drew)); exact HO344.out) (Kd.R_base ho24) hb)
              have n1_ := Aside0.mk (Kd.N_elder' (by (with_reducible repeat (first | apply Kd.N_alloc | apply Kd.N_drewN | apply Kd.N_drew)); exact HO347.out) (Kd.R_base ho24) hb)
              have n2_ := Aside0.mk (Kd.R_lower (Kd.R_newM (M := fun k_ => (w.heap.size ≤ k_)) ho24 (below_size (by repeat (first | (with_reducible first | exact HB.out | apply below_alloc | apply pw_below_drewN | apply below_drew1 | refine below_set ?_ GE338.out | refine below_set ?_ GE349.out) | exact HB.out))) (fun k_ h_ => h_)) (below_size (by repeat (first | (with_reducible first | exact HB.out | apply below_alloc | apply pw_below_drewN | apply below_drew1 | refine below_set ?_ GE338.out | refine below_set ?_ GE349.out) | exact HB.out))))
              have n5_ := Aside0.mk (blk_below (g := gb349) (o := .cells #[.slice Ao14 t342.length co14, .slice Ao18 t345.length co18] 25 (0, 0)) (by (with_reducible repeat (first | refine blk_drewN ?_ _ | refine blk_drew ?_ | refine blk_alloc ?_ _)); exact BK349.out) hb)
              have n6_ := Aside0.mk (below_step (by repeat (first | (with_reducible first | exact HB.out | apply below_alloc | apply pw_below_drewN | apply below_drew1 | refine below_set ?_ GE338.out | refine below_set ?_ GE349.out) | exact HB.out)) hb)
              have z_BK338 := fun (h0_ : b 12 = false) => (show w23.heap[gb338]? = some (.cells #[.slice none 0 0, .slice none 0 0] 25 (0, 0)) from by first | exact (blk_below (g := gb338) (o := .cells #[.slice none 0 0, .slice none 0 0] 25 (0, 0)) (by (with_reducible repeat (first | refine blk_drewN ?_ _ | refine blk_drew ?_ | refine blk_alloc ?_ _)); exact (Q_BK338 h0_)) hb))
              have z_HI341_e2 := fun (h0_ : b 2 = true) (h1_ : b 7 = false) => (show IsS80 w w23 g341 t339 t351 from by first | exact (IsS80.below (by repeat (first | (with_reducible first | exact (Q_HI341_e2 h0_ h1_) | apply IsS80.alloc | apply IsS80.drewN | apply IsS80.drew | apply IsS80.set_1 | refine IsS80.far ?_ NB341_338.out _ | refine IsS80.far ?_ NB341_349.out _) | exact (Q_HI341_e2 h0_ h1_))) hb))
              have z_HO357 := fun (h0_ : b 5 = true) => (show Kd.R (Kd.int .i64) 3 w23 w.heap.size (fun k_ => (w.heap.size ≤ k_)) v356 y355 from by first | exact (Kd.R_elder' (by (with_reducible repeat (first | apply Kd.R_alloc | apply Kd.R_drewN | apply Kd.R_drew)); exact (Q_HO357 h0_)) (Kd.R_base ho24) hb) | exact Kd.R_mono (Kd.R_elder' (by (with_reducible repeat (first | apply Kd.R_alloc | apply Kd.R_drewN | apply Kd.R_drew)); exact (Q_HO357 h0_)) (Kd.R_base ho24) hb) (fun _ h_ => by first | trivial | exact h_ | exact h_.1))
              have z_HI341_e7 := fun (h0_ : b 7 = true) => (show IsS80 w w23 g341 t339 t359 from by first | exact (IsS80.below (by repeat (first | (with_reducible first | exact (Q_HI341_e7 h0_) | apply IsS80.alloc | apply IsS80.drewN | apply IsS80.drew | apply IsS80.set_1 | refine IsS80.far ?_ NB341_338.out _ | refine IsS80.far ?_ NB341_349.out _) | exact (Q_HI341_e7 h0_))) hb))
              have z_BK338_e12 := fun (h0_ : b 12 = true) => (show w23.heap[gb338]? = some (.cells #[.slice Ao14 t342.length co14, .slice Ao18 t345.length co18] 25 (0, 0)) from by first | exact (blk_below (g := gb338) (o := .cells #[.slice Ao14 t342.length co14, .slice Ao18 t345.length co18] 25 (0, 0)) (by (with_reducible repeat (first | refine blk_drewN ?_ _ | refine blk_drew ?_ | refine blk_alloc ?_ _)); exact (Q_BK338_e12 h0_)) hb))
              clear HO344
              clear HO347
              clear BK349
              clear HB
              have HO344 := n0_
              have HO347 := n1_
              have HO354 := n2_
              have BK349 := n5_
              have HB := n6_
              clear n0_ n1_ n2_ n5_ n6_
              clear hb ho24
              obtain ⟨Ao25, co25, eo25⟩ := Kd.R_slice HO354.out
              subst eo25
              obtain ⟨ado25, fo25, _⟩ := Kd.at_int (Kd.R_reads' HO354.out).2.2 0 (by decide) (by rw [Ny352.out]; simp)
              cases fo25
              refine hK.out _ _ ⟨.slice (some ado25) y352.length co25, ado25, v356, adz_v356, m8_, m10_, (by rw [ha.out]; exact putSel_upk 3 hb_ rfl rfl rfl), (by (with_reducible repeat (first | apply Kd.N_alloc | apply Kd.N_drewN | apply Kd.N_drew)); exact Kd.N_mono HO344.out (fun _ hk => by (repeat' (with_reducible refine And.intro ?_ ?_)) <;> first | with_reducible exact hk.1 | with_reducible exact hk.2 | with_reducible exact hk.1.1 | with_reducible exact hk.1.2.1 | with_reducible exact hk.1.2.2.1 | with_reducible exact hk.1.2.2.2.1 | with_reducible exact hk.1.2.2.2.2.1 | with_reducible exact hk.1.2.2.2.2.2.1 | with_reducible exact hk.1.2.2.2.2.2.2.1 | with_reducible exact hk.2.1 | with_reducible exact hk.2.2.1 | with_reducible exact hk.2.2.2.1 | with_reducible exact hk.2.2.2.2.1 | with_reducible exact hk.2.2.2.2.2.1 | with_reducible exact hk.2.2.2.2.2.2.1 | with_reducible exact hk.2.2.2.2.2.2.2.1 | with_reducible exact hk.1.2.2 | with_reducible exact hk.1.2.2.2 | with_reducible exact hk.1.2.2.2.2 | with_reducible exact hk.1.2.2.2.2.2 | with_reducible exact hk.1.2.2.2.2.2.2 | with_reducible exact hk.2.2 | with_reducible exact hk.2.2.2 | with_reducible exact hk.2.2.2.2 | with_reducible exact hk.2.2.2.2.2 | with_reducible exact hk.2.2.2.2.2.2)), (by (with_reducible repeat (first | apply Kd.N_alloc | apply Kd.N_drewN | apply Kd.N_drew)); exact Kd.N_mono HO347.out (fun _ hk => by (repeat' (with_reducible refine And.intro ?_ ?_)) <;> first | with_reducible exact hk.1 | with_reducible exact hk.2 | with_reducible exact hk.1.1 | with_reducible exact hk.1.2.1 | with_reducible exact hk.1.2.2.1 | with_reducible exact hk.1.2.2.2.1 | with_reducible exact hk.1.2.2.2.2.1 | with_reducible exact hk.1.2.2.2.2.2.1 | with_reducible exact hk.1.2.2.2.2.2.2.1 | with_reducible exact hk.2.1 | with_reducible exact hk.2.2.1 | with_reducible exact hk.2.2.2.1 | with_reducible exact hk.2.2.2.2.1 | with_reducible exact hk.2.2.2.2.2.1 | with_reducible exact hk.2.2.2.2.2.2.1 | with_reducible exact hk.2.2.2.2.2.2.2.1 | with_reducible exact hk.1.2.2 | with_reducible exact hk.1.2.2.2 | with_reducible exact hk.1.2.2.2.2 | with_reducible exact hk.1.2.2.2.2.2 | with_reducible exact hk.1.2.2.2.2.2.2 | with_reducible exact hk.2.2 | with_reducible exact hk.2.2.2 | with_reducible exact hk.2.2.2.2 | with_reducible exact hk.2.2.2.2.2 | with_reducible exact hk.2.2.2.2.2.2)), z_BK338, (by (with_reducible repeat (first | refine blk_drewN ?_ _ | refine blk_drew ?_ | refine blk_alloc ?_ _)); exact BK349.out), fun h0_ => absurd ((hon 2 (by kernel_rfl)).symm.trans h0_) (by decide), (by repeat (first | (with_reducible first | exact HB.out | apply below_alloc | apply pw_below_drewN | apply below_drew1 | refine below_set ?_ GE338.out | refine below_set ?_ GE349.out) | exact HB.out)), z_HI341_e2, fun _ => (by (with_reducible repeat (first | apply Kd.R_alloc | apply Kd.R_drewN | apply Kd.R_drew)); exact Kd.R_mono HO354.out (fun _ hk => hk.1)), fun _ => ⟨_, rfl⟩, z_HO357, Q_HA_HO357, z_HI341_e7, z_BK338_e12, Q_X8_, fun h0_ => absurd ((hoff 10 (by kernel_rfl)).symm.trans h0_) (by decide)⟩
            refine steps_cons ?_ ?_
            · rintro b a w' ⟨v353, adz_v353, v356, adz_v356, m8_, m10_, ha, Q_HO344, Q_HO347, Q_BK338, Q_BK349, Q_HI341, Q_HB, Q_HI341_e2, Q_HO354, Q_HA_HO354, Q_HO357, Q_HA_HO357, Q_HI341_e7, Q_BK338_e12, Q_X8_, Q_X10_⟩ hb_ hon hoff
              refine ⟨_, rfl, fun K hK => ?_⟩
              replace ha := Aside0.mk ha
              have HO344 := Aside0.mk Q_HO344
              have HO347 := Aside0.mk Q_HO347
              have BK349 := Aside0.mk Q_BK349
              have HB := Aside0.mk Q_HB
              refine Kd.R_lit_step (Kd.int .i64) _ 3 ?hg (N := 15) ?hd (xs := ([0, 0, 1, 1, 1, 2, 3] : List Int)) (inner := [.int .i64 0, .int .i64 0, .int .i64 1, .int .i64 1, .int .i64 1, .int .i64 2, .int .i64 3]) (ok := fun _ => True) (okp := fun _ => True) ?hr ?hp (fun _ hk => hk) trivial (Below.refl _ _) (Nat.le_refl _) (by simp) ?_; (case hd => rfl); (case hg => rfl); (case hr => first | (go_simp; done) | (go_simp; rfl)); (case hp => exact (Reps.one (show Kd.M (Kd.int .i64) _ _ _ 0 [.int .i64 0] from rfl) (Reps.one (show Kd.M (Kd.int .i64) _ _ _ 0 [.int .i64 0] from rfl) (Reps.one (show Kd.M (Kd.int .i64) _ _ _ 1 [.int .i64 1] from rfl) (Reps.one (show Kd.M (Kd.int .i64) _ _ _ 1 [.int .i64 1] from rfl) (Reps.one (show Kd.M (Kd.int .i64) _ _ _ 1 [.int .i64 1] from rfl) (Reps.one (show Kd.M (Kd.int .i64) _ _ _ 2 [.int .i64 2] from rfl) (Reps.one (show Kd.M (Kd.int .i64) _ _ _ 3 [.int .i64 3] from rfl) (Reps.none _ _)))))))))
              intro v356 w21 ho22 hb hg_ hnew_
              clear hg_ hnew_
              (first | rw [← Ny355.out] at ho22 | (simp only [Int.reduceToNat] at ho22; rw [← Ny355.out] at ho22))
              have n0_ := Aside0.mk (Kd.N_elder' (by (with_reducible repeat (first | apply Kd.N_alloc | apply Kd.N_drewN | apply Kd.N_drew)); exact HO344.out) (Kd.R_base ho22) hb)
              have n1_ := Aside0.mk (Kd.N_elder' (by (with_reducible repeat (first | apply Kd.N_alloc | apply Kd.N_drewN | apply Kd.N_drew)); exact HO347.out) (Kd.R_base ho22) hb)
              have n2_ := Aside0.mk (Kd.R_lower (Kd.R_newM (M := fun k_ => (w.heap.size ≤ k_)) ho22 (below_size (by repeat (first | (with_reducible first | exact HB.out | apply below_alloc | apply pw_below_drewN | apply below_drew1 | refine below_set ?_ GE338.out | refine below_set ?_ GE349.out) | exact HB.out))) (fun k_ h_ => h_)) (below_size (by repeat (first | (with_reducible first | exact HB.out | apply below_alloc | apply pw_below_drewN | apply below_drew1 | refine below_set ?_ GE338.out | refine below_set ?_ GE349.out) | exact HB.out))))
              have n5_ := Aside0.mk (blk_below (g := gb349) (o := .cells #[.slice Ao14 t342.length co14, .slice Ao18 t345.length co18] 25 (0, 0)) (by (with_reducible repeat (first | refine blk_drewN ?_ _ | refine blk_drew ?_ | refine blk_alloc ?_ _)); exact BK349.out) hb)
              have n6_ := Aside0.mk (below_step (by repeat (first | (with_reducible first | exact HB.out | apply below_alloc | apply pw_below_drewN | apply below_drew1 | refine below_set ?_ GE338.out | refine below_set ?_ GE349.out) | exact HB.out)) hb)
              have z_BK338 := fun (h0_ : b 12 = false) => (show w21.heap[gb338]? = some (.cells #[.slice none 0 0, .slice none 0 0] 25 (0, 0)) from by first | exact (blk_below (g := gb338) (o := .cells #[.slice none 0 0, .slice none 0 0] 25 (0, 0)) (by (with_reducible repeat (first | refine blk_drewN ?_ _ | refine blk_drew ?_ | refine blk_alloc ?_ _)); exact (Q_BK338 h0_)) hb))
              have z_HI341 := fun (h0_ : b 2 = false) => (show IsS80 w w21 g341 t339 t348 from by first | exact (IsS80.below (by repeat (first | (with_reducible first | exact (Q_HI341 h0_) | apply IsS80.alloc | apply IsS80.drewN | apply IsS80.drew | apply IsS80.set_1 | refine IsS80.far ?_ NB341_338.out _ | refine IsS80.far ?_ NB341_349.out _) | exact (Q_HI341 h0_))) hb))
              have z_HI341_e2 := fun (h0_ : b 2 = true) (h1_ : b 7 = false) => (show IsS80 w w21 g341 t339 t351 from by first | exact (IsS80.below (by repeat (first | (with_reducible first | exact (Q_HI341_e2 h0_ h1_) | apply IsS80.alloc | apply IsS80.drewN | apply IsS80.drew | apply IsS80.set_1 | refine IsS80.far ?_ NB341_338.out _ | refine IsS80.far ?_ NB341_349.out _) | exact (Q_HI341_e2 h0_ h1_))) hb))
              have z_HO354 := fun (h0_ : b 4 = true) => (show Kd.R (Kd.int .i64) 3 w21 w.heap.size (fun k_ => (w.heap.size ≤ k_)) v353 y352 from by first | exact (Kd.R_elder' (by (with_reducible repeat (first | apply Kd.R_alloc | apply Kd.R_drewN | apply Kd.R_drew)); exact (Q_HO354 h0_)) (Kd.R_base ho22) hb) | exact Kd.R_mono (Kd.R_elder' (by (with_reducible repeat (first | apply Kd.R_alloc | apply Kd.R_drewN | apply Kd.R_drew)); exact (Q_HO354 h0_)) (Kd.R_base ho22) hb) (fun _ h_ => by first | trivial | exact h_ | exact h_.1))
              have z_HI341_e7 := fun (h0_ : b 7 = true) => (show IsS80 w w21 g341 t339 t359 from by first | exact (IsS80.below (by repeat (first | (with_reducible first | exact (Q_HI341_e7 h0_) | apply IsS80.alloc | apply IsS80.drewN | apply IsS80.drew | apply IsS80.set_1 | refine IsS80.far ?_ NB341_338.out _ | refine IsS80.far ?_ NB341_349.out _) | exact (Q_HI341_e7 h0_))) hb))
              have z_BK338_e12 := fun (h0_ : b 12 = true) => (show w21.heap[gb338]? = some (.cells #[.slice Ao14 t342.length co14, .slice Ao18 t345.length co18] 25 (0, 0)) from by first | exact (blk_below (g := gb338) (o := .cells #[.slice Ao14 t342.length co14, .slice Ao18 t345.length co18] 25 (0, 0)) (by (with_reducible repeat (first | refine blk_drewN ?_ _ | refine blk_drew ?_ | refine blk_alloc ?_ _)); exact (Q_BK338_e12 h0_)) hb))
              clear HO344
              clear HO347
              clear BK349
              clear HB
              have HO344 := n0_
              have HO347 := n1_
              have HO357 := n2_
              have BK349 := n5_
              have HB := n6_
              clear n0_ n1_ n2_ n5_ n6_
              clear hb ho22
              obtain ⟨Ao23, co23, eo23⟩ := Kd.R_slice HO357.out
              subst eo23
              obtain ⟨ado23, fo23, _⟩ := Kd.at_int (Kd.R_reads' HO357.out).2.2 0 (by decide) (by rw [Ny355.out]; simp)
              cases fo23
              refine hK.out _ _ ⟨v353, adz_v353, .slice (some ado23) y355.length co23, ado23, m8_, m10_, (by rw [ha.out]; exact putSel_upk 4 hb_ rfl rfl rfl), (by (with_reducible repeat (first | apply Kd.N_alloc | apply Kd.N_drewN | apply Kd.N_drew)); exact Kd.N_mono HO344.out (fun _ hk => by (repeat' (with_reducible refine And.intro ?_ ?_)) <;> first | with_reducible exact hk.1 | with_reducible exact hk.2 | with_reducible exact hk.1.1 | with_reducible exact hk.1.2.1 | with_reducible exact hk.1.2.2.1 | with_reducible exact hk.1.2.2.2.1 | with_reducible exact hk.1.2.2.2.2.1 | with_reducible exact hk.1.2.2.2.2.2.1 | with_reducible exact hk.1.2.2.2.2.2.2.1 | with_reducible exact hk.2.1 | with_reducible exact hk.2.2.1 | with_reducible exact hk.2.2.2.1 | with_reducible exact hk.2.2.2.2.1 | with_reducible exact hk.2.2.2.2.2.1 | with_reducible exact hk.2.2.2.2.2.2.1 | with_reducible exact hk.2.2.2.2.2.2.2.1 | with_reducible exact hk.1.2.2 | with_reducible exact hk.1.2.2.2 | with_reducible exact hk.1.2.2.2.2 | with_reducible exact hk.1.2.2.2.2.2 | with_reducible exact hk.1.2.2.2.2.2.2 | with_reducible exact hk.2.2 | with_reducible exact hk.2.2.2 | with_reducible exact hk.2.2.2.2 | with_reducible exact hk.2.2.2.2.2 | with_reducible exact hk.2.2.2.2.2.2)), (by (with_reducible repeat (first | apply Kd.N_alloc | apply Kd.N_drewN | apply Kd.N_drew)); exact Kd.N_mono HO347.out (fun _ hk => by (repeat' (with_reducible refine And.intro ?_ ?_)) <;> first | with_reducible exact hk.1 | with_reducible exact hk.2 | with_reducible exact hk.1.1 | with_reducible exact hk.1.2.1 | with_reducible exact hk.1.2.2.1 | with_reducible exact hk.1.2.2.2.1 | with_reducible exact hk.1.2.2.2.2.1 | with_reducible exact hk.1.2.2.2.2.2.1 | with_reducible exact hk.1.2.2.2.2.2.2.1 | with_reducible exact hk.2.1 | with_reducible exact hk.2.2.1 | with_reducible exact hk.2.2.2.1 | with_reducible exact hk.2.2.2.2.1 | with_reducible exact hk.2.2.2.2.2.1 | with_reducible exact hk.2.2.2.2.2.2.1 | with_reducible exact hk.2.2.2.2.2.2.2.1 | with_reducible exact hk.1.2.2 | with_reducible exact hk.1.2.2.2 | with_reducible exact hk.1.2.2.2.2 | with_reducible exact hk.1.2.2.2.2.2 | with_reducible exact hk.1.2.2.2.2.2.2 | with_reducible exact hk.2.2 | with_reducible exact hk.2.2.2 | with_reducible exact hk.2.2.2.2 | with_reducible exact hk.2.2.2.2.2 | with_reducible exact hk.2.2.2.2.2.2)), z_BK338, (by (with_reducible repeat (first | refine blk_drewN ?_ _ | refine blk_drew ?_ | refine blk_alloc ?_ _)); exact BK349.out), z_HI341, (by repeat (first | (with_reducible first | exact HB.out | apply below_alloc | apply pw_below_drewN | apply below_drew1 | refine below_set ?_ GE338.out | refine below_set ?_ GE349.out) | exact HB.out)), z_HI341_e2, z_HO354, Q_HA_HO354, fun _ => (by (with_reducible repeat (first | apply Kd.R_alloc | apply Kd.R_drewN | apply Kd.R_drew)); exact Kd.R_mono HO357.out (fun _ hk => hk.1)), fun _ => ⟨_, rfl⟩, z_HI341_e7, z_BK338_e12, fun h0_ => absurd ((hoff 8 (by kernel_rfl)).symm.trans h0_) (by decide), fun h0_ => absurd ((hoff 10 (by kernel_rfl)).symm.trans h0_) (by decide)⟩
            refine steps_cons ?_ ?_
            · rintro b a w' ⟨v353, adz_v353, v356, adz_v356, m8_, m10_, ha, Q_HO344, Q_HO347, Q_BK338, Q_BK349, Q_HI341, Q_HB, Q_HI341_e2, Q_HO354, Q_HA_HO354, Q_HO357, Q_HA_HO357, Q_HI341_e7, Q_BK338_e12, Q_X8_, Q_X10_⟩ hb_ hon hoff
              refine ⟨_, rfl, fun K hK => ?_⟩
              have e16 : a.tmps[16]? = some (.pointer (some ⟨g341, 0, none⟩)) := by rw [ha]; exact (putSel_off rfl).trans rfl
              replace ha := Aside0.mk ha
              have HO344 := Aside0.mk Q_HO344
              have HO347 := Aside0.mk Q_HO347
              have BK338 := Aside0.mk (Q_BK338 (hoff 12 (by kernel_rfl)))
              have BK349 := Aside0.mk Q_BK349
              have HB := Aside0.mk Q_HB
              have HI341 := Aside0.mk (Q_HI341_e2 (hon 2 (by kernel_rfl)) hb_)
              refine goes_ Try.func70 (by kernel_rfl) rfl #[.pointer (some ⟨g341, 0, none⟩), .int .i64 7] (by rfl) rfl rfl (by first | (simp only [List.map_toArray, List.map_cons, List.map_nil, Act.eval, Array.getD_eq_getD_getElem?, Option.getD_some, e16]; done) | (simp only [List.map_toArray, List.map_cons, List.map_nil, Act.eval, Array.getD_eq_getD_getElem?, Option.getD_some, e16]; rfl)) ?_
              with_reducible refine (spec_l20Rd_pick.calls k g341 t339 t351 7 t358 t359 w _ ?side1 ?side2 A5.out).mono ?_
              (case side1 => repeat (first | (with_reducible first | exact HI341.out | apply IsS80.alloc | apply IsS80.drewN | apply IsS80.drew | apply IsS80.set_1 | refine IsS80.far ?_ NB341_338.out _ | refine IsS80.far ?_ NB341_349.out _) | exact HI341.out))
              (case side2 => repeat (first | (with_reducible first | exact HB.out | apply below_alloc | apply pw_below_drewN | apply below_drew1 | refine below_set ?_ (IsS80.ge HI341.out) | refine below_set ?_ GE338.out | refine below_set ?_ GE349.out) | exact HB.out))
              rintro e w23 ⟨rfl, hi, hb, hk⟩
              refine ⟨_, rfl, ?_⟩
              have n0_ := Aside0.mk (KeepBut.blk hk (g' := gb338) (o := .cells #[.slice none 0 0, .slice none 0 0] 25 (0, 0)) (by (with_reducible repeat (first | refine blk_drewN ?_ _ | refine blk_drew ?_ | refine blk_alloc ?_ _)); exact BK338.out) NB338_341.out (by simp))
              have n1_ := Aside0.mk (Kd.N_mono (Kd.N_keep (Kd.N_mono (ok := fun k_ => (((w.heap.size ≤ k_)) ∧ (some k_ ≠ (.slice Ao18 t345.length co18 : Value).ownBlock ∧ (k_ ≠ gb338 ∧ (k_ ≠ g341 ∧ k_ ≠ gb349))))) (by (with_reducible repeat (first | apply Kd.N_alloc | apply Kd.N_drewN | apply Kd.N_drew)); exact HO344.out) (fun k_ hk_ => (⟨hk_, hk_.2.2.2.1⟩ : _ ∧ k_ ≠ g341))) hk (fun _ h => h.2)) (fun _ h => h.1))
              have n2_ := Aside0.mk (Kd.N_mono (Kd.N_keep (Kd.N_mono (ok := fun k_ => (((w.heap.size ≤ k_)) ∧ (some k_ ≠ (.slice Ao14 t342.length co14 : Value).ownBlock ∧ (k_ ≠ gb338 ∧ (k_ ≠ g341 ∧ k_ ≠ gb349))))) (by (with_reducible repeat (first | apply Kd.N_alloc | apply Kd.N_drewN | apply Kd.N_drew)); exact HO347.out) (fun k_ hk_ => (⟨hk_, hk_.2.2.2.1⟩ : _ ∧ k_ ≠ g341))) hk (fun _ h => h.2)) (fun _ h => h.1))
              have n3_ := Aside0.mk (KeepBut.blk hk (g' := gb349) (o := .cells #[.slice Ao14 t342.length co14, .slice Ao18 t345.length co18] 25 (0, 0)) (by (with_reducible repeat (first | refine blk_drewN ?_ _ | refine blk_drew ?_ | refine blk_alloc ?_ _)); exact BK349.out) NB349_341.out (by simp))
              have n4_ := Aside0.mk (hb)
              have n5_ := Aside0.mk (hi)
              have z_HO354 := fun (h0_ : b 4 = true) => (show Kd.R (Kd.int .i64) 3 w23 w.heap.size (fun k_ => (w.heap.size ≤ k_)) v353 y352 from by first | exact (Kd.R_mono (Kd.R_keep (IsS80.apart (show IsS80 w _ g341 t339 t351 from by repeat (first | (with_reducible first | exact HI341.out | apply IsS80.alloc | apply IsS80.drewN | apply IsS80.drew | apply IsS80.set_1 | refine IsS80.far ?_ NB341_338.out _ | refine IsS80.far ?_ NB341_349.out _) | exact HI341.out)) (by (with_reducible repeat (first | apply Kd.R_alloc | apply Kd.R_drewN | apply Kd.R_drew)); exact (Q_HO354 h0_)) (by decide)) hk (fun _ h => h.2)) (fun _ h => h.1)) | exact Kd.R_mono (Kd.R_mono (Kd.R_keep (IsS80.apart (show IsS80 w _ g341 t339 t351 from by repeat (first | (with_reducible first | exact HI341.out | apply IsS80.alloc | apply IsS80.drewN | apply IsS80.drew | apply IsS80.set_1 | refine IsS80.far ?_ NB341_338.out _ | refine IsS80.far ?_ NB341_349.out _) | exact HI341.out)) (by (with_reducible repeat (first | apply Kd.R_alloc | apply Kd.R_drewN | apply Kd.R_drew)); exact (Q_HO354 h0_)) (by decide)) hk (fun _ h => h.2)) (fun _ h => h.1)) (fun _ h_ => by first | trivial | exact h_ | exact h_.1))
              have z_HO357 := fun (h0_ : b 5 = true) => (show Kd.R (Kd.int .i64) 3 w23 w.heap.size (fun k_ => (w.heap.size ≤ k_)) v356 y355 from by first | exact (Kd.R_mono (Kd.R_keep (IsS80.apart (show IsS80 w _ g341 t339 t351 from by repeat (first | (with_reducible first | exact HI341.out | apply IsS80.alloc | apply IsS80.drewN | apply IsS80.drew | apply IsS80.set_1 | refine IsS80.far ?_ NB341_338.out _ | refine IsS80.far ?_ NB341_349.out _) | exact HI341.out)) (by (with_reducible repeat (first | apply Kd.R_alloc | apply Kd.R_drewN | apply Kd.R_drew)); exact (Q_HO357 h0_)) (by decide)) hk (fun _ h => h.2)) (fun _ h => h.1)) | exact Kd.R_mono (Kd.R_mono (Kd.R_keep (IsS80.apart (show IsS80 w _ g341 t339 t351 from by repeat (first | (with_reducible first | exact HI341.out | apply IsS80.alloc | apply IsS80.drewN | apply IsS80.drew | apply IsS80.set_1 | refine IsS80.far ?_ NB341_338.out _ | refine IsS80.far ?_ NB341_349.out _) | exact HI341.out)) (by (with_reducible repeat (first | apply Kd.R_alloc | apply Kd.R_drewN | apply Kd.R_drew)); exact (Q_HO357 h0_)) (by decide)) hk (fun _ h => h.2)) (fun _ h => h.1)) (fun _ h_ => by first | trivial | exact h_ | exact h_.1))
              clear BK338
              clear HO344
              clear HO347
              clear BK349
              clear HB
              clear HI341
              have BK338 := n0_
              have HO344 := n1_
              have HO347 := n2_
              have BK349 := n3_
              have HB := n4_
              have HI341 := n5_
              clear n0_ n1_ n2_ n3_ n4_ n5_
              (try clear hb)
              (try clear hb2)
              (try clear hk)
              (try clear hi)
              refine hK.out _ _ ⟨v353, adz_v353, v356, adz_v356, m8_, m10_, (by rw [ha.out]; exact putSel_upk 5 hb_ rfl rfl rfl), (by (with_reducible repeat (first | apply Kd.N_alloc | apply Kd.N_drewN | apply Kd.N_drew)); exact HO344.out), (by (with_reducible repeat (first | apply Kd.N_alloc | apply Kd.N_drewN | apply Kd.N_drew)); exact HO347.out), fun _ => (by (with_reducible repeat (first | refine blk_drewN ?_ _ | refine blk_drew ?_ | refine blk_alloc ?_ _)); exact BK338.out), (by (with_reducible repeat (first | refine blk_drewN ?_ _ | refine blk_drew ?_ | refine blk_alloc ?_ _)); exact BK349.out), fun h0_ => absurd ((hon 2 (by kernel_rfl)).symm.trans h0_) (by decide), (by repeat (first | (with_reducible first | exact HB.out | apply below_alloc | apply pw_below_drewN | apply below_drew1 | refine below_set ?_ (IsS80.ge HI341.out) | refine below_set ?_ GE338.out | refine below_set ?_ GE349.out) | exact HB.out)), fun _ h1_ => absurd ((up_self b 7).symm.trans h1_) (by decide), z_HO354, Q_HA_HO354, z_HO357, Q_HA_HO357, fun _ => (by repeat (first | (with_reducible first | exact HI341.out | apply IsS80.alloc | apply IsS80.drewN | apply IsS80.drew | apply IsS80.set_1 | refine IsS80.far ?_ NB341_338.out _ | refine IsS80.far ?_ NB341_349.out _) | exact HI341.out)), fun h0_ => absurd ((hoff 12 (by kernel_rfl)).symm.trans h0_) (by decide), fun h0_ => absurd ((hoff 8 (by kernel_rfl)).symm.trans h0_) (by decide), fun h0_ => absurd ((hoff 10 (by kernel_rfl)).symm.trans h0_) (by decide)⟩
            refine steps_cons ?_ ?_
            · rintro b a w' ⟨v353, adz_v353, v356, adz_v356, m8_, m10_, ha, Q_HO344, Q_HO347, Q_BK338, Q_BK349, Q_HI341, Q_HB, Q_HI341_e2, Q_HO354, Q_HA_HO354, Q_HO357, Q_HA_HO357, Q_HI341_e7, Q_BK338_e12, Q_X8_, Q_X10_⟩ hb_ hon hoff
              refine ⟨_, rfl, fun K hK => ?_⟩
              have e15 : a.tmps[15]? = some (v356) := by rw [ha]; exact putSel_on (e := (5, 15, v356)) 4 rfl rfl (hon 5 (by kernel_rfl)) rfl
              have e17 : a.tmps[17]? = some (.int .i64 t358) := by rw [ha]; exact putSel_on (e := (7, 17, .int .i64 t358)) 5 rfl rfl (hon 7 (by kernel_rfl)) rfl
              replace ha := Aside0.mk ha
              have HO344 := Aside0.mk Q_HO344
              have HO347 := Aside0.mk Q_HO347
              have BK349 := Aside0.mk Q_BK349
              have HB := Aside0.mk Q_HB
              have HO357 := Aside0.mk (Q_HO357 (hon 5 (by kernel_rfl)))
              have HA_HO357 := Aside0.mk (Q_HA_HO357 (hon 5 (by kernel_rfl)))
              have HI341 := Aside0.mk (Q_HI341_e7 (hon 7 (by kernel_rfl)))
              obtain ⟨c_, hv_⟩ := HA_HO357.out
              rw [hv_] at e15
              refine value_ (w1 := w') (v := .pointer (some (adz_v356.add (t358).toNat))) (by rfl) rfl ?_ ?_
              · go_simp
                (try simp only [i64_w])
                try rfl
              refine hK.out _ _ ⟨v353, adz_v353, v356, adz_v356, (.pointer (some (adz_v356.add (t358).toNat))), m10_, (by rw [ha.out]; exact putSel_upk 6 hb_ rfl rfl rfl), Q_HO344, Q_HO347, Q_BK338, Q_BK349, fun h0_ => absurd ((hon 2 (by kernel_rfl)).symm.trans h0_) (by decide), Q_HB, fun _ h1_ => absurd ((hon 7 (by kernel_rfl)).symm.trans h1_) (by decide), Q_HO354, Q_HA_HO354, Q_HO357, Q_HA_HO357, Q_HI341_e7, Q_BK338_e12, fun _ => rfl, fun h0_ => absurd ((hoff 10 (by kernel_rfl)).symm.trans h0_) (by decide)⟩
            refine steps_cons ?_ ?_
            · rintro b a w' ⟨v353, adz_v353, v356, adz_v356, m8_, m10_, ha, Q_HO344, Q_HO347, Q_BK338, Q_BK349, Q_HI341, Q_HB, Q_HI341_e2, Q_HO354, Q_HA_HO354, Q_HO357, Q_HA_HO357, Q_HI341_e7, Q_BK338_e12, Q_X8_, Q_X10_⟩ hb_ hon hoff
              refine ⟨_, rfl, fun K hK => ?_⟩
              have e18 : a.tmps[18]? = some (m8_) := by rw [ha]; exact putSel_on (e := (8, 18, m8_)) 6 rfl rfl (hon 8 (by kernel_rfl)) rfl
              rw [Q_X8_ (hon 8 (by kernel_rfl))] at e18
              replace ha := Aside0.mk ha
              have HO344 := Aside0.mk Q_HO344
              have HO347 := Aside0.mk Q_HO347
              have BK349 := Aside0.mk Q_BK349
              have HB := Aside0.mk Q_HB
              have HO357 := Aside0.mk (Q_HO357 (hon 5 (by kernel_rfl)))
              have HA_HO357 := Aside0.mk (Q_HA_HO357 (hon 5 (by kernel_rfl)))
              have HI341 := Aside0.mk (Q_HI341_e7 (hon 7 (by kernel_rfl)))
              obtain ⟨c_, hv_⟩ := HA_HO357.out
              have hF_ := HO357.out
              rw [hv_] at hF_
              obtain ⟨ad_, ea_, hx_⟩ := Kd.at_int (Kd.R_reads' hF_).2.2 t358 (of_eq_true pi360) (of_eq_true qi360)
              cases ea_
              refine value_ (w1 := w') (v := .int .i64 (rd y355 t358)) (by rfl) rfl ?_ ?_
              · go_simp
                (try simp only [i64_w])
                try rfl
              refine hK.out _ _ ⟨v353, adz_v353, v356, adz_v356, m8_, m10_, (by rw [ha.out]; exact putSel_upk 7 hb_ rfl rfl rfl), Q_HO344, Q_HO347, Q_BK338, Q_BK349, fun h0_ => absurd ((hon 2 (by kernel_rfl)).symm.trans h0_) (by decide), Q_HB, fun _ h1_ => absurd ((hon 7 (by kernel_rfl)).symm.trans h1_) (by decide), Q_HO354, Q_HA_HO354, Q_HO357, Q_HA_HO357, Q_HI341_e7, Q_BK338_e12, Q_X8_, fun h0_ => absurd ((hoff 10 (by kernel_rfl)).symm.trans h0_) (by decide)⟩
            refine steps_cons ?_ ?_
            · rintro b a w' ⟨v353, adz_v353, v356, adz_v356, m8_, m10_, ha, Q_HO344, Q_HO347, Q_BK338, Q_BK349, Q_HI341, Q_HB, Q_HI341_e2, Q_HO354, Q_HA_HO354, Q_HO357, Q_HA_HO357, Q_HI341_e7, Q_BK338_e12, Q_X8_, Q_X10_⟩ hb_ hon hoff
              refine ⟨_, rfl, fun K hK => ?_⟩
              have e14 : a.tmps[14]? = some (v353) := by rw [ha]; exact putSel_on (e := (4, 14, v353)) 3 rfl rfl (hon 4 (by kernel_rfl)) rfl
              have e19 : a.tmps[19]? = some (.int .i64 (rd y355 t358)) := by rw [ha]; exact putSel_on (e := (9, 19, .int .i64 (rd y355 t358))) 7 rfl rfl (hon 9 (by kernel_rfl)) rfl
              replace ha := Aside0.mk ha
              have HO344 := Aside0.mk Q_HO344
              have HO347 := Aside0.mk Q_HO347
              have BK349 := Aside0.mk Q_BK349
              have HB := Aside0.mk Q_HB
              have HO354 := Aside0.mk (Q_HO354 (hon 4 (by kernel_rfl)))
              have HA_HO354 := Aside0.mk (Q_HA_HO354 (hon 4 (by kernel_rfl)))
              have HO357 := Aside0.mk (Q_HO357 (hon 5 (by kernel_rfl)))
              have HA_HO357 := Aside0.mk (Q_HA_HO357 (hon 5 (by kernel_rfl)))
              have HI341 := Aside0.mk (Q_HI341_e7 (hon 7 (by kernel_rfl)))
              obtain ⟨c_, hv_⟩ := HA_HO354.out
              rw [hv_] at e14
              refine value_ (w1 := w') (v := .pointer (some (adz_v353.add ((rd y355 t358)).toNat))) (by rfl) rfl ?_ ?_
              · go_simp
                (try simp only [i64_w])
                try rfl
              refine hK.out _ _ ⟨v353, adz_v353, v356, adz_v356, m8_, (.pointer (some (adz_v353.add ((rd y355 t358)).toNat))), (by rw [ha.out]; exact putSel_upk 8 hb_ rfl rfl rfl), Q_HO344, Q_HO347, Q_BK338, Q_BK349, fun h0_ => absurd ((hon 2 (by kernel_rfl)).symm.trans h0_) (by decide), Q_HB, fun _ h1_ => absurd ((hon 7 (by kernel_rfl)).symm.trans h1_) (by decide), Q_HO354, Q_HA_HO354, Q_HO357, Q_HA_HO357, Q_HI341_e7, Q_BK338_e12, Q_X8_, fun _ => rfl⟩
            refine steps_cons ?_ ?_
            · rintro b a w' ⟨v353, adz_v353, v356, adz_v356, m8_, m10_, ha, Q_HO344, Q_HO347, Q_BK338, Q_BK349, Q_HI341, Q_HB, Q_HI341_e2, Q_HO354, Q_HA_HO354, Q_HO357, Q_HA_HO357, Q_HI341_e7, Q_BK338_e12, Q_X8_, Q_X10_⟩ hb_ hon hoff
              refine ⟨_, rfl, fun K hK => ?_⟩
              have e20 : a.tmps[20]? = some (m10_) := by rw [ha]; exact putSel_on (e := (10, 20, m10_)) 8 rfl rfl (hon 10 (by kernel_rfl)) rfl
              rw [Q_X10_ (hon 10 (by kernel_rfl))] at e20
              replace ha := Aside0.mk ha
              have HO344 := Aside0.mk Q_HO344
              have HO347 := Aside0.mk Q_HO347
              have BK349 := Aside0.mk Q_BK349
              have HB := Aside0.mk Q_HB
              have HO354 := Aside0.mk (Q_HO354 (hon 4 (by kernel_rfl)))
              have HA_HO354 := Aside0.mk (Q_HA_HO354 (hon 4 (by kernel_rfl)))
              have HO357 := Aside0.mk (Q_HO357 (hon 5 (by kernel_rfl)))
              have HA_HO357 := Aside0.mk (Q_HA_HO357 (hon 5 (by kernel_rfl)))
              have HI341 := Aside0.mk (Q_HI341_e7 (hon 7 (by kernel_rfl)))
              obtain ⟨c_, hv_⟩ := HA_HO354.out
              have hF_ := HO354.out
              rw [hv_] at hF_
              obtain ⟨ad_, ea_, hx_⟩ := Kd.at_int (Kd.R_reads' hF_).2.2 (rd y355 t358) (of_eq_true pi361) (of_eq_true qi361)
              cases ea_
              refine value_ (w1 := w') (v := .int .i64 (rd y352 (rd y355 t358))) (by rfl) rfl ?_ ?_
              · go_simp
                (try simp only [i64_w])
                try rfl
              refine hK.out _ _ ⟨v353, adz_v353, v356, adz_v356, m8_, m10_, (by rw [ha.out]; exact putSel_upk 9 hb_ rfl rfl rfl), Q_HO344, Q_HO347, Q_BK338, Q_BK349, fun h0_ => absurd ((hon 2 (by kernel_rfl)).symm.trans h0_) (by decide), Q_HB, fun _ h1_ => absurd ((hon 7 (by kernel_rfl)).symm.trans h1_) (by decide), Q_HO354, Q_HA_HO354, Q_HO357, Q_HA_HO357, Q_HI341_e7, Q_BK338_e12, Q_X8_, Q_X10_⟩
            refine steps_cons ?_ ?_
            · rintro b a w' ⟨v353, adz_v353, v356, adz_v356, m8_, m10_, ha, Q_HO344, Q_HO347, Q_BK338, Q_BK349, Q_HI341, Q_HB, Q_HI341_e2, Q_HO354, Q_HA_HO354, Q_HO357, Q_HA_HO357, Q_HI341_e7, Q_BK338_e12, Q_X8_, Q_X10_⟩ hb_ hon hoff
              refine ⟨_, rfl, fun K hK => ?_⟩
              have e2 : a.tmps[2]? = some (.pointer (some ⟨gb338, 0, none⟩)) := by rw [ha]; exact (putSel_off rfl).trans rfl
              have e10 : a.tmps[10]? = some (.agg #[.slice Ao14 t342.length co14, .slice Ao18 t345.length co18]) := by rw [ha]; exact putSel_on (e := (0, 10, .agg #[.slice Ao14 t342.length co14, .slice Ao18 t345.length co18])) 0 rfl rfl (hon 0 (by kernel_rfl)) rfl
              replace ha := Aside0.mk ha
              have HO344 := Aside0.mk Q_HO344
              have HO347 := Aside0.mk Q_HO347
              have BK338 := Aside0.mk (Q_BK338 hb_)
              have BK349 := Aside0.mk Q_BK349
              have HB := Aside0.mk Q_HB
              have HI341 := Aside0.mk (Q_HI341_e7 (hon 7 (by kernel_rfl)))
              have hs24 : w'.cell? ⟨gb338, 0, none⟩ = some (.slice none 0 0) := (blk_cell BK338.out 0).trans rfl
              have hfs24 := blk_frozen BK338.out 0
              have hns24_1 := NB349_338.out
              have hms24_1 := NB338_349.out
              have hs25 : w'.cell? ⟨gb338, 1, none⟩ = some (.slice none 0 0) := (blk_cell BK338.out 1).trans rfl
              have hfs25 := blk_frozen BK338.out 1
              have hns25_1 := NB349_338.out
              have hms25_1 := NB338_349.out
              refine skip_ (w1 := ?_) (by rfl) rfl ?_ ?_
              rotate_left
              · go_simp
                rfl
              refine hK.out _ _ ⟨v353, adz_v353, v356, adz_v356, m8_, m10_, (by rw [ha.out]; exact putSel_none (v := undef) rfl), (by (with_reducible repeat (first | apply Kd.N_alloc | apply Kd.N_drewN | apply Kd.N_drew)); exact Kd.N_mono (Kd.N_far (p := ⟨gb338, 1, none⟩) (Kd.N_far (p := ⟨gb338, 0, none⟩) (Kd.N_mono HO344.out (fun k_ hk => (⟨hk, hk.2.2.1⟩ : _ ∧ k_ ≠ gb338))) (fun _ hk => hk.2) (.slice Ao14 t342.length co14)) (fun _ hk => hk.2) (.slice Ao18 t345.length co18)) (fun _ hk => by (repeat' (with_reducible refine And.intro ?_ ?_)) <;> first | with_reducible exact hk.1 | with_reducible exact hk.2 | with_reducible exact hk.1.1 | with_reducible exact hk.1.2.1 | with_reducible exact hk.1.2.2.1 | with_reducible exact hk.1.2.2.2.1 | with_reducible exact hk.1.2.2.2.2.1 | with_reducible exact hk.1.2.2.2.2.2.1 | with_reducible exact hk.1.2.2.2.2.2.2.1 | with_reducible exact hk.2.1 | with_reducible exact hk.2.2.1 | with_reducible exact hk.2.2.2.1 | with_reducible exact hk.2.2.2.2.1 | with_reducible exact hk.2.2.2.2.2.1 | with_reducible exact hk.2.2.2.2.2.2.1 | with_reducible exact hk.2.2.2.2.2.2.2.1 | with_reducible exact hk.1.2.2 | with_reducible exact hk.1.2.2.2 | with_reducible exact hk.1.2.2.2.2 | with_reducible exact hk.1.2.2.2.2.2 | with_reducible exact hk.1.2.2.2.2.2.2 | with_reducible exact hk.2.2 | with_reducible exact hk.2.2.2 | with_reducible exact hk.2.2.2.2 | with_reducible exact hk.2.2.2.2.2 | with_reducible exact hk.2.2.2.2.2.2)), (by (with_reducible repeat (first | apply Kd.N_alloc | apply Kd.N_drewN | apply Kd.N_drew)); exact Kd.N_mono (Kd.N_far (p := ⟨gb338, 1, none⟩) (Kd.N_far (p := ⟨gb338, 0, none⟩) (Kd.N_mono HO347.out (fun k_ hk => (⟨hk, hk.2.2.1⟩ : _ ∧ k_ ≠ gb338))) (fun _ hk => hk.2) (.slice Ao14 t342.length co14)) (fun _ hk => hk.2) (.slice Ao18 t345.length co18)) (fun _ hk => by (repeat' (with_reducible refine And.intro ?_ ?_)) <;> first | with_reducible exact hk.1 | with_reducible exact hk.2 | with_reducible exact hk.1.1 | with_reducible exact hk.1.2.1 | with_reducible exact hk.1.2.2.1 | with_reducible exact hk.1.2.2.2.1 | with_reducible exact hk.1.2.2.2.2.1 | with_reducible exact hk.1.2.2.2.2.2.1 | with_reducible exact hk.1.2.2.2.2.2.2.1 | with_reducible exact hk.2.1 | with_reducible exact hk.2.2.1 | with_reducible exact hk.2.2.2.1 | with_reducible exact hk.2.2.2.2.1 | with_reducible exact hk.2.2.2.2.2.1 | with_reducible exact hk.2.2.2.2.2.2.1 | with_reducible exact hk.2.2.2.2.2.2.2.1 | with_reducible exact hk.1.2.2 | with_reducible exact hk.1.2.2.2 | with_reducible exact hk.1.2.2.2.2 | with_reducible exact hk.1.2.2.2.2.2 | with_reducible exact hk.1.2.2.2.2.2.2 | with_reducible exact hk.2.2 | with_reducible exact hk.2.2.2 | with_reducible exact hk.2.2.2.2 | with_reducible exact hk.2.2.2.2.2 | with_reducible exact hk.2.2.2.2.2.2)), fun h0_ => absurd ((up_self b 12).symm.trans h0_) (by decide), (by (with_reducible repeat (first | refine blk_drewN ?_ _ | refine blk_drew ?_ | refine blk_alloc ?_ _)); refine blk_far ?_ NB349_338.out _; (with_reducible repeat (first | refine blk_drewN ?_ _ | refine blk_drew ?_ | refine blk_alloc ?_ _)); refine blk_far ?_ NB349_338.out _; (with_reducible repeat (first | refine blk_drewN ?_ _ | refine blk_drew ?_ | refine blk_alloc ?_ _)); exact BK349.out), fun h0_ => absurd ((hon 2 (by kernel_rfl)).symm.trans h0_) (by decide), (by repeat (first | (with_reducible first | exact HB.out | apply below_alloc | apply pw_below_drewN | apply below_drew1 | refine below_set ?_ (IsS80.ge HI341.out) | refine below_set ?_ GE338.out | refine below_set ?_ GE349.out) | exact HB.out)), fun _ h1_ => absurd ((hon 7 (by kernel_rfl)).symm.trans h1_) (by decide), fun h0_ => (by (with_reducible repeat (first | apply Kd.R_alloc | apply Kd.R_drewN | apply Kd.R_drew)); exact Kd.R_mono (Kd.R_far (p := ⟨gb338, 1, none⟩) (Kd.R_far (p := ⟨gb338, 0, none⟩) (Kd.R_types (Q_HO354 h0_) BK338.out (by decide)) (fun _ hk => hk.2) (.slice Ao14 t342.length co14)) (fun _ hk => hk.2) (.slice Ao18 t345.length co18)) (fun _ hk => hk.1)), Q_HA_HO354, fun h0_ => (by (with_reducible repeat (first | apply Kd.R_alloc | apply Kd.R_drewN | apply Kd.R_drew)); exact Kd.R_mono (Kd.R_far (p := ⟨gb338, 1, none⟩) (Kd.R_far (p := ⟨gb338, 0, none⟩) (Kd.R_types (Q_HO357 h0_) BK338.out (by decide)) (fun _ hk => hk.2) (.slice Ao14 t342.length co14)) (fun _ hk => hk.2) (.slice Ao18 t345.length co18)) (fun _ hk => hk.1)), Q_HA_HO357, fun _ => (by repeat (first | (with_reducible first | exact HI341.out | apply IsS80.alloc | apply IsS80.drewN | apply IsS80.drew | apply IsS80.set_1 | refine IsS80.far ?_ NB341_338.out _ | refine IsS80.far ?_ NB341_349.out _) | exact HI341.out)), fun _ => (by (with_reducible repeat (first | refine blk_drewN ?_ _ | refine blk_drew ?_ | refine blk_alloc ?_ _)); refine blk_put (cs := #[.slice Ao14 t342.length co14, .slice none 0 0]) ?_ 1 _ rfl; (with_reducible repeat (first | refine blk_drewN ?_ _ | refine blk_drew ?_ | refine blk_alloc ?_ _)); refine blk_put (cs := #[.slice none 0 0, .slice none 0 0]) ?_ 0 _ rfl; (with_reducible repeat (first | refine blk_drewN ?_ _ | refine blk_drew ?_ | refine blk_alloc ?_ _)); exact BK338.out), Q_X8_, Q_X10_⟩
            refine steps_cons ?_ ?_
            · rintro b a w' ⟨v353, adz_v353, v356, adz_v356, m8_, m10_, ha, Q_HO344, Q_HO347, Q_BK338, Q_BK349, Q_HI341, Q_HB, Q_HI341_e2, Q_HO354, Q_HA_HO354, Q_HO357, Q_HA_HO357, Q_HI341_e7, Q_BK338_e12, Q_X8_, Q_X10_⟩ hb_ hon hoff
              refine ⟨_, rfl, fun K hK => ?_⟩
              have e21 : a.tmps[21]? = some (.int .i64 (rd y352 (rd y355 t358))) := by rw [ha]; exact putSel_on (e := (11, 21, .int .i64 (rd y352 (rd y355 t358)))) 9 rfl rfl (hon 11 (by kernel_rfl)) rfl
              replace ha := Aside0.mk ha
              have HO344 := Aside0.mk Q_HO344
              have HO347 := Aside0.mk Q_HO347
              have BK349 := Aside0.mk Q_BK349
              have HB := Aside0.mk Q_HB
              have HO354 := Aside0.mk (Q_HO354 (hon 4 (by kernel_rfl)))
              have HA_HO354 := Aside0.mk (Q_HA_HO354 (hon 4 (by kernel_rfl)))
              have HO357 := Aside0.mk (Q_HO357 (hon 5 (by kernel_rfl)))
              have HA_HO357 := Aside0.mk (Q_HA_HO357 (hon 5 (by kernel_rfl)))
              have HI341 := Aside0.mk (Q_HI341_e7 (hon 7 (by kernel_rfl)))
              have BK338 := Aside0.mk (Q_BK338_e12 (hon 12 (by kernel_rfl)))
              refine value_ (w1 := w') (v := .int .i64 (rd y352 (rd y355 t358))) (by rfl) rfl ?_ ?_
              · go_simp
                (try simp only [i64_w])
                try rfl
              refine hK.out _ _ ⟨v353, adz_v353, v356, adz_v356, m8_, m10_, (by rw [ha.out]; exact putSel_upk 10 hb_ rfl rfl rfl), Q_HO344, Q_HO347, fun h0_ => absurd ((hon 12 (by kernel_rfl)).symm.trans h0_) (by decide), Q_BK349, fun h0_ => absurd ((hon 2 (by kernel_rfl)).symm.trans h0_) (by decide), Q_HB, fun _ h1_ => absurd ((hon 7 (by kernel_rfl)).symm.trans h1_) (by decide), Q_HO354, Q_HA_HO354, Q_HO357, Q_HA_HO357, Q_HI341_e7, Q_BK338_e12, Q_X8_, Q_X10_⟩
            exact steps_nil
          rintro b a w31 hall ⟨v353, adz_v353, v356, adz_v356, m8_, m10_, ha, Q_HO344, Q_HO347, Q_BK338, Q_BK349, Q_HI341, Q_HB, Q_HI341_e2, Q_HO354, Q_HA_HO354, Q_HO357, Q_HA_HO357, Q_HI341_e7, Q_BK338_e12, Q_X8_, Q_X10_⟩
          clear BK338 BK349 HB HI341 HO344 HO347
          have hb0_ := hall 0 (by kernel_rfl)
          have hb2_ := hall 2 (by kernel_rfl)
          have hb3_ := hall 3 (by kernel_rfl)
          have hb4_ := hall 4 (by kernel_rfl)
          have hb5_ := hall 5 (by kernel_rfl)
          have hb7_ := hall 7 (by kernel_rfl)
          have hb8_ := hall 8 (by kernel_rfl)
          have hb9_ := hall 9 (by kernel_rfl)
          have hb10_ := hall 10 (by kernel_rfl)
          have hb11_ := hall 11 (by kernel_rfl)
          have hb12_ := hall 12 (by kernel_rfl)
          have hb13_ := hall 13 (by kernel_rfl)
          subst ha
          obtain rfl := Q_X8_ hb8_
          obtain rfl := Q_X10_ hb10_
          simp only [putSel, hb0_, hb2_, hb3_, hb4_, hb5_, hb7_, hb8_, hb9_, hb10_, hb11_, hb12_, hb13_, if_true, Act.put, List.setIfInBounds_toArray, List.set_cons_zero, List.set_cons_succ]
          have HO344 := Aside0.mk Q_HO344
          clear Q_HO344
          have HO347 := Aside0.mk Q_HO347
          clear Q_HO347
          clear Q_BK338
          have BK349 := Aside0.mk Q_BK349
          clear Q_BK349
          clear Q_HI341
          have HB := Aside0.mk Q_HB
          clear Q_HB
          clear Q_HI341_e2
          have HO354 := Aside0.mk (Q_HO354 hb4_)
          clear Q_HO354
          have HA_HO354 := Aside0.mk (Q_HA_HO354 hb4_)
          clear Q_HA_HO354
          have HO357 := Aside0.mk (Q_HO357 hb5_)
          clear Q_HO357
          have HA_HO357 := Aside0.mk (Q_HA_HO357 hb5_)
          clear Q_HA_HO357
          have HI341 := Aside0.mk (Q_HI341_e7 hb7_)
          clear Q_HI341_e7
          have BK338 := Aside0.mk (Q_BK338_e12 hb12_)
          clear Q_BK338_e12
          clear hall hb0_ hb2_ hb3_ hb4_ hb5_ hb7_ hb8_ hb9_ hb10_ hb11_ hb12_ hb13_
          obtain ⟨co32, eo32⟩ := HA_HO354.out
          clear HA_HO354
          subst eo32
          obtain ⟨co33, eo33⟩ := HA_HO357.out
          clear HA_HO357
          subst eo33
          try go_wp2
          refine bodyPost_ret (results_ct rfl _ _ gb338 25 #[.slice Ao14 t342.length co14, .slice Ao18 t345.length co18] (0, 0) _ rfl (by (with_reducible repeat (first | refine blk_drewN ?_ _ | refine blk_drew ?_ | refine blk_alloc ?_ _)); exact BK338.out) Try.underlying25 rfl (by kernel_rfl)) rfl ?_
          exact ⟨_, _, by first | rfl | (simp [errW_none, errW_some] <;> rfl) | (simp [*, errW_none, errW_some] <;> rfl), by (with_reducible repeat (first | apply Kd.N_alloc | apply Kd.N_drewN | apply Kd.N_drew)); exact Kd.N_mono HO344.out (fun _ hk => ⟨hk.1, hk.2.1⟩), by (with_reducible repeat (first | apply Kd.N_alloc | apply Kd.N_drewN | apply Kd.N_drew)); exact Kd.N_mono HO347.out (fun _ hk => ⟨hk.1, hk.2.1⟩), by repeat (first | (with_reducible first | exact HB.out | apply below_alloc | apply pw_below_drewN | apply below_drew1 | refine below_set ?_ (IsS80.ge HI341.out) | refine below_set ?_ GE338.out | refine below_set ?_ GE349.out) | exact HB.out)⟩
        · rw [if_neg c9] at H
          exact absurd H (by simp)
      · rw [if_neg c8] at H
        exact absurd H (by simp)
    · rw [if_neg c7] at H
      exact absurd H (by simp)
  · rw [if_neg c6] at H
    exact absurd H (by simp)

/-! ### laws_FnPictureTurned: function 9 -/
def laws_FnPictureTurned.f (k : Nat) (l0 : List Int) : Option (Bool) := if (l0.length : Int) > 1048576 then (some true) else ((spec_DrawPictureCount.f k l0).bind fun bt362 => ((impl_PictureCount.f k bt362.1 bt362.2.1 bt362.2.2).bind fun t370 => ((spec_PictureCount.f k bt362.1 bt362.2.1 bt362.2.2).bind fun t371 => (if t370 = t371 then ((spec_PictureValid.f k bt362.1 bt362.2.1).bind fun t372 => (if t372 = true then ((impl_PictureCount.f k bt362.2.1 bt362.1 100).bind fun t373 => ((impl_PictureCount.f k bt362.1 bt362.2.1 100).bind fun t374 => (some (t373 == t374)))) else ((laws_alive.f k).bind fun t375 => (some t375)))) else (some false)))))
theorem laws_FnPictureTurned.mono : ∀ a0 k, LeO (laws_FnPictureTurned.f k a0) (laws_FnPictureTurned.f (k + 1) a0) := by
  intro a0 k
  unfold laws_FnPictureTurned.f
  repeat' first
      | (with_reducible exact impl_PictureCount.mono _ _ _ _)
      | (with_reducible exact laws_alive.mono _)
      | (with_reducible exact spec_DrawPictureCount.mono _ _)
      | (with_reducible exact spec_PictureCount.mono _ _ _ _)
      | (with_reducible exact spec_PictureValid.mono _ _ _)
      | (with_reducible exact LeO.refl _)
      | (with_reducible exact LeO.none _)
      | (with_reducible refine LeO.ite ?_ ?_)
      | (with_reducible refine LeO.bind ?_ (fun _ => ?_))
      | exact impl_PictureCount.mono _ _ _ _
      | exact laws_alive.mono _
      | exact spec_DrawPictureCount.mono _ _
      | exact spec_PictureCount.mono _ _ _ _
      | exact spec_PictureValid.mono _ _ _
      | exact LeO.none _
      | refine LeO.ite ?_ ?_
      | refine LeO.bind ?_ (fun _ => ?_)
def laws_FnPictureTurned.T9 : Bool × List (List Nat × List Nat) := (true, [([], []), ([0], [0]), ([], []), ([2], [2]), ([1, 3], [1, 3]), ([4], [4]), ([], []), ([6, 5], [6]), ([5, 7], [5, 7]), ([8, 7, 0, 1, 2, 3, 4, 5, 6, 7, 8], [8])])
def laws_FnPictureTurned.B9 : List Nat := [0, 1, 0, 4, 15, 31, 0, 127, 255, 511]
theorem laws_FnPictureTurned.tab9 : rtab .any (opsOf Try.f9 9) = laws_FnPictureTurned.T9 := by kernel_rfl
theorem laws_FnPictureTurned.bits9 : waitsOk laws_FnPictureTurned.T9.2 laws_FnPictureTurned.B9 = true := by kernel_rfl
set_option maxHeartbeats 8000000 in
set_option maxRecDepth 100000 in
theorem laws_FnPictureTurned.calls (k : Nat) (A0 : Option Addr) (c0 : Nat) (l0 : List Int) (r : Bool) (w : World) (hr0 : Kd.C (Kd.int .u8) w A0 l0.length l0) (hc0 : l0.length ≤ c0) (h : laws_FnPictureTurned.f k l0 = some r) :
    Calls Try.prog 9 #[.slice A0 l0.length c0] w fun e w' => e = .returned (.bool r) ∧ Below w.heap.size w w' := by
  have hu25 := Try.underlying25
  have HR0 := Aside0.mk hr0
  have HC0 := Aside0.mk hc0
  clear hr0 hc0
  have HB := Aside0.mk (Below.refl w.heap.size w)
  have H : (if (l0.length : Int) > 1048576 then (some true) else ((spec_DrawPictureCount.f k l0).bind fun bt362 => ((impl_PictureCount.f k bt362.1 bt362.2.1 bt362.2.2).bind fun t370 => ((spec_PictureCount.f k bt362.1 bt362.2.1 bt362.2.2).bind fun t371 => (if t370 = t371 then ((spec_PictureValid.f k bt362.1 bt362.2.1).bind fun t372 => (if t372 = true then ((impl_PictureCount.f k bt362.2.1 bt362.1 100).bind fun t373 => ((impl_PictureCount.f k bt362.1 bt362.2.1 100).bind fun t374 => (some (t373 == t374)))) else ((laws_alive.f k).bind fun t375 => (some t375)))) else (some false)))))) = some r := h
  clear h
  by_cases c2 : (l0.length : Int) > 1048576
  · rw [if_pos c2] at H
    have c2b0 : decide (1048576 < (l0.length : Int)) = true := decide_eq_true c2
    have c2b1 : decide (1048576 < l0.length) = true := decide_eq_true (by omega)
    clear c2
    obtain rfl := Option.some.inj H
    go_enter Try.func9, Try.ntmps9
    go_wp2
    go_ret
    exact ⟨by first | rfl | (simp [errW_none, errW_some] <;> rfl) | (simp [*, errW_none, errW_some] <;> rfl), by repeat (first | (with_reducible first | exact HB.out | apply below_alloc | apply pw_below_drewN | apply below_drew1) | exact HB.out)⟩
  · rw [if_neg c2] at H
    have c2b0 : decide (1048576 < (l0.length : Int)) = false := decide_eq_false c2
    have c2b1 : decide (1048576 < l0.length) = false := decide_eq_false (by omega)
    clear c2
    replace H := Option.bind_eq_some_iff.mp H
    obtain ⟨⟨t362, t365, t368⟩, A30, H⟩ := H
    replace H : ((impl_PictureCount.f k t362 t365 t368).bind fun t370 => ((spec_PictureCount.f k t362 t365 t368).bind fun t371 => (if t370 = t371 then ((spec_PictureValid.f k t362 t365).bind fun t372 => (if t372 = true then ((impl_PictureCount.f k t365 t362 100).bind fun t373 => ((impl_PictureCount.f k t362 t365 100).bind fun t374 => (some (t373 == t374)))) else ((laws_alive.f k).bind fun t375 => (some t375)))) else (some false)))) = some r := H
    have A3 := Aside0.mk A30
    clear A30
    replace H := Option.bind_eq_some_iff.mp H
    obtain ⟨t370, A40, H⟩ := H
    replace H : ((spec_PictureCount.f k t362 t365 t368).bind fun t371 => (if t370 = t371 then ((spec_PictureValid.f k t362 t365).bind fun t372 => (if t372 = true then ((impl_PictureCount.f k t365 t362 100).bind fun t373 => ((impl_PictureCount.f k t362 t365 100).bind fun t374 => (some (t373 == t374)))) else ((laws_alive.f k).bind fun t375 => (some t375)))) else (some false))) = some r := H
    have A4 := Aside0.mk A40
    clear A40
    replace H := Option.bind_eq_some_iff.mp H
    obtain ⟨t371, A50, H⟩ := H
    replace H : (if t370 = t371 then ((spec_PictureValid.f k t362 t365).bind fun t372 => (if t372 = true then ((impl_PictureCount.f k t365 t362 100).bind fun t373 => ((impl_PictureCount.f k t362 t365 100).bind fun t374 => (some (t373 == t374)))) else ((laws_alive.f k).bind fun t375 => (some t375)))) else (some false)) = some r := H
    have A5 := Aside0.mk A50
    clear A50
    by_cases c6 : t370 = t371
    · rw [if_pos c6] at H
      have c6b0 : (t370 == t371) = true := beq_iff_eq.mpr c6
      have c6b1 : (t370 != t371) = false := bne_eq_false_iff_eq.mpr c6
      clear c6
      replace H := Option.bind_eq_some_iff.mp H
      obtain ⟨t372, A70, H⟩ := H
      replace H : (if t372 = true then ((impl_PictureCount.f k t365 t362 100).bind fun t373 => ((impl_PictureCount.f k t362 t365 100).bind fun t374 => (some (t373 == t374)))) else ((laws_alive.f k).bind fun t375 => (some t375))) = some r := H
      have A7 := Aside0.mk A70
      clear A70
      by_cases c8 : t372 = true
      · subst c8
        have H1 : ((impl_PictureCount.f k t365 t362 100).bind fun t373 => ((impl_PictureCount.f k t362 t365 100).bind fun t374 => (some (t373 == t374)))) = some r := by rw [if_pos rfl] at H; exact H
        clear H
        have H := H1
        clear H1
        replace H := Option.bind_eq_some_iff.mp H
        obtain ⟨t373, A90, H⟩ := H
        replace H : ((impl_PictureCount.f k t362 t365 100).bind fun t374 => (some (t373 == t374))) = some r := H
        have A9 := Aside0.mk A90
        clear A90
        replace H := Option.bind_eq_some_iff.mp H
        obtain ⟨t374, A100, H⟩ := H
        replace H : (some (t373 == t374)) = some r := H
        have A10 := Aside0.mk A100
        clear A100
        obtain rfl := Option.some.inj H
        go_enter Try.func9, Try.ntmps9
        try go_wp2_with (first | ((with_reducible refine gate_callee (f := 37) rfl ?_); refine goesL_ (some 11) rfl rfl Try.func37 (by kernel_rfl) rfl #[.slice A0 l0.length c0] rfl (by (try simp only [List.map_toArray, List.map_cons, List.map_nil]); first | done | rfl | (simp only [List.length_drop, List.length_take]; rfl)) ?_; (with_reducible refine (spec_DrawPictureCount.calls k _ _ l0 t362 t365 t368 _ ?side1 ?side2 A3.out).mono ?_); (case side1 => repeat (first | exact HR0.out | (with_reducible refine Kd.C_alloc ?_ _) | (with_reducible refine Kd.C_drewN ?_ _) | (with_reducible refine Kd.C_drew ?_))); (case side2 => exact HC0.out); rintro e w11 ⟨v363, v366, rfl, ho0, ho1, hb⟩; refine ⟨_, rfl, ?_⟩; have n0_ := Aside0.mk (Kd.N_lower (Kd.N_mono (ok' := fun k_ => some k_ ≠ (v366 : Value).ownBlock) ho0 (fun k_ hk_ => hk_.2)) (below_size (by repeat (first | (with_reducible first | exact HB.out | apply below_alloc | apply pw_below_drewN | apply below_drew1) | exact HB.out)))); have n1_ := Aside0.mk (Kd.N_lower (Kd.N_mono (ok' := fun k_ => some k_ ≠ (v363 : Value).ownBlock) ho1 (fun k_ hk_ => hk_.2)) (below_size (by repeat (first | (with_reducible first | exact HB.out | apply below_alloc | apply pw_below_drewN | apply below_drew1) | exact HB.out)))); have n2_ := Aside0.mk (below_step (by repeat (first | (with_reducible first | exact HB.out | apply below_alloc | apply pw_below_drewN | apply below_drew1) | exact HB.out)) hb); clear HB; have HO364 := n0_; have HO367 := n1_; have HB := n2_; clear n0_ n1_ n2_; (try clear hb); (try clear hb2); (try clear hk); (try clear hi); (try clear ho0); (try clear ho1)) | ((with_reducible refine gate_dst (N := 3) rfl ?_); refine box_event ?hg (N := 3) ?hd (cs := #[.slice none 0 0, .slice none 0 0]) (t := 25) ?hr ?_; (case hd => rfl); (case hg => rfl); (case hr => first | (go_simp; done) | (go_simp; rfl)); intro gb369 hg w12 hbox hb; have n0_ := Aside0.mk (Kd.N_below (Kd.N_elderB (by (with_reducible repeat (first | apply Kd.N_alloc | apply Kd.N_drewN | apply Kd.N_drew)); exact HO364.out) gb369 (Nat.le_of_eq hg.symm)) hb); have n1_ := Aside0.mk (Kd.N_below (Kd.N_elderB (by (with_reducible repeat (first | apply Kd.N_alloc | apply Kd.N_drewN | apply Kd.N_drew)); exact HO367.out) gb369 (Nat.le_of_eq hg.symm)) hb); have n2_ := Aside0.mk (below_step (by repeat (first | (with_reducible first | exact HB.out | apply below_alloc | apply pw_below_drewN | apply below_drew1) | exact HB.out)) hb); have n3_ := Aside0.mk (hbox); have n4_ := Aside0.mk ((by rw [hg]; exact (below_size (by repeat (first | (with_reducible first | exact HB.out | apply below_alloc | apply pw_below_drewN | apply below_drew1) | exact HB.out))) : w.heap.size ≤ gb369)); have n5_ := Aside0.mk ((by rw [hg]; exact (below_size (by repeat (first | (with_reducible first | exact HB.out | apply below_alloc | apply pw_below_drewN | apply below_drew1) | exact HB.out))) : w.heap.size ≤ gb369)); clear HO364; clear HO367; clear HB; have HO364 := n0_; have HO367 := n1_; have HB := n2_; have BK369 := n3_; have GW369 := n4_; have GE369 := n5_; clear n0_ n1_ n2_ n3_ n4_ n5_; clear hb hbox hg; obtain ⟨Ao13, co13, eo13⟩ := Kd.N_slice HO364.out; subst eo13; have hcz14_0 : w12.cell? ⟨gb369, 0, none⟩ = some (.slice none 0 0) := (blk_cell BK369.out 0).trans rfl; have hcz14_1 : w12.cell? ⟨gb369, 1, none⟩ = some (.slice none 0 0) := (blk_cell BK369.out 1).trans rfl; have hfz14_0 := blk_frozen BK369.out 0; have hfz14_1 := blk_frozen BK369.out 1; obtain ⟨Ao15, co15, eo15⟩ := Kd.N_slice HO367.out; subst eo15) | ((with_reducible refine gate_callee (f := 18) rfl ?_); refine goesL_ (some 16) rfl rfl Try.func18 (by kernel_rfl) rfl #[.agg #[.slice Ao13 t362.length co13, .slice Ao15 t365.length co15], .int .i64 t368] rfl (by (try simp only [List.map_toArray, List.map_cons, List.map_nil]); first | done | rfl | (simp only [List.length_drop, List.length_take]; rfl)) ?_; (with_reducible refine (impl_PictureCount.calls k _ _ t362 _ _ t365 t368 t370 _ ?side1 ?side2 ?side3 ?side4 A4.out).mono ?_); (case side1 => refine (Kd.N_reads' (e := 36) (base := w.heap.size) (ok := fun k_ => (some k_ ≠ (.slice Ao15 t365.length co15 : Value).ownBlock ∧ k_ ≠ gb369)) (n := t362.length) (c := co13) ?_).2.2; exact (by (with_reducible repeat (first | apply Kd.N_alloc | apply Kd.N_drewN | apply Kd.N_drew)); exact (Kd.N_mono (Kd.N_far (p := ⟨gb369, 1, none⟩) (Kd.N_far (p := ⟨gb369, 0, none⟩) (Kd.N_mono HO364.out (fun k_ hk => (⟨hk, hk.2⟩ : _ ∧ k_ ≠ gb369))) (fun _ hk => hk.2) (.slice Ao13 t362.length co13)) (fun _ hk => hk.2) (.slice Ao15 t365.length co15)) (fun _ h_ => h_.1)))); (case side2 => exact (Kd.N_reads' HO364.out).2.1); (case side3 => refine (Kd.N_reads' (e := 36) (base := w.heap.size) (ok := fun k_ => (some k_ ≠ (.slice Ao13 t362.length co13 : Value).ownBlock ∧ k_ ≠ gb369)) (n := t365.length) (c := co15) ?_).2.2; exact (by (with_reducible repeat (first | apply Kd.N_alloc | apply Kd.N_drewN | apply Kd.N_drew)); exact (Kd.N_mono (Kd.N_far (p := ⟨gb369, 1, none⟩) (Kd.N_far (p := ⟨gb369, 0, none⟩) (Kd.N_mono HO367.out (fun k_ hk => (⟨hk, hk.2⟩ : _ ∧ k_ ≠ gb369))) (fun _ hk => hk.2) (.slice Ao13 t362.length co13)) (fun _ hk => hk.2) (.slice Ao15 t365.length co15)) (fun _ h_ => h_.1)))); (case side4 => exact (Kd.N_reads' HO367.out).2.1); rintro e w16 ⟨rfl, hb⟩; refine ⟨_, rfl, ?_⟩; have n0_ := Aside0.mk (Kd.N_below (by (with_reducible repeat (first | apply Kd.N_alloc | apply Kd.N_drewN | apply Kd.N_drew)); exact (Kd.N_mono (Kd.N_far (p := ⟨gb369, 1, none⟩) (Kd.N_far (p := ⟨gb369, 0, none⟩) (Kd.N_mono HO364.out (fun k_ hk => (⟨hk, hk.2⟩ : _ ∧ k_ ≠ gb369))) (fun _ hk => hk.2) (.slice Ao13 t362.length co13)) (fun _ hk => hk.2) (.slice Ao15 t365.length co15)) (fun _ h_ => h_.1))) hb); have n1_ := Aside0.mk (Kd.N_below (by (with_reducible repeat (first | apply Kd.N_alloc | apply Kd.N_drewN | apply Kd.N_drew)); exact (Kd.N_mono (Kd.N_far (p := ⟨gb369, 1, none⟩) (Kd.N_far (p := ⟨gb369, 0, none⟩) (Kd.N_mono HO367.out (fun k_ hk => (⟨hk, hk.2⟩ : _ ∧ k_ ≠ gb369))) (fun _ hk => hk.2) (.slice Ao13 t362.length co13)) (fun _ hk => hk.2) (.slice Ao15 t365.length co15)) (fun _ h_ => h_.1))) hb); have n2_ := Aside0.mk (blk_below (g := gb369) (o := .cells #[.slice Ao13 t362.length co13, .slice Ao15 t365.length co15] 25 (0, 0)) (by (with_reducible repeat (first | refine blk_drewN ?_ _ | refine blk_drew ?_ | refine blk_alloc ?_ _)); refine blk_put (cs := #[.slice Ao13 t362.length co13, .slice none 0 0]) ?_ 1 _ rfl; (with_reducible repeat (first | refine blk_drewN ?_ _ | refine blk_drew ?_ | refine blk_alloc ?_ _)); refine blk_put (cs := #[.slice none 0 0, .slice none 0 0]) ?_ 0 _ rfl; (with_reducible repeat (first | refine blk_drewN ?_ _ | refine blk_drew ?_ | refine blk_alloc ?_ _)); exact BK369.out) hb); have n3_ := Aside0.mk (below_step (by repeat (first | (with_reducible first | exact HB.out | apply below_alloc | apply pw_below_drewN | apply below_drew1 | refine below_set ?_ GE369.out) | exact HB.out)) hb); clear HO364; clear HO367; clear BK369; clear HB; have HO364 := n0_; have HO367 := n1_; have BK369 := n2_; have HB := n3_; clear n0_ n1_ n2_ n3_; (try clear hb); (try clear hb2); (try clear hk); (try clear hi); have hcz17_0 : w16.cell? ⟨gb369, 0, none⟩ = some (.slice Ao13 t362.length co13) := (blk_cell BK369.out 0).trans rfl; have hcz17_1 : w16.cell? ⟨gb369, 1, none⟩ = some (.slice Ao15 t365.length co15) := (blk_cell BK369.out 1).trans rfl; have hfz17_0 := blk_frozen BK369.out 0; have hfz17_1 := blk_frozen BK369.out 1) | ((with_reducible refine gate_callee (f := 36) rfl ?_); refine goesL_ (some 20) rfl rfl Try.func36 (by kernel_rfl) rfl #[.agg #[.slice Ao13 t362.length co13, .slice Ao15 t365.length co15], .int .i64 t368] rfl (by (try simp only [List.map_toArray, List.map_cons, List.map_nil]); first | done | rfl | (simp only [List.length_drop, List.length_take]; rfl)) ?_; (with_reducible refine (spec_PictureCount.calls k _ _ t362 _ _ t365 t368 t371 _ ?side1 ?side2 ?side3 ?side4 A5.out).mono ?_); (case side1 => repeat (first | exact (Kd.N_reads' HO364.out).2.2 | (with_reducible refine Kd.C_alloc ?_ _) | (with_reducible refine Kd.C_drewN ?_ _) | (with_reducible refine Kd.C_drew ?_))); (case side2 => exact (Kd.N_reads' HO364.out).2.1); (case side3 => repeat (first | exact (Kd.N_reads' HO367.out).2.2 | (with_reducible refine Kd.C_alloc ?_ _) | (with_reducible refine Kd.C_drewN ?_ _) | (with_reducible refine Kd.C_drew ?_))); (case side4 => exact (Kd.N_reads' HO367.out).2.1); rintro e w18 ⟨rfl, hb⟩; refine ⟨_, rfl, ?_⟩; have n0_ := Aside0.mk (Kd.N_below (by (with_reducible repeat (first | apply Kd.N_alloc | apply Kd.N_drewN | apply Kd.N_drew)); exact HO364.out) hb); have n1_ := Aside0.mk (Kd.N_below (by (with_reducible repeat (first | apply Kd.N_alloc | apply Kd.N_drewN | apply Kd.N_drew)); exact HO367.out) hb); have n2_ := Aside0.mk (blk_below (g := gb369) (o := .cells #[.slice Ao13 t362.length co13, .slice Ao15 t365.length co15] 25 (0, 0)) (by (with_reducible repeat (first | refine blk_drewN ?_ _ | refine blk_drew ?_ | refine blk_alloc ?_ _)); exact BK369.out) hb); have n3_ := Aside0.mk (below_step (by repeat (first | (with_reducible first | exact HB.out | apply below_alloc | apply pw_below_drewN | apply below_drew1 | refine below_set ?_ GE369.out) | exact HB.out)) hb); clear HO364; clear HO367; clear BK369; clear HB; have HO364 := n0_; have HO367 := n1_; have BK369 := n2_; have HB := n3_; clear n0_ n1_ n2_ n3_; (try clear hb); (try clear hb2); (try clear hk); (try clear hi); have hcz19_0 : w18.cell? ⟨gb369, 0, none⟩ = some (.slice Ao13 t362.length co13) := (blk_cell BK369.out 0).trans rfl; have hcz19_1 : w18.cell? ⟨gb369, 1, none⟩ = some (.slice Ao15 t365.length co15) := (blk_cell BK369.out 1).trans rfl; have hfz19_0 := blk_frozen BK369.out 0; have hfz19_1 := blk_frozen BK369.out 1) | ((with_reducible refine gate_callee (f := 17) rfl ?_); refine goesL_ (some 23) rfl rfl Try.func17 (by kernel_rfl) rfl #[.agg #[.slice Ao13 t362.length co13, .slice Ao15 t365.length co15]] rfl (by (try simp only [List.map_toArray, List.map_cons, List.map_nil]); first | done | rfl | (simp only [List.length_drop, List.length_take]; rfl)) ?_; (with_reducible refine (spec_PictureValid.calls k _ _ t362 _ _ t365 true _ ?side1 ?side2 ?side3 ?side4 A7.out).mono ?_); (case side1 => repeat (first | exact (Kd.N_reads' HO364.out).2.2 | (with_reducible refine Kd.C_alloc ?_ _) | (with_reducible refine Kd.C_drewN ?_ _) | (with_reducible refine Kd.C_drew ?_))); (case side2 => exact (Kd.N_reads' HO364.out).2.1); (case side3 => repeat (first | exact (Kd.N_reads' HO367.out).2.2 | (with_reducible refine Kd.C_alloc ?_ _) | (with_reducible refine Kd.C_drewN ?_ _) | (with_reducible refine Kd.C_drew ?_))); (case side4 => exact (Kd.N_reads' HO367.out).2.1); rintro e w20 ⟨rfl, hb⟩; refine ⟨_, rfl, ?_⟩; have n0_ := Aside0.mk (Kd.N_below (by (with_reducible repeat (first | apply Kd.N_alloc | apply Kd.N_drewN | apply Kd.N_drew)); exact HO364.out) hb); have n1_ := Aside0.mk (Kd.N_below (by (with_reducible repeat (first | apply Kd.N_alloc | apply Kd.N_drewN | apply Kd.N_drew)); exact HO367.out) hb); have n2_ := Aside0.mk (blk_below (g := gb369) (o := .cells #[.slice Ao13 t362.length co13, .slice Ao15 t365.length co15] 25 (0, 0)) (by (with_reducible repeat (first | refine blk_drewN ?_ _ | refine blk_drew ?_ | refine blk_alloc ?_ _)); exact BK369.out) hb); have n3_ := Aside0.mk (below_step (by repeat (first | (with_reducible first | exact HB.out | apply below_alloc | apply pw_below_drewN | apply below_drew1 | refine below_set ?_ GE369.out) | exact HB.out)) hb); clear HO364; clear HO367; clear BK369; clear HB; have HO364 := n0_; have HO367 := n1_; have BK369 := n2_; have HB := n3_; clear n0_ n1_ n2_ n3_; (try clear hb); (try clear hb2); (try clear hk); (try clear hi)))
        have n0_ := Aside0.mk (Kd.N_drew HO364.out)
        have n1_ := Aside0.mk (Kd.N_drew HO367.out)
        have n2_ := Aside0.mk (blk_drew BK369.out)
        have n3_ := Aside0.mk (below_drew1 HB.out)
        clear HO364
        clear HO367
        clear BK369
        clear HB
        have HO364 := n0_
        have HO367 := n1_
        have BK369 := n2_
        have HB := n3_
        clear n0_ n1_ n2_ n3_
        refine start_ (n := 10) (S := fun w' => w'.cell? ⟨gb369, 0, none⟩ = some (.slice Ao13 t362.length co13) ∧ w'.cell? ⟨gb369, 1, none⟩ = some (.slice Ao15 t365.length co15)) (ds := []) #[false, false, false, false, false, false, false, false, false, false] (by kernel_rfl) rfl rfl ⟨(blk_cell BK369.out 0).trans rfl, (blk_cell BK369.out 1).trans rfl⟩ (fun hHeld => ?_); refine with_tabW laws_FnPictureTurned.tab9 laws_FnPictureTurned.bits9 (fun HT_ HW_ => ?_)
        generalize w20.drew = w21 at HO364 HO367 BK369 HB hHeld ⊢
        refine pure_ (i := 0) (N := some 26) (v := ?_) (a' := ?_) #[true, false, false, false, false, false, false, false, false, false] rfl rfl (any_of HT_.out (by kernel_rfl)) (fun _ _ _ h => h) (Or.inl ⟨by rfl, ?_⟩) ?_ ?_
        rotate_left
        · intro w'
          go_simp
          with_reducible rfl
        rotate_left
        · simp only [Act.put, List.setIfInBounds_toArray, List.set_cons_zero, List.set_cons_succ, i64_w, i32_w]
          rfl
        refine pure_ (i := 2) (N := some 28) (v := ?_) (a' := ?_) #[true, false, true, false, false, false, false, false, false, false] rfl rfl (any_of HT_.out (by kernel_rfl)) (fun _ _ _ h => h) (Or.inl ⟨by rfl, ?_⟩) ?_ ?_
        rotate_left
        · intro w'
          go_simp
          with_reducible rfl
        rotate_left
        · simp only [Act.put, List.setIfInBounds_toArray, List.set_cons_zero, List.set_cons_succ, i64_w, i32_w]
          rfl
        refine take_ (i := 1) (N := some 27) (v := ?_) (a' := ?_) #[true, true, true, false, false, false, false, false, false, false] rfl rfl (take_ofW HT_.out HW_.out (by kernel_rfl)) (fun _ _ _ h => h) (Or.inl ⟨by rfl, ?_⟩) hHeld ?_ ?_
        rotate_left
        · rintro w' ⟨s0, s1⟩
          go_simp
          with_reducible rfl
        rotate_left
        · simp only [Act.put, List.setIfInBounds_toArray, List.set_cons_zero, List.set_cons_succ, i64_w, i32_w]
          rfl
        refine take_ (i := 3) (N := some 29) (v := ?_) (a' := ?_) #[true, true, true, true, false, false, false, false, false, false] rfl rfl (take_ofW HT_.out HW_.out (by kernel_rfl)) (fun _ _ _ h => h) (Or.inl ⟨by rfl, ?_⟩) hHeld ?_ ?_
        rotate_left
        · rintro w' ⟨s0, s1⟩
          go_simp
          with_reducible rfl
        rotate_left
        · simp only [Act.put, List.setIfInBounds_toArray, List.set_cons_zero, List.set_cons_succ, i64_w, i32_w]
          rfl
        refine pure_ (i := 4) (N := some 30) (v := ?_) (a' := ?_) #[true, true, true, true, true, false, false, false, false, false] rfl rfl (any_of HT_.out (by kernel_rfl)) (fun _ _ _ h => h) (Or.inl ⟨by rfl, ?_⟩) ?_ ?_
        rotate_left
        · intro w'
          go_simp
          with_reducible rfl
        rotate_left
        · simp only [Act.put, List.setIfInBounds_toArray, List.set_cons_zero, List.set_cons_succ, i64_w, i32_w]
          rfl
        refine take_ (i := 6) (N := some 32) (v := ?_) (a' := ?_) #[true, true, true, true, true, false, true, false, false, false] rfl rfl (take_ofW HT_.out HW_.out (by kernel_rfl)) (fun _ _ _ h => h) (Or.inl ⟨by rfl, ?_⟩) hHeld ?_ ?_
        rotate_left
        · rintro w' ⟨s0, s1⟩
          go_simp
          with_reducible rfl
        rotate_left
        · simp only [Act.put, List.setIfInBounds_toArray, List.set_cons_zero, List.set_cons_succ, i64_w, i32_w]
          rfl
        refine one_ (i := 5) (N := some 31) #[true, true, true, true, true, true, true, false, false, false] rfl rfl (one_of HT_.out (by kernel_rfl)) (by decide) (fun K hK => ?_)
        refine goes_ Try.func18 (by kernel_rfl) rfl #[.agg #[.slice Ao15 t365.length co15, .slice Ao13 t362.length co13], .int .i64 100] (by rfl) rfl rfl (by (try simp only [List.map_toArray, List.map_cons, List.map_nil]); first | done | rfl | (simp only [List.length_drop, List.length_take]; rfl)) ?_
        with_reducible refine (impl_PictureCount.calls k _ _ t365 _ _ t362 100 t373 _ ?side1 ?side2 ?side3 ?side4 A9.out).mono ?_
        (case side1 => repeat (first | exact (Kd.N_reads' HO367.out).2.2 | (with_reducible refine Kd.C_alloc ?_ _) | (with_reducible refine Kd.C_drewN ?_ _) | (with_reducible refine Kd.C_drew ?_)))
        (case side2 => exact (Kd.N_reads' HO367.out).2.1)
        (case side3 => repeat (first | exact (Kd.N_reads' HO364.out).2.2 | (with_reducible refine Kd.C_alloc ?_ _) | (with_reducible refine Kd.C_drewN ?_ _) | (with_reducible refine Kd.C_drew ?_)))
        (case side4 => exact (Kd.N_reads' HO364.out).2.1)
        rintro e w22 ⟨rfl, hb⟩
        refine ⟨_, rfl, ?_⟩
        have n0_ := Aside0.mk (Kd.N_below (by (with_reducible repeat (first | apply Kd.N_alloc | apply Kd.N_drewN | apply Kd.N_drew)); exact HO364.out) hb)
        have n1_ := Aside0.mk (Kd.N_below (by (with_reducible repeat (first | apply Kd.N_alloc | apply Kd.N_drewN | apply Kd.N_drew)); exact HO367.out) hb)
        have n2_ := Aside0.mk (blk_below (g := gb369) (o := .cells #[.slice Ao13 t362.length co13, .slice Ao15 t365.length co15] 25 (0, 0)) (by (with_reducible repeat (first | refine blk_drewN ?_ _ | refine blk_drew ?_ | refine blk_alloc ?_ _)); exact BK369.out) hb)
        have n3_ := Aside0.mk (below_step (by repeat (first | (with_reducible first | exact HB.out | apply below_alloc | apply pw_below_drewN | apply below_drew1 | refine below_set ?_ GE369.out) | exact HB.out)) hb)
        clear HO364
        clear HO367
        clear BK369
        clear HB
        have HO364 := n0_
        have HO367 := n1_
        have BK369 := n2_
        have HB := n3_
        clear n0_ n1_ n2_ n3_
        (try clear hb)
        (try clear hb2)
        (try clear hk)
        (try clear hi)
        refine hK.out _ _ ⟨(blk_cell BK369.out 0).trans rfl, (blk_cell BK369.out 1).trans rfl⟩ (fun hHeld => ?_)
        clear hK K
        refine norm_ (a' := ?_) ?_ ?_
        rotate_left
        · show Act.put _ (some 31) _ = _
          simp only [Act.put, List.setIfInBounds_toArray, List.set_cons_zero, List.set_cons_succ, i64_w, i32_w]
          rfl
        refine one_ (i := 7) (N := some 33) #[true, true, true, true, true, true, true, true, false, false] rfl rfl (one_of HT_.out (by kernel_rfl)) (by decide) (fun K hK => ?_)
        refine goes_ Try.func18 (by kernel_rfl) rfl #[.agg #[.slice Ao13 t362.length co13, .slice Ao15 t365.length co15], .int .i64 100] (by rfl) rfl rfl (by (try simp only [List.map_toArray, List.map_cons, List.map_nil]); first | done | rfl | (simp only [List.length_drop, List.length_take]; rfl)) ?_
        with_reducible refine (impl_PictureCount.calls k _ _ t362 _ _ t365 100 t374 _ ?side1 ?side2 ?side3 ?side4 A10.out).mono ?_
        (case side1 => repeat (first | exact (Kd.N_reads' HO364.out).2.2 | (with_reducible refine Kd.C_alloc ?_ _) | (with_reducible refine Kd.C_drewN ?_ _) | (with_reducible refine Kd.C_drew ?_)))
        (case side2 => exact (Kd.N_reads' HO364.out).2.1)
        (case side3 => repeat (first | exact (Kd.N_reads' HO367.out).2.2 | (with_reducible refine Kd.C_alloc ?_ _) | (with_reducible refine Kd.C_drewN ?_ _) | (with_reducible refine Kd.C_drew ?_)))
        (case side4 => exact (Kd.N_reads' HO367.out).2.1)
        rintro e w23 ⟨rfl, hb⟩
        refine ⟨_, rfl, ?_⟩
        have n0_ := Aside0.mk (Kd.N_below (by (with_reducible repeat (first | apply Kd.N_alloc | apply Kd.N_drewN | apply Kd.N_drew)); exact HO364.out) hb)
        have n1_ := Aside0.mk (Kd.N_below (by (with_reducible repeat (first | apply Kd.N_alloc | apply Kd.N_drewN | apply Kd.N_drew)); exact HO367.out) hb)
        have n2_ := Aside0.mk (blk_below (g := gb369) (o := .cells #[.slice Ao13 t362.length co13, .slice Ao15 t365.length co15] 25 (0, 0)) (by (with_reducible repeat (first | refine blk_drewN ?_ _ | refine blk_drew ?_ | refine blk_alloc ?_ _)); exact BK369.out) hb)
        have n3_ := Aside0.mk (below_step (by repeat (first | (with_reducible first | exact HB.out | apply below_alloc | apply pw_below_drewN | apply below_drew1 | refine below_set ?_ GE369.out) | exact HB.out)) hb)
        clear HO364
        clear HO367
        clear BK369
        clear HB
        have HO364 := n0_
        have HO367 := n1_
        have BK369 := n2_
        have HB := n3_
        clear n0_ n1_ n2_ n3_
        (try clear hb)
        (try clear hb2)
        (try clear hk)
        (try clear hi)
        refine hK.out _ _ ⟨(blk_cell BK369.out 0).trans rfl, (blk_cell BK369.out 1).trans rfl⟩ (fun hHeld => ?_)
        clear hK K
        refine norm_ (a' := ?_) ?_ ?_
        rotate_left
        · show Act.put _ (some 33) _ = _
          simp only [Act.put, List.setIfInBounds_toArray, List.set_cons_zero, List.set_cons_succ, i64_w, i32_w]
          rfl
        refine pure_ (i := 8) (N := some 34) (v := ?_) (a' := ?_) #[true, true, true, true, true, true, true, true, true, false] rfl rfl (any_of HT_.out (by kernel_rfl)) (fun _ _ _ h => h) (Or.inl ⟨by rfl, ?_⟩) ?_ ?_
        rotate_left
        · intro w'
          go_simp
          with_reducible rfl
        rotate_left
        · simp only [Act.put, List.setIfInBounds_toArray, List.set_cons_zero, List.set_cons_succ, i64_w, i32_w]
          rfl
        refine pure_ (i := 9) (N := some 2) (v := ?_) (a' := ?_) #[true, true, true, true, true, true, true, true, true, true] rfl rfl (any_of HT_.out (by kernel_rfl)) (fun _ _ _ h => h) (Or.inl ⟨by rfl, ?_⟩) ?_ ?_
        rotate_left
        · intro w'
          go_simp
          with_reducible rfl
        rotate_left
        · simp only [Act.put, List.setIfInBounds_toArray, List.set_cons_zero, List.set_cons_succ, i64_w, i32_w]
          rfl
        refine done_ (done_of HT_.out (by kernel_rfl)) ?_
        try go_wp2
        go_ret
        exact ⟨by first | rfl | (simp [errW_none, errW_some] <;> rfl) | (simp [*, errW_none, errW_some] <;> rfl), by repeat (first | (with_reducible first | exact HB.out | apply below_alloc | apply pw_below_drewN | apply below_drew1 | refine below_set ?_ GE369.out) | exact HB.out)⟩
      · replace c8 := Bool.eq_false_iff.mpr c8
        subst c8
        have H1 : ((laws_alive.f k).bind fun t375 => (some t375)) = some r := by rw [if_neg (show ¬ (false = true) by decide)] at H; exact H
        clear H
        have H := H1
        clear H1
        replace H := Option.bind_eq_some_iff.mp H
        obtain ⟨t375, A240, H⟩ := H
        replace H : (some t375) = some r := H
        have A24 := Aside0.mk A240
        clear A240
        obtain rfl := Option.some.inj H
        go_enter Try.func9, Try.ntmps9
        go_wp2_with (first | ((with_reducible refine gate_callee (f := 37) rfl ?_); refine goesL_ (some 11) rfl rfl Try.func37 (by kernel_rfl) rfl #[.slice A0 l0.length c0] rfl (by (try simp only [List.map_toArray, List.map_cons, List.map_nil]); first | done | rfl | (simp only [List.length_drop, List.length_take]; rfl)) ?_; (with_reducible refine (spec_DrawPictureCount.calls k _ _ l0 t362 t365 t368 _ ?side1 ?side2 A3.out).mono ?_); (case side1 => repeat (first | exact HR0.out | (with_reducible refine Kd.C_alloc ?_ _) | (with_reducible refine Kd.C_drewN ?_ _) | (with_reducible refine Kd.C_drew ?_))); (case side2 => exact HC0.out); rintro e w25 ⟨v363, v366, rfl, ho0, ho1, hb⟩; refine ⟨_, rfl, ?_⟩; have n0_ := Aside0.mk (Kd.N_lower (Kd.N_mono (ok' := fun k_ => some k_ ≠ (v366 : Value).ownBlock) ho0 (fun k_ hk_ => hk_.2)) (below_size (by repeat (first | (with_reducible first | exact HB.out | apply below_alloc | apply pw_below_drewN | apply below_drew1) | exact HB.out)))); have n1_ := Aside0.mk (Kd.N_lower (Kd.N_mono (ok' := fun k_ => some k_ ≠ (v363 : Value).ownBlock) ho1 (fun k_ hk_ => hk_.2)) (below_size (by repeat (first | (with_reducible first | exact HB.out | apply below_alloc | apply pw_below_drewN | apply below_drew1) | exact HB.out)))); have n2_ := Aside0.mk (below_step (by repeat (first | (with_reducible first | exact HB.out | apply below_alloc | apply pw_below_drewN | apply below_drew1) | exact HB.out)) hb); clear HB; have HO364 := n0_; have HO367 := n1_; have HB := n2_; clear n0_ n1_ n2_; (try clear hb); (try clear hb2); (try clear hk); (try clear hi); (try clear ho0); (try clear ho1)) | ((with_reducible refine gate_dst (N := 3) rfl ?_); refine box_event ?hg (N := 3) ?hd (cs := #[.slice none 0 0, .slice none 0 0]) (t := 25) ?hr ?_; (case hd => rfl); (case hg => rfl); (case hr => first | (go_simp; done) | (go_simp; rfl)); intro gb369 hg w26 hbox hb; have n0_ := Aside0.mk (Kd.N_below (Kd.N_elderB (by (with_reducible repeat (first | apply Kd.N_alloc | apply Kd.N_drewN | apply Kd.N_drew)); exact HO364.out) gb369 (Nat.le_of_eq hg.symm)) hb); have n1_ := Aside0.mk (Kd.N_below (Kd.N_elderB (by (with_reducible repeat (first | apply Kd.N_alloc | apply Kd.N_drewN | apply Kd.N_drew)); exact HO367.out) gb369 (Nat.le_of_eq hg.symm)) hb); have n2_ := Aside0.mk (below_step (by repeat (first | (with_reducible first | exact HB.out | apply below_alloc | apply pw_below_drewN | apply below_drew1) | exact HB.out)) hb); have n3_ := Aside0.mk (hbox); have n4_ := Aside0.mk ((by rw [hg]; exact (below_size (by repeat (first | (with_reducible first | exact HB.out | apply below_alloc | apply pw_below_drewN | apply below_drew1) | exact HB.out))) : w.heap.size ≤ gb369)); have n5_ := Aside0.mk ((by rw [hg]; exact (below_size (by repeat (first | (with_reducible first | exact HB.out | apply below_alloc | apply pw_below_drewN | apply below_drew1) | exact HB.out))) : w.heap.size ≤ gb369)); clear HO364; clear HO367; clear HB; have HO364 := n0_; have HO367 := n1_; have HB := n2_; have BK369 := n3_; have GW369 := n4_; have GE369 := n5_; clear n0_ n1_ n2_ n3_ n4_ n5_; clear hb hbox hg; obtain ⟨Ao27, co27, eo27⟩ := Kd.N_slice HO364.out; subst eo27; have hcz28_0 : w26.cell? ⟨gb369, 0, none⟩ = some (.slice none 0 0) := (blk_cell BK369.out 0).trans rfl; have hcz28_1 : w26.cell? ⟨gb369, 1, none⟩ = some (.slice none 0 0) := (blk_cell BK369.out 1).trans rfl; have hfz28_0 := blk_frozen BK369.out 0; have hfz28_1 := blk_frozen BK369.out 1; obtain ⟨Ao29, co29, eo29⟩ := Kd.N_slice HO367.out; subst eo29) | ((with_reducible refine gate_callee (f := 18) rfl ?_); refine goesL_ (some 16) rfl rfl Try.func18 (by kernel_rfl) rfl #[.agg #[.slice Ao27 t362.length co27, .slice Ao29 t365.length co29], .int .i64 t368] rfl (by (try simp only [List.map_toArray, List.map_cons, List.map_nil]); first | done | rfl | (simp only [List.length_drop, List.length_take]; rfl)) ?_; (with_reducible refine (impl_PictureCount.calls k _ _ t362 _ _ t365 t368 t370 _ ?side1 ?side2 ?side3 ?side4 A4.out).mono ?_); (case side1 => refine (Kd.N_reads' (e := 36) (base := w.heap.size) (ok := fun k_ => (some k_ ≠ (.slice Ao29 t365.length co29 : Value).ownBlock ∧ k_ ≠ gb369)) (n := t362.length) (c := co27) ?_).2.2; exact (by (with_reducible repeat (first | apply Kd.N_alloc | apply Kd.N_drewN | apply Kd.N_drew)); exact (Kd.N_mono (Kd.N_far (p := ⟨gb369, 1, none⟩) (Kd.N_far (p := ⟨gb369, 0, none⟩) (Kd.N_mono HO364.out (fun k_ hk => (⟨hk, hk.2⟩ : _ ∧ k_ ≠ gb369))) (fun _ hk => hk.2) (.slice Ao27 t362.length co27)) (fun _ hk => hk.2) (.slice Ao29 t365.length co29)) (fun _ h_ => h_.1)))); (case side2 => exact (Kd.N_reads' HO364.out).2.1); (case side3 => refine (Kd.N_reads' (e := 36) (base := w.heap.size) (ok := fun k_ => (some k_ ≠ (.slice Ao27 t362.length co27 : Value).ownBlock ∧ k_ ≠ gb369)) (n := t365.length) (c := co29) ?_).2.2; exact (by (with_reducible repeat (first | apply Kd.N_alloc | apply Kd.N_drewN | apply Kd.N_drew)); exact (Kd.N_mono (Kd.N_far (p := ⟨gb369, 1, none⟩) (Kd.N_far (p := ⟨gb369, 0, none⟩) (Kd.N_mono HO367.out (fun k_ hk => (⟨hk, hk.2⟩ : _ ∧ k_ ≠ gb369))) (fun _ hk => hk.2) (.slice Ao27 t362.length co27)) (fun _ hk => hk.2) (.slice Ao29 t365.length co29)) (fun _ h_ => h_.1)))); (case side4 => exact (Kd.N_reads' HO367.out).2.1); rintro e w30 ⟨rfl, hb⟩; refine ⟨_, rfl, ?_⟩; have n0_ := Aside0.mk (Kd.N_below (by (with_reducible repeat (first | apply Kd.N_alloc | apply Kd.N_drewN | apply Kd.N_drew)); exact (Kd.N_mono (Kd.N_far (p := ⟨gb369, 1, none⟩) (Kd.N_far (p := ⟨gb369, 0, none⟩) (Kd.N_mono HO364.out (fun k_ hk => (⟨hk, hk.2⟩ : _ ∧ k_ ≠ gb369))) (fun _ hk => hk.2) (.slice Ao27 t362.length co27)) (fun _ hk => hk.2) (.slice Ao29 t365.length co29)) (fun _ h_ => h_.1))) hb); have n1_ := Aside0.mk (Kd.N_below (by (with_reducible repeat (first | apply Kd.N_alloc | apply Kd.N_drewN | apply Kd.N_drew)); exact (Kd.N_mono (Kd.N_far (p := ⟨gb369, 1, none⟩) (Kd.N_far (p := ⟨gb369, 0, none⟩) (Kd.N_mono HO367.out (fun k_ hk => (⟨hk, hk.2⟩ : _ ∧ k_ ≠ gb369))) (fun _ hk => hk.2) (.slice Ao27 t362.length co27)) (fun _ hk => hk.2) (.slice Ao29 t365.length co29)) (fun _ h_ => h_.1))) hb); have n2_ := Aside0.mk (blk_below (g := gb369) (o := .cells #[.slice Ao27 t362.length co27, .slice Ao29 t365.length co29] 25 (0, 0)) (by (with_reducible repeat (first | refine blk_drewN ?_ _ | refine blk_drew ?_ | refine blk_alloc ?_ _)); refine blk_put (cs := #[.slice Ao27 t362.length co27, .slice none 0 0]) ?_ 1 _ rfl; (with_reducible repeat (first | refine blk_drewN ?_ _ | refine blk_drew ?_ | refine blk_alloc ?_ _)); refine blk_put (cs := #[.slice none 0 0, .slice none 0 0]) ?_ 0 _ rfl; (with_reducible repeat (first | refine blk_drewN ?_ _ | refine blk_drew ?_ | refine blk_alloc ?_ _)); exact BK369.out) hb); have n3_ := Aside0.mk (below_step (by repeat (first | (with_reducible first | exact HB.out | apply below_alloc | apply pw_below_drewN | apply below_drew1 | refine below_set ?_ GE369.out) | exact HB.out)) hb); clear HO364; clear HO367; clear BK369; clear HB; have HO364 := n0_; have HO367 := n1_; have BK369 := n2_; have HB := n3_; clear n0_ n1_ n2_ n3_; (try clear hb); (try clear hb2); (try clear hk); (try clear hi); have hcz31_0 : w30.cell? ⟨gb369, 0, none⟩ = some (.slice Ao27 t362.length co27) := (blk_cell BK369.out 0).trans rfl; have hcz31_1 : w30.cell? ⟨gb369, 1, none⟩ = some (.slice Ao29 t365.length co29) := (blk_cell BK369.out 1).trans rfl; have hfz31_0 := blk_frozen BK369.out 0; have hfz31_1 := blk_frozen BK369.out 1) | ((with_reducible refine gate_callee (f := 36) rfl ?_); refine goesL_ (some 20) rfl rfl Try.func36 (by kernel_rfl) rfl #[.agg #[.slice Ao27 t362.length co27, .slice Ao29 t365.length co29], .int .i64 t368] rfl (by (try simp only [List.map_toArray, List.map_cons, List.map_nil]); first | done | rfl | (simp only [List.length_drop, List.length_take]; rfl)) ?_; (with_reducible refine (spec_PictureCount.calls k _ _ t362 _ _ t365 t368 t371 _ ?side1 ?side2 ?side3 ?side4 A5.out).mono ?_); (case side1 => repeat (first | exact (Kd.N_reads' HO364.out).2.2 | (with_reducible refine Kd.C_alloc ?_ _) | (with_reducible refine Kd.C_drewN ?_ _) | (with_reducible refine Kd.C_drew ?_))); (case side2 => exact (Kd.N_reads' HO364.out).2.1); (case side3 => repeat (first | exact (Kd.N_reads' HO367.out).2.2 | (with_reducible refine Kd.C_alloc ?_ _) | (with_reducible refine Kd.C_drewN ?_ _) | (with_reducible refine Kd.C_drew ?_))); (case side4 => exact (Kd.N_reads' HO367.out).2.1); rintro e w32 ⟨rfl, hb⟩; refine ⟨_, rfl, ?_⟩; have n0_ := Aside0.mk (Kd.N_below (by (with_reducible repeat (first | apply Kd.N_alloc | apply Kd.N_drewN | apply Kd.N_drew)); exact HO364.out) hb); have n1_ := Aside0.mk (Kd.N_below (by (with_reducible repeat (first | apply Kd.N_alloc | apply Kd.N_drewN | apply Kd.N_drew)); exact HO367.out) hb); have n2_ := Aside0.mk (blk_below (g := gb369) (o := .cells #[.slice Ao27 t362.length co27, .slice Ao29 t365.length co29] 25 (0, 0)) (by (with_reducible repeat (first | refine blk_drewN ?_ _ | refine blk_drew ?_ | refine blk_alloc ?_ _)); exact BK369.out) hb); have n3_ := Aside0.mk (below_step (by repeat (first | (with_reducible first | exact HB.out | apply below_alloc | apply pw_below_drewN | apply below_drew1 | refine below_set ?_ GE369.out) | exact HB.out)) hb); clear HO364; clear HO367; clear BK369; clear HB; have HO364 := n0_; have HO367 := n1_; have BK369 := n2_; have HB := n3_; clear n0_ n1_ n2_ n3_; (try clear hb); (try clear hb2); (try clear hk); (try clear hi); have hcz33_0 : w32.cell? ⟨gb369, 0, none⟩ = some (.slice Ao27 t362.length co27) := (blk_cell BK369.out 0).trans rfl; have hcz33_1 : w32.cell? ⟨gb369, 1, none⟩ = some (.slice Ao29 t365.length co29) := (blk_cell BK369.out 1).trans rfl; have hfz33_0 := blk_frozen BK369.out 0; have hfz33_1 := blk_frozen BK369.out 1) | ((with_reducible refine gate_callee (f := 17) rfl ?_); refine goesL_ (some 23) rfl rfl Try.func17 (by kernel_rfl) rfl #[.agg #[.slice Ao27 t362.length co27, .slice Ao29 t365.length co29]] rfl (by (try simp only [List.map_toArray, List.map_cons, List.map_nil]); first | done | rfl | (simp only [List.length_drop, List.length_take]; rfl)) ?_; (with_reducible refine (spec_PictureValid.calls k _ _ t362 _ _ t365 false _ ?side1 ?side2 ?side3 ?side4 A7.out).mono ?_); (case side1 => repeat (first | exact (Kd.N_reads' HO364.out).2.2 | (with_reducible refine Kd.C_alloc ?_ _) | (with_reducible refine Kd.C_drewN ?_ _) | (with_reducible refine Kd.C_drew ?_))); (case side2 => exact (Kd.N_reads' HO364.out).2.1); (case side3 => repeat (first | exact (Kd.N_reads' HO367.out).2.2 | (with_reducible refine Kd.C_alloc ?_ _) | (with_reducible refine Kd.C_drewN ?_ _) | (with_reducible refine Kd.C_drew ?_))); (case side4 => exact (Kd.N_reads' HO367.out).2.1); rintro e w34 ⟨rfl, hb⟩; refine ⟨_, rfl, ?_⟩; have n0_ := Aside0.mk (Kd.N_below (by (with_reducible repeat (first | apply Kd.N_alloc | apply Kd.N_drewN | apply Kd.N_drew)); exact HO364.out) hb); have n1_ := Aside0.mk (Kd.N_below (by (with_reducible repeat (first | apply Kd.N_alloc | apply Kd.N_drewN | apply Kd.N_drew)); exact HO367.out) hb); have n2_ := Aside0.mk (blk_below (g := gb369) (o := .cells #[.slice Ao27 t362.length co27, .slice Ao29 t365.length co29] 25 (0, 0)) (by (with_reducible repeat (first | refine blk_drewN ?_ _ | refine blk_drew ?_ | refine blk_alloc ?_ _)); exact BK369.out) hb); have n3_ := Aside0.mk (below_step (by repeat (first | (with_reducible first | exact HB.out | apply below_alloc | apply pw_below_drewN | apply below_drew1 | refine below_set ?_ GE369.out) | exact HB.out)) hb); clear HO364; clear HO367; clear BK369; clear HB; have HO364 := n0_; have HO367 := n1_; have BK369 := n2_; have HB := n3_; clear n0_ n1_ n2_ n3_; (try clear hb); (try clear hb2); (try clear hk); (try clear hi)) | ((with_reducible refine gate_callee (f := 19) rfl ?_); refine goesL_ (some 25) rfl rfl Try.func19 (by kernel_rfl) rfl #[] rfl (by (try simp only [List.map_toArray, List.map_cons, List.map_nil]); first | done | rfl | (simp only [List.length_drop, List.length_take]; rfl)) ?_; (with_reducible refine (laws_alive.calls k  t375 _ A24.out).mono ?_); rintro e w35 ⟨rfl, hb⟩; refine ⟨_, rfl, ?_⟩; have n0_ := Aside0.mk (Kd.N_below (by (with_reducible repeat (first | apply Kd.N_alloc | apply Kd.N_drewN | apply Kd.N_drew)); exact HO364.out) hb); have n1_ := Aside0.mk (Kd.N_below (by (with_reducible repeat (first | apply Kd.N_alloc | apply Kd.N_drewN | apply Kd.N_drew)); exact HO367.out) hb); have n2_ := Aside0.mk (blk_below (g := gb369) (o := .cells #[.slice Ao27 t362.length co27, .slice Ao29 t365.length co29] 25 (0, 0)) (by (with_reducible repeat (first | refine blk_drewN ?_ _ | refine blk_drew ?_ | refine blk_alloc ?_ _)); exact BK369.out) hb); have n3_ := Aside0.mk (below_step (by repeat (first | (with_reducible first | exact HB.out | apply below_alloc | apply pw_below_drewN | apply below_drew1 | refine below_set ?_ GE369.out) | exact HB.out)) hb); clear HO364; clear HO367; clear BK369; clear HB; have HO364 := n0_; have HO367 := n1_; have BK369 := n2_; have HB := n3_; clear n0_ n1_ n2_ n3_; (try clear hb); (try clear hb2); (try clear hk); (try clear hi)))
        go_ret
        exact ⟨by first | rfl | (simp [errW_none, errW_some] <;> rfl) | (simp [*, errW_none, errW_some] <;> rfl), by repeat (first | (with_reducible first | exact HB.out | apply below_alloc | apply pw_below_drewN | apply below_drew1 | refine below_set ?_ GE369.out) | exact HB.out)⟩
    · rw [if_neg c6] at H
      have c6b0 : (t370 == t371) = false := beq_eq_false_iff_ne.mpr c6
      have c6b1 : (t370 != t371) = true := bne_iff_ne.mpr c6
      obtain rfl := Option.some.inj H
      go_enter Try.func9, Try.ntmps9
      go_wp2_with (first | ((with_reducible refine gate_callee (f := 37) rfl ?_); refine goesL_ (some 11) rfl rfl Try.func37 (by kernel_rfl) rfl #[.slice A0 l0.length c0] rfl (by (try simp only [List.map_toArray, List.map_cons, List.map_nil]); first | done | rfl | (simp only [List.length_drop, List.length_take]; rfl)) ?_; (with_reducible refine (spec_DrawPictureCount.calls k _ _ l0 t362 t365 t368 _ ?side1 ?side2 A3.out).mono ?_); (case side1 => repeat (first | exact HR0.out | (with_reducible refine Kd.C_alloc ?_ _) | (with_reducible refine Kd.C_drewN ?_ _) | (with_reducible refine Kd.C_drew ?_))); (case side2 => exact HC0.out); rintro e w36 ⟨v363, v366, rfl, ho0, ho1, hb⟩; refine ⟨_, rfl, ?_⟩; have n0_ := Aside0.mk (Kd.N_lower (Kd.N_mono (ok' := fun k_ => some k_ ≠ (v366 : Value).ownBlock) ho0 (fun k_ hk_ => hk_.2)) (below_size (by repeat (first | (with_reducible first | exact HB.out | apply below_alloc | apply pw_below_drewN | apply below_drew1) | exact HB.out)))); have n1_ := Aside0.mk (Kd.N_lower (Kd.N_mono (ok' := fun k_ => some k_ ≠ (v363 : Value).ownBlock) ho1 (fun k_ hk_ => hk_.2)) (below_size (by repeat (first | (with_reducible first | exact HB.out | apply below_alloc | apply pw_below_drewN | apply below_drew1) | exact HB.out)))); have n2_ := Aside0.mk (below_step (by repeat (first | (with_reducible first | exact HB.out | apply below_alloc | apply pw_below_drewN | apply below_drew1) | exact HB.out)) hb); clear HB; have HO364 := n0_; have HO367 := n1_; have HB := n2_; clear n0_ n1_ n2_; (try clear hb); (try clear hb2); (try clear hk); (try clear hi); (try clear ho0); (try clear ho1)) | ((with_reducible refine gate_dst (N := 3) rfl ?_); refine box_event ?hg (N := 3) ?hd (cs := #[.slice none 0 0, .slice none 0 0]) (t := 25) ?hr ?_; (case hd => rfl); (case hg => rfl); (case hr => first | (go_simp; done) | (go_simp; rfl)); intro gb369 hg w37 hbox hb; have n0_ := Aside0.mk (Kd.N_below (Kd.N_elderB (by (with_reducible repeat (first | apply Kd.N_alloc | apply Kd.N_drewN | apply Kd.N_drew)); exact HO364.out) gb369 (Nat.le_of_eq hg.symm)) hb); have n1_ := Aside0.mk (Kd.N_below (Kd.N_elderB (by (with_reducible repeat (first | apply Kd.N_alloc | apply Kd.N_drewN | apply Kd.N_drew)); exact HO367.out) gb369 (Nat.le_of_eq hg.symm)) hb); have n2_ := Aside0.mk (below_step (by repeat (first | (with_reducible first | exact HB.out | apply below_alloc | apply pw_below_drewN | apply below_drew1) | exact HB.out)) hb); have n3_ := Aside0.mk (hbox); have n4_ := Aside0.mk ((by rw [hg]; exact (below_size (by repeat (first | (with_reducible first | exact HB.out | apply below_alloc | apply pw_below_drewN | apply below_drew1) | exact HB.out))) : w.heap.size ≤ gb369)); have n5_ := Aside0.mk ((by rw [hg]; exact (below_size (by repeat (first | (with_reducible first | exact HB.out | apply below_alloc | apply pw_below_drewN | apply below_drew1) | exact HB.out))) : w.heap.size ≤ gb369)); clear HO364; clear HO367; clear HB; have HO364 := n0_; have HO367 := n1_; have HB := n2_; have BK369 := n3_; have GW369 := n4_; have GE369 := n5_; clear n0_ n1_ n2_ n3_ n4_ n5_; clear hb hbox hg; obtain ⟨Ao38, co38, eo38⟩ := Kd.N_slice HO364.out; subst eo38; have hcz39_0 : w37.cell? ⟨gb369, 0, none⟩ = some (.slice none 0 0) := (blk_cell BK369.out 0).trans rfl; have hcz39_1 : w37.cell? ⟨gb369, 1, none⟩ = some (.slice none 0 0) := (blk_cell BK369.out 1).trans rfl; have hfz39_0 := blk_frozen BK369.out 0; have hfz39_1 := blk_frozen BK369.out 1; obtain ⟨Ao40, co40, eo40⟩ := Kd.N_slice HO367.out; subst eo40) | ((with_reducible refine gate_callee (f := 18) rfl ?_); refine goesL_ (some 16) rfl rfl Try.func18 (by kernel_rfl) rfl #[.agg #[.slice Ao38 t362.length co38, .slice Ao40 t365.length co40], .int .i64 t368] rfl (by (try simp only [List.map_toArray, List.map_cons, List.map_nil]); first | done | rfl | (simp only [List.length_drop, List.length_take]; rfl)) ?_; (with_reducible refine (impl_PictureCount.calls k _ _ t362 _ _ t365 t368 t370 _ ?side1 ?side2 ?side3 ?side4 A4.out).mono ?_); (case side1 => refine (Kd.N_reads' (e := 36) (base := w.heap.size) (ok := fun k_ => (some k_ ≠ (.slice Ao40 t365.length co40 : Value).ownBlock ∧ k_ ≠ gb369)) (n := t362.length) (c := co38) ?_).2.2; exact (by (with_reducible repeat (first | apply Kd.N_alloc | apply Kd.N_drewN | apply Kd.N_drew)); exact (Kd.N_mono (Kd.N_far (p := ⟨gb369, 1, none⟩) (Kd.N_far (p := ⟨gb369, 0, none⟩) (Kd.N_mono HO364.out (fun k_ hk => (⟨hk, hk.2⟩ : _ ∧ k_ ≠ gb369))) (fun _ hk => hk.2) (.slice Ao38 t362.length co38)) (fun _ hk => hk.2) (.slice Ao40 t365.length co40)) (fun _ h_ => h_.1)))); (case side2 => exact (Kd.N_reads' HO364.out).2.1); (case side3 => refine (Kd.N_reads' (e := 36) (base := w.heap.size) (ok := fun k_ => (some k_ ≠ (.slice Ao38 t362.length co38 : Value).ownBlock ∧ k_ ≠ gb369)) (n := t365.length) (c := co40) ?_).2.2; exact (by (with_reducible repeat (first | apply Kd.N_alloc | apply Kd.N_drewN | apply Kd.N_drew)); exact (Kd.N_mono (Kd.N_far (p := ⟨gb369, 1, none⟩) (Kd.N_far (p := ⟨gb369, 0, none⟩) (Kd.N_mono HO367.out (fun k_ hk => (⟨hk, hk.2⟩ : _ ∧ k_ ≠ gb369))) (fun _ hk => hk.2) (.slice Ao38 t362.length co38)) (fun _ hk => hk.2) (.slice Ao40 t365.length co40)) (fun _ h_ => h_.1)))); (case side4 => exact (Kd.N_reads' HO367.out).2.1); rintro e w41 ⟨rfl, hb⟩; refine ⟨_, rfl, ?_⟩; have n0_ := Aside0.mk (Kd.N_below (by (with_reducible repeat (first | apply Kd.N_alloc | apply Kd.N_drewN | apply Kd.N_drew)); exact (Kd.N_mono (Kd.N_far (p := ⟨gb369, 1, none⟩) (Kd.N_far (p := ⟨gb369, 0, none⟩) (Kd.N_mono HO364.out (fun k_ hk => (⟨hk, hk.2⟩ : _ ∧ k_ ≠ gb369))) (fun _ hk => hk.2) (.slice Ao38 t362.length co38)) (fun _ hk => hk.2) (.slice Ao40 t365.length co40)) (fun _ h_ => h_.1))) hb); have n1_ := Aside0.mk (Kd.N_below (by (with_reducible repeat (first | apply Kd.N_alloc | apply Kd.N_drewN | apply Kd.N_drew)); exact (Kd.N_mono (Kd.N_far (p := ⟨gb369, 1, none⟩) (Kd.N_far (p := ⟨gb369, 0, none⟩) (Kd.N_mono HO367.out (fun k_ hk => (⟨hk, hk.2⟩ : _ ∧ k_ ≠ gb369))) (fun _ hk => hk.2) (.slice Ao38 t362.length co38)) (fun _ hk => hk.2) (.slice Ao40 t365.length co40)) (fun _ h_ => h_.1))) hb); have n2_ := Aside0.mk (blk_below (g := gb369) (o := .cells #[.slice Ao38 t362.length co38, .slice Ao40 t365.length co40] 25 (0, 0)) (by (with_reducible repeat (first | refine blk_drewN ?_ _ | refine blk_drew ?_ | refine blk_alloc ?_ _)); refine blk_put (cs := #[.slice Ao38 t362.length co38, .slice none 0 0]) ?_ 1 _ rfl; (with_reducible repeat (first | refine blk_drewN ?_ _ | refine blk_drew ?_ | refine blk_alloc ?_ _)); refine blk_put (cs := #[.slice none 0 0, .slice none 0 0]) ?_ 0 _ rfl; (with_reducible repeat (first | refine blk_drewN ?_ _ | refine blk_drew ?_ | refine blk_alloc ?_ _)); exact BK369.out) hb); have n3_ := Aside0.mk (below_step (by repeat (first | (with_reducible first | exact HB.out | apply below_alloc | apply pw_below_drewN | apply below_drew1 | refine below_set ?_ GE369.out) | exact HB.out)) hb); clear HO364; clear HO367; clear BK369; clear HB; have HO364 := n0_; have HO367 := n1_; have BK369 := n2_; have HB := n3_; clear n0_ n1_ n2_ n3_; (try clear hb); (try clear hb2); (try clear hk); (try clear hi); have hcz42_0 : w41.cell? ⟨gb369, 0, none⟩ = some (.slice Ao38 t362.length co38) := (blk_cell BK369.out 0).trans rfl; have hcz42_1 : w41.cell? ⟨gb369, 1, none⟩ = some (.slice Ao40 t365.length co40) := (blk_cell BK369.out 1).trans rfl; have hfz42_0 := blk_frozen BK369.out 0; have hfz42_1 := blk_frozen BK369.out 1) | ((with_reducible refine gate_callee (f := 36) rfl ?_); refine goesL_ (some 20) rfl rfl Try.func36 (by kernel_rfl) rfl #[.agg #[.slice Ao38 t362.length co38, .slice Ao40 t365.length co40], .int .i64 t368] rfl (by (try simp only [List.map_toArray, List.map_cons, List.map_nil]); first | done | rfl | (simp only [List.length_drop, List.length_take]; rfl)) ?_; (with_reducible refine (spec_PictureCount.calls k _ _ t362 _ _ t365 t368 t371 _ ?side1 ?side2 ?side3 ?side4 A5.out).mono ?_); (case side1 => repeat (first | exact (Kd.N_reads' HO364.out).2.2 | (with_reducible refine Kd.C_alloc ?_ _) | (with_reducible refine Kd.C_drewN ?_ _) | (with_reducible refine Kd.C_drew ?_))); (case side2 => exact (Kd.N_reads' HO364.out).2.1); (case side3 => repeat (first | exact (Kd.N_reads' HO367.out).2.2 | (with_reducible refine Kd.C_alloc ?_ _) | (with_reducible refine Kd.C_drewN ?_ _) | (with_reducible refine Kd.C_drew ?_))); (case side4 => exact (Kd.N_reads' HO367.out).2.1); rintro e w43 ⟨rfl, hb⟩; refine ⟨_, rfl, ?_⟩; have n0_ := Aside0.mk (Kd.N_below (by (with_reducible repeat (first | apply Kd.N_alloc | apply Kd.N_drewN | apply Kd.N_drew)); exact HO364.out) hb); have n1_ := Aside0.mk (Kd.N_below (by (with_reducible repeat (first | apply Kd.N_alloc | apply Kd.N_drewN | apply Kd.N_drew)); exact HO367.out) hb); have n2_ := Aside0.mk (blk_below (g := gb369) (o := .cells #[.slice Ao38 t362.length co38, .slice Ao40 t365.length co40] 25 (0, 0)) (by (with_reducible repeat (first | refine blk_drewN ?_ _ | refine blk_drew ?_ | refine blk_alloc ?_ _)); exact BK369.out) hb); have n3_ := Aside0.mk (below_step (by repeat (first | (with_reducible first | exact HB.out | apply below_alloc | apply pw_below_drewN | apply below_drew1 | refine below_set ?_ GE369.out) | exact HB.out)) hb); clear HO364; clear HO367; clear BK369; clear HB; have HO364 := n0_; have HO367 := n1_; have BK369 := n2_; have HB := n3_; clear n0_ n1_ n2_ n3_; (try clear hb); (try clear hb2); (try clear hk); (try clear hi)))
      go_ret
      exact ⟨by first | rfl | (simp [errW_none, errW_some] <;> rfl) | (simp [*, errW_none, errW_some] <;> rfl), by repeat (first | (with_reducible first | exact HB.out | apply below_alloc | apply pw_below_drewN | apply below_drew1 | refine below_set ?_ GE369.out) | exact HB.out)⟩

/-- THE ONE PURE STATEMENT of laws_FnPictureTurned: yours. -/
def laws_FnPictureTurned.Pure : Prop := ∀ (l0 : List Int), l0.length ≤ maxLen → l0.length * 1 ≤ 140737488351232 → (∀ x ∈ l0, (Lit.int .u8 x).wf = true) → ∃ k, laws_FnPictureTurned.f k l0 = some true
theorem laws_FnPictureTurned.walk (P : laws_FnPictureTurned.Pure) (a0 : Option Addr) (len0 cap0 : Nat) (z0 : List Int) (w : World) (w0 : (a0 = none ∧ len0 = 0 ∧ cap0 = 0 ∧ z0 = []) ∨ ∃ x, a0 = some x ∧ len0 ≤ cap0 ∧ cap0 ≤ maxLen ∧ z0.length = cap0 ∧ (∀ i, i < z0.length → w.cell? (x.add i) = some (.int .u8 (z0.getD i 0))) ∧ ∀ n ∈ z0, (Lit.int .u8 n).wf = true) (y0 : len0 * 1 ≤ 140737488351232) :
    Calls Try.prog 9 #[.slice a0 len0 cap0] w fun e w' => e = .returned (.bool true) ∧ Below w.heap.size w w' := by
  obtain ⟨l0, rfl, hr0, hm0, hw0, hc0⟩ := ReadsInt.ofRowC w0
  obtain ⟨k, h⟩ := P l0 hm0 y0 hw0
  refine (laws_FnPictureTurned.calls k _ _ l0 true w (Kd.C_of_reads (d := (0 : Int)) (h1 := fun _ => rfl) hr0) hc0 h).mono ?_
  rintro e w' ⟨rfl, hd⟩
  exact ⟨rfl, hd⟩

end Go.Proofs.Ytapnohcfnclleaa.PFnPictureTurned
