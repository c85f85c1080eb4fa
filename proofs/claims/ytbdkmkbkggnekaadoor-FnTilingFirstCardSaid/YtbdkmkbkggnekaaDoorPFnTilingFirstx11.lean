-- Made by a program of this session (a changed copy of the kit print): the kit print itself does not give this text
import Derived.Test.YtbdkmkbkggnekaaDoorPFnTilingFirstx0
import Derived.Test.YtbdkmkbkggnekaaDoorPFnTilingFirstx1
import Derived.Test.YtbdkmkbkggnekaaDoorPFnTilingFirstx3
import Derived.Test.YtbdkmkbkggnekaaDoorPFnTilingFirstx6
import Derived.Test.YtbdkmkbkggnekaaDoorPFnTilingFirstx7
import Derived.Test.YtbdkmkbkggnekaaDoorPFnTilingFirstx8
import Derived.Test.YtbdkmkbkggnekaaDoorPFnTilingFirstx9
import Derived.Test.YtbdkmkbkggnekaaDoorPFnTilingFirstx10
namespace Go.Proofs.YtbdkmkbkggnekaaDoor.PFnTilingFirst
open Go.RowKit Go.Proofs.YtbdkmkbkggnekaaDoorW.PrintWords Go.Proofs.YtbdkmkbkggnekaaDoorW.PrintLast Go.Proofs.YtbdkmkbkggnekaaDoorW.PrintMore
attribute [local go_sem] max2_int min2_int max_two min_two max_three min_three max_four min_four   -- for this text's walks alone
set_option linter.unusedVariables false
set_option linter.unusedSimpArgs false

/-! ### laws_FnTilingFirst: function 7 -/
mutual
def laws_FnTilingFirst.j0 : Nat → List Int → Bool → Bool → Int → Int → Int → Option (Bool)
  | 0, _, _, _, _, _, _ => none
  | k + 1, x4, x5, x35, x205000, x205001, x205002 => if x35 = true then (some false) else (if x5 = true then (laws_FnTilingFirst.l0 k x4 x205002 0 x205000 x205001 x205002) else (if (x4.length : Int) = 0 then ((impl_TilingCount.f k x205000 x205001 x205002).bind fun t214 => (if t214 < 1 then ((laws_alive.f k).bind fun t215 => (some t215)) else (some false))) else (some false)))
def laws_FnTilingFirst.l0 : Nat → List Int → Int → Int → Int → Int → Int → Option (Bool)
  | 0, _, _, _, _, _, _ => none
  | k + 1, x4, x8, x9, x205000, x205001, x205002 => if (wrap64 (x9 + 1)) < (x4.length : Int) then (if 0 ≤ x9 then (if x9 < (x4.length : Int) then (if 0 ≤ (wrap64 (x9 + 1)) then (if (rd x4 x9) < 0 then (some false) else (if (rd x4 (wrap64 (x9 + 1))) ≥ (wrap64 (x205000 * x205001)) then (some false) else (if (rd x4 (wrap64 (x9 + 1))) = (wrap64 ((rd x4 x9) + x205001)) then (if 0 ≤ (rd x4 x9) then (if (Int.tmod (shr .i64 x8 (rd x4 x9)) 2) = 1 then (some false) else (if 0 ≤ (rd x4 (wrap64 (x9 + 1))) then (if (Int.tmod (shr .i64 x8 (rd x4 (wrap64 (x9 + 1)))) 2) = 1 then (some false) else (laws_FnTilingFirst.l0 k x4 (Go.bits .or .i64 (Go.bits .or .i64 x8 (shl .i64 1 (rd x4 x9))) (shl .i64 1 (rd x4 (wrap64 (x9 + 1))))) (wrap64 (x9 + 2)) x205000 x205001 x205002)) else (none))) else (none)) else (if (rd x4 (wrap64 (x9 + 1))) = (wrap64 ((rd x4 x9) + 1)) then (if x205001 = 0 then (none) else (if (Int.tmod (rd x4 (wrap64 (x9 + 1))) x205001) = 0 then (some false) else (if 0 ≤ (rd x4 x9) then (if (Int.tmod (shr .i64 x8 (rd x4 x9)) 2) = 1 then (some false) else (if 0 ≤ (rd x4 (wrap64 (x9 + 1))) then (if (Int.tmod (shr .i64 x8 (rd x4 (wrap64 (x9 + 1)))) 2) = 1 then (some false) else (laws_FnTilingFirst.l0 k x4 (Go.bits .or .i64 (Go.bits .or .i64 x8 (shl .i64 1 (rd x4 x9))) (shl .i64 1 (rd x4 (wrap64 (x9 + 1))))) (wrap64 (x9 + 2)) x205000 x205001 x205002)) else (none))) else (none)))) else (some false))))) else (none)) else (none)) else (none)) else (if 0 ≤ (wrap64 (x205000 * x205001)) then (if x8 = (wrap64 ((shl .i64 1 (wrap64 (x205000 * x205001))) - 1)) then ((impl_BoardFree.f x205000 x205001 x205002).bind fun t218 => (some ((x4.length : Int) == t218))) else (some false)) else (none))
end
def laws_FnTilingFirst.f (k : Nat) (l0 : List Int) : Option (Bool) := if (l0.length : Int) > 1048576 then (some true) else ((spec_DrawTilingFirst.f k l0).bind fun bt201 => ((impl_TilingFirst.f k bt201.1 bt201.2.1 bt201.2.2).bind fun bt205 => ((spec_TilingFirst.f k bt201.1 bt201.2.1 bt201.2.2).bind fun bt209 => ((laws_sameInts.f k bt205.1 bt209.1).bind fun t213 => (if t213 = true then (laws_FnTilingFirst.j0 k bt205.1 bt205.2 (bt205.2 != bt209.2) bt201.1 bt201.2.1 bt201.2.2) else (laws_FnTilingFirst.j0 k bt205.1 bt205.2 true bt201.1 bt201.2.1 bt201.2.2))))))
theorem laws_FnTilingFirst.mono_l : ∀ k, (∀ y0 y1 y2 y3 y4 y5, LeO (laws_FnTilingFirst.j0 k y0 y1 y2 y3 y4 y5) (laws_FnTilingFirst.j0 (k + 1) y0 y1 y2 y3 y4 y5)) ∧ (∀ y0 y1 y2 y3 y4 y5, LeO (laws_FnTilingFirst.l0 k y0 y1 y2 y3 y4 y5) (laws_FnTilingFirst.l0 (k + 1) y0 y1 y2 y3 y4 y5))
  | 0 => ⟨fun _ _ _ _ _ _ r h => by simp [laws_FnTilingFirst.j0] at h, fun _ _ _ _ _ _ r h => by simp [laws_FnTilingFirst.l0] at h⟩
  | k + 1 => by
    obtain ⟨ih0, ih1⟩ := laws_FnTilingFirst.mono_l k
    refine ⟨?_, ?_⟩
    · intro y0 y1 y2 y3 y4 y5
      unfold laws_FnTilingFirst.j0
      repeat' first
      | (with_reducible exact ih0 _ _ _ _ _ _)
      | (with_reducible exact ih1 _ _ _ _ _ _)
      | (with_reducible exact impl_TilingCount.mono _ _ _ _)
      | (with_reducible exact impl_TilingFirst.mono _ _ _ _)
      | (with_reducible exact laws_alive.mono _)
      | (with_reducible exact laws_sameInts.mono _ _ _)
      | (with_reducible exact spec_DrawTilingFirst.mono _ _)
      | (with_reducible exact spec_TilingFirst.mono _ _ _ _)
      | (with_reducible exact LeO.refl _)
      | (with_reducible exact LeO.none _)
      | (with_reducible refine LeO.ite ?_ ?_)
      | (with_reducible refine LeO.bind ?_ (fun _ => ?_))
      | exact ih0 _ _ _ _ _ _
      | exact ih1 _ _ _ _ _ _
      | exact impl_TilingCount.mono _ _ _ _
      | exact impl_TilingFirst.mono _ _ _ _
      | exact laws_alive.mono _
      | exact laws_sameInts.mono _ _ _
      | exact spec_DrawTilingFirst.mono _ _
      | exact spec_TilingFirst.mono _ _ _ _
      | exact LeO.none _
      | refine LeO.ite ?_ ?_
      | refine LeO.bind ?_ (fun _ => ?_)
    · intro y0 y1 y2 y3 y4 y5
      unfold laws_FnTilingFirst.l0
      repeat' first
      | (with_reducible exact ih0 _ _ _ _ _ _)
      | (with_reducible exact ih1 _ _ _ _ _ _)
      | (with_reducible exact impl_TilingCount.mono _ _ _ _)
      | (with_reducible exact impl_TilingFirst.mono _ _ _ _)
      | (with_reducible exact laws_alive.mono _)
      | (with_reducible exact laws_sameInts.mono _ _ _)
      | (with_reducible exact spec_DrawTilingFirst.mono _ _)
      | (with_reducible exact spec_TilingFirst.mono _ _ _ _)
      | (with_reducible exact LeO.refl _)
      | (with_reducible exact LeO.none _)
      | (with_reducible refine LeO.ite ?_ ?_)
      | (with_reducible refine LeO.bind ?_ (fun _ => ?_))
      | exact ih0 _ _ _ _ _ _
      | exact ih1 _ _ _ _ _ _
      | exact impl_TilingCount.mono _ _ _ _
      | exact impl_TilingFirst.mono _ _ _ _
      | exact laws_alive.mono _
      | exact laws_sameInts.mono _ _ _
      | exact spec_DrawTilingFirst.mono _ _
      | exact spec_TilingFirst.mono _ _ _ _
      | exact LeO.none _
      | refine LeO.ite ?_ ?_
      | refine LeO.bind ?_ (fun _ => ?_)
theorem laws_FnTilingFirst.mono : ∀ a0 k, LeO (laws_FnTilingFirst.f k a0) (laws_FnTilingFirst.f (k + 1) a0) := by
  intro a0 k
  obtain ⟨ih0, ih1⟩ := laws_FnTilingFirst.mono_l k
  unfold laws_FnTilingFirst.f
  repeat' first
      | (with_reducible exact ih0 _ _ _ _ _ _)
      | (with_reducible exact ih1 _ _ _ _ _ _)
      | (with_reducible exact impl_TilingCount.mono _ _ _ _)
      | (with_reducible exact impl_TilingFirst.mono _ _ _ _)
      | (with_reducible exact laws_alive.mono _)
      | (with_reducible exact laws_sameInts.mono _ _ _)
      | (with_reducible exact spec_DrawTilingFirst.mono _ _)
      | (with_reducible exact spec_TilingFirst.mono _ _ _ _)
      | (with_reducible exact LeO.refl _)
      | (with_reducible exact LeO.none _)
      | (with_reducible refine LeO.ite ?_ ?_)
      | (with_reducible refine LeO.bind ?_ (fun _ => ?_))
      | exact ih0 _ _ _ _ _ _
      | exact ih1 _ _ _ _ _ _
      | exact impl_TilingCount.mono _ _ _ _
      | exact impl_TilingFirst.mono _ _ _ _
      | exact laws_alive.mono _
      | exact laws_sameInts.mono _ _ _
      | exact spec_DrawTilingFirst.mono _ _
      | exact spec_TilingFirst.mono _ _ _ _
      | exact LeO.none _
      | refine LeO.ite ?_ ?_
      | refine LeO.bind ?_ (fun _ => ?_)
set_option maxHeartbeats 8000000 in
set_option maxRecDepth 100000 in
theorem laws_FnTilingFirst.calls (k : Nat) (A0 : Option Addr) (c0 : Nat) (l0 : List Int) (r : Bool) (w : World) (hT : Tab64 w) (hr0 : Kd.C (Kd.int .u8) w A0 l0.length l0) (hc0 : l0.length ≤ c0) (h : laws_FnTilingFirst.f k l0 = some r) :
    Calls Tryd.prog 7 #[.slice A0 l0.length c0] w fun e w' => e = .returned (.bool r) ∧ Below w.heap.size w w' := by
  have HT := Aside0.mk hT
  clear hT
  have hu25 := Tryd.underlying25
  have HR0 := Aside0.mk hr0
  have HC0 := Aside0.mk hc0
  clear hr0 hc0
  have HB := Aside0.mk (Below.refl w.heap.size w)
  have H : (if (l0.length : Int) > 1048576 then (some true) else ((spec_DrawTilingFirst.f k l0).bind fun bt201 => ((impl_TilingFirst.f k bt201.1 bt201.2.1 bt201.2.2).bind fun bt205 => ((spec_TilingFirst.f k bt201.1 bt201.2.1 bt201.2.2).bind fun bt209 => ((laws_sameInts.f k bt205.1 bt209.1).bind fun t213 => (if t213 = true then (laws_FnTilingFirst.j0 k bt205.1 bt205.2 (bt205.2 != bt209.2) bt201.1 bt201.2.1 bt201.2.2) else (laws_FnTilingFirst.j0 k bt205.1 bt205.2 true bt201.1 bt201.2.1 bt201.2.2))))))) = some r := h
  clear h
  by_cases c2 : (l0.length : Int) > 1048576
  · rw [if_pos c2] at H
    have c2b0 : decide (1048576 < (l0.length : Int)) = true := decide_eq_true c2
    have c2b1 : decide (1048576 < l0.length) = true := decide_eq_true (by omega)
    clear c2
    obtain rfl := Option.some.inj H
    go_enter Tryd.func7, Tryd.ntmps7
    go_wp2
    repeat (go_quiet (fail); try go_wp2)
    go_ret
    exact ⟨by first | rfl | (simp [errW_none, errW_some] <;> rfl) | (simp [*, errW_none, errW_some] <;> rfl), by repeat (first | (with_reducible first | exact HB.out | apply below_alloc | apply pw_below_drewN | apply below_drew1) | exact HB.out)⟩
  · rw [if_neg c2] at H
    have c2b0 : decide (1048576 < (l0.length : Int)) = false := decide_eq_false c2
    have c2b1 : decide (1048576 < l0.length) = false := decide_eq_false (by omega)
    clear c2
    replace H := Option.bind_eq_some_iff.mp H
    obtain ⟨⟨t201, t202, t203⟩, A30, H⟩ := H
    replace H : ((impl_TilingFirst.f k t201 t202 t203).bind fun bt205 => ((spec_TilingFirst.f k t201 t202 t203).bind fun bt209 => ((laws_sameInts.f k bt205.1 bt209.1).bind fun t213 => (if t213 = true then (laws_FnTilingFirst.j0 k bt205.1 bt205.2 (bt205.2 != bt209.2) t201 t202 t203) else (laws_FnTilingFirst.j0 k bt205.1 bt205.2 true t201 t202 t203))))) = some r := H
    have A3 := Aside0.mk A30
    clear A30
    replace H := Option.bind_eq_some_iff.mp H
    obtain ⟨⟨t205, t208⟩, A40, H⟩ := H
    replace H : ((spec_TilingFirst.f k t201 t202 t203).bind fun bt209 => ((laws_sameInts.f k t205 bt209.1).bind fun t213 => (if t213 = true then (laws_FnTilingFirst.j0 k t205 t208 (t208 != bt209.2) t201 t202 t203) else (laws_FnTilingFirst.j0 k t205 t208 true t201 t202 t203)))) = some r := H
    have A4 := Aside0.mk A40
    clear A40
    replace H := Option.bind_eq_some_iff.mp H
    obtain ⟨⟨t209, t212⟩, A50, H⟩ := H
    replace H : ((laws_sameInts.f k t205 t209).bind fun t213 => (if t213 = true then (laws_FnTilingFirst.j0 k t205 t208 (t208 != t212) t201 t202 t203) else (laws_FnTilingFirst.j0 k t205 t208 true t201 t202 t203))) = some r := H
    have A5 := Aside0.mk A50
    clear A50
    have HC6 := Aside0.mk H
    clear H
    go_enter Tryd.func7, Tryd.ntmps7
    go_upto_region 6 with (first | (go_at_call 20; (with_reducible refine (spec_DrawTilingFirst.calls k _ _ l0 t201 t202 t203 _ ?side1 ?side2 A3.out).mono ?_); (case side1 => repeat (first | exact HR0.out | (with_reducible refine Kd.C_alloc ?_ _) | (with_reducible refine Kd.C_drewN ?_ _) | (with_reducible refine Kd.C_drew ?_))); (case side2 => exact HC0.out); rintro e w7 ⟨rfl, hb⟩; have n0_ := Aside0.mk (below_step (by repeat (first | (with_reducible first | exact HB.out | apply below_alloc | apply pw_below_drewN | apply below_drew1) | exact HB.out)) hb); clear HB; have HB := n0_; clear n0_; (try clear hb); (try clear hb2); (try clear hk); (try clear hi)) | ((with_reducible refine gate_dst (N := 3) rfl ?_); (try (refine gate_guard (by rfl) ?_; dsimp only)); refine box_event ?hg (N := 3) ?hd (cs := #[.int .i64 0, .int .i64 0, .int .i64 0]) (t := 25) ?hr ?_; (case hd => rfl); (case hg => rfl); (case hr => first | (go_simp; done) | (go_simp; rfl)); intro gb204 hg w8 hbox hb; have n0_ := Aside0.mk (below_step (by repeat (first | (with_reducible first | exact HB.out | apply below_alloc | apply pw_below_drewN | apply below_drew1) | exact HB.out)) hb); have n1_ := Aside0.mk (hbox); have n2_ := Aside0.mk ((by rw [hg]; exact (below_size (by repeat (first | (with_reducible first | exact HB.out | apply below_alloc | apply pw_below_drewN | apply below_drew1) | exact HB.out))) : w.heap.size ≤ gb204)); have n3_ := Aside0.mk ((by rw [hg]; exact (below_size (by repeat (first | (with_reducible first | exact HB.out | apply below_alloc | apply pw_below_drewN | apply below_drew1) | exact HB.out))) : w.heap.size ≤ gb204)); clear HB; have HB := n0_; have BK204 := n1_; have GW204 := n2_; have GE204 := n3_; clear n0_ n1_ n2_ n3_; clear hb hbox hg; have hcz9_0 : w8.cell? ⟨gb204, 0, none⟩ = some (.int .i64 0) := (blk_cell BK204.out 0).trans rfl; have hcz9_1 : w8.cell? ⟨gb204, 1, none⟩ = some (.int .i64 0) := (blk_cell BK204.out 1).trans rfl; have hcz9_2 : w8.cell? ⟨gb204, 2, none⟩ = some (.int .i64 0) := (blk_cell BK204.out 2).trans rfl; have hfz9_0 := blk_frozen BK204.out 0; have hfz9_1 := blk_frozen BK204.out 1; have hfz9_2 := blk_frozen BK204.out 2) | (go_at_call 12; (with_reducible refine (impl_TilingFirst.calls k t201 t202 t203 t205 t208 _ (HT.out.below (by repeat (first | (with_reducible first | exact HB.out | apply below_alloc | apply pw_below_drewN | apply below_drew1 | refine below_set ?_ GE204.out) | exact HB.out))) A4.out).mono ?_); rintro e w10 ⟨v206, rfl, ho0, hb⟩; have n0_ := Aside0.mk (Kd.R_lower ho0 (below_size (by repeat (first | (with_reducible first | exact HB.out | apply below_alloc | apply pw_below_drewN | apply below_drew1 | refine below_set ?_ GE204.out) | exact HB.out)))); have n1_ := Aside0.mk (blk_below (g := gb204) (o := .cells #[.int .i64 t201, .int .i64 t202, .int .i64 t203] 25 (0, 0)) (by (with_reducible repeat (first | refine blk_drewN ?_ _ | refine blk_drew ?_ | refine blk_alloc ?_ _)); refine blk_put (cs := #[.int .i64 t201, .int .i64 t202, .int .i64 0]) ?_ 2 _ rfl; (with_reducible repeat (first | refine blk_drewN ?_ _ | refine blk_drew ?_ | refine blk_alloc ?_ _)); refine blk_put (cs := #[.int .i64 t201, .int .i64 0, .int .i64 0]) ?_ 1 _ rfl; (with_reducible repeat (first | refine blk_drewN ?_ _ | refine blk_drew ?_ | refine blk_alloc ?_ _)); refine blk_put (cs := #[.int .i64 0, .int .i64 0, .int .i64 0]) ?_ 0 _ rfl; (with_reducible repeat (first | refine blk_drewN ?_ _ | refine blk_drew ?_ | refine blk_alloc ?_ _)); exact BK204.out) hb); have n2_ := Aside0.mk (below_step (by repeat (first | (with_reducible first | exact HB.out | apply below_alloc | apply pw_below_drewN | apply below_drew1 | refine below_set ?_ GE204.out) | exact HB.out)) hb); clear BK204; clear HB; have HO207 := n0_; have BK204 := n1_; have HB := n2_; clear n0_ n1_ n2_; (try clear hb); (try clear hb2); (try clear hk); (try clear hi); (try clear ho0); have hcz11_0 : w10.cell? ⟨gb204, 0, none⟩ = some (.int .i64 t201) := (blk_cell BK204.out 0).trans rfl; have hcz11_1 : w10.cell? ⟨gb204, 1, none⟩ = some (.int .i64 t202) := (blk_cell BK204.out 1).trans rfl; have hcz11_2 : w10.cell? ⟨gb204, 2, none⟩ = some (.int .i64 t203) := (blk_cell BK204.out 2).trans rfl; have hfz11_0 := blk_frozen BK204.out 0; have hfz11_1 := blk_frozen BK204.out 1; have hfz11_2 := blk_frozen BK204.out 2) | (go_at_call 11; (with_reducible refine (spec_TilingFirst.calls k t201 t202 t203 t209 t212 _ A5.out).mono ?_); rintro e w12 ⟨v210, rfl, ho0, hb⟩; have n0_ := Aside0.mk (Kd.R_elder' (by (with_reducible repeat (first | apply Kd.R_alloc | apply Kd.R_drewN | apply Kd.R_drew)); exact HO207.out) (Kd.R_base ho0) hb); have n1_ := Aside0.mk (Kd.R_lower (Kd.R_new' ho0 (Kd.R_lt (by (with_reducible repeat (first | apply Kd.R_alloc | apply Kd.R_drewN | apply Kd.R_drew)); exact HO207.out))) (below_size (by repeat (first | (with_reducible first | exact HB.out | apply below_alloc | apply pw_below_drewN | apply below_drew1 | refine below_set ?_ GE204.out) | exact HB.out)))); have n2_ := Aside0.mk (blk_below (g := gb204) (o := .cells #[.int .i64 t201, .int .i64 t202, .int .i64 t203] 25 (0, 0)) (by (with_reducible repeat (first | refine blk_drewN ?_ _ | refine blk_drew ?_ | refine blk_alloc ?_ _)); exact BK204.out) hb); have n3_ := Aside0.mk (below_step (by repeat (first | (with_reducible first | exact HB.out | apply below_alloc | apply pw_below_drewN | apply below_drew1 | refine below_set ?_ GE204.out) | exact HB.out)) hb); clear HO207; clear BK204; clear HB; have HO207 := n0_; have HO211 := n1_; have BK204 := n2_; have HB := n3_; clear n0_ n1_ n2_ n3_; (try clear hb); (try clear hb2); (try clear hk); (try clear hi); (try clear ho0)))
    repeat (go_quiet (first | (go_at_call 20; (with_reducible refine (spec_DrawTilingFirst.calls k _ _ l0 t201 t202 t203 _ ?side1 ?side2 A3.out).mono ?_); (case side1 => repeat (first | exact HR0.out | (with_reducible refine Kd.C_alloc ?_ _) | (with_reducible refine Kd.C_drewN ?_ _) | (with_reducible refine Kd.C_drew ?_))); (case side2 => exact HC0.out); rintro e w7 ⟨rfl, hb⟩; have n0_ := Aside0.mk (below_step (by repeat (first | (with_reducible first | exact HB.out | apply below_alloc | apply pw_below_drewN | apply below_drew1) | exact HB.out)) hb); clear HB; have HB := n0_; clear n0_; (try clear hb); (try clear hb2); (try clear hk); (try clear hi)) | ((with_reducible refine gate_dst (N := 3) rfl ?_); (try (refine gate_guard (by rfl) ?_; dsimp only)); refine box_event ?hg (N := 3) ?hd (cs := #[.int .i64 0, .int .i64 0, .int .i64 0]) (t := 25) ?hr ?_; (case hd => rfl); (case hg => rfl); (case hr => first | (go_simp; done) | (go_simp; rfl)); intro gb204 hg w8 hbox hb; have n0_ := Aside0.mk (below_step (by repeat (first | (with_reducible first | exact HB.out | apply below_alloc | apply pw_below_drewN | apply below_drew1) | exact HB.out)) hb); have n1_ := Aside0.mk (hbox); have n2_ := Aside0.mk ((by rw [hg]; exact (below_size (by repeat (first | (with_reducible first | exact HB.out | apply below_alloc | apply pw_below_drewN | apply below_drew1) | exact HB.out))) : w.heap.size ≤ gb204)); have n3_ := Aside0.mk ((by rw [hg]; exact (below_size (by repeat (first | (with_reducible first | exact HB.out | apply below_alloc | apply pw_below_drewN | apply below_drew1) | exact HB.out))) : w.heap.size ≤ gb204)); clear HB; have HB := n0_; have BK204 := n1_; have GW204 := n2_; have GE204 := n3_; clear n0_ n1_ n2_ n3_; clear hb hbox hg; have hcz9_0 : w8.cell? ⟨gb204, 0, none⟩ = some (.int .i64 0) := (blk_cell BK204.out 0).trans rfl; have hcz9_1 : w8.cell? ⟨gb204, 1, none⟩ = some (.int .i64 0) := (blk_cell BK204.out 1).trans rfl; have hcz9_2 : w8.cell? ⟨gb204, 2, none⟩ = some (.int .i64 0) := (blk_cell BK204.out 2).trans rfl; have hfz9_0 := blk_frozen BK204.out 0; have hfz9_1 := blk_frozen BK204.out 1; have hfz9_2 := blk_frozen BK204.out 2) | (go_at_call 12; (with_reducible refine (impl_TilingFirst.calls k t201 t202 t203 t205 t208 _ (HT.out.below (by repeat (first | (with_reducible first | exact HB.out | apply below_alloc | apply pw_below_drewN | apply below_drew1 | refine below_set ?_ GE204.out) | exact HB.out))) A4.out).mono ?_); rintro e w10 ⟨v206, rfl, ho0, hb⟩; have n0_ := Aside0.mk (Kd.R_lower ho0 (below_size (by repeat (first | (with_reducible first | exact HB.out | apply below_alloc | apply pw_below_drewN | apply below_drew1 | refine below_set ?_ GE204.out) | exact HB.out)))); have n1_ := Aside0.mk (blk_below (g := gb204) (o := .cells #[.int .i64 t201, .int .i64 t202, .int .i64 t203] 25 (0, 0)) (by (with_reducible repeat (first | refine blk_drewN ?_ _ | refine blk_drew ?_ | refine blk_alloc ?_ _)); refine blk_put (cs := #[.int .i64 t201, .int .i64 t202, .int .i64 0]) ?_ 2 _ rfl; (with_reducible repeat (first | refine blk_drewN ?_ _ | refine blk_drew ?_ | refine blk_alloc ?_ _)); refine blk_put (cs := #[.int .i64 t201, .int .i64 0, .int .i64 0]) ?_ 1 _ rfl; (with_reducible repeat (first | refine blk_drewN ?_ _ | refine blk_drew ?_ | refine blk_alloc ?_ _)); refine blk_put (cs := #[.int .i64 0, .int .i64 0, .int .i64 0]) ?_ 0 _ rfl; (with_reducible repeat (first | refine blk_drewN ?_ _ | refine blk_drew ?_ | refine blk_alloc ?_ _)); exact BK204.out) hb); have n2_ := Aside0.mk (below_step (by repeat (first | (with_reducible first | exact HB.out | apply below_alloc | apply pw_below_drewN | apply below_drew1 | refine below_set ?_ GE204.out) | exact HB.out)) hb); clear BK204; clear HB; have HO207 := n0_; have BK204 := n1_; have HB := n2_; clear n0_ n1_ n2_; (try clear hb); (try clear hb2); (try clear hk); (try clear hi); (try clear ho0); have hcz11_0 : w10.cell? ⟨gb204, 0, none⟩ = some (.int .i64 t201) := (blk_cell BK204.out 0).trans rfl; have hcz11_1 : w10.cell? ⟨gb204, 1, none⟩ = some (.int .i64 t202) := (blk_cell BK204.out 1).trans rfl; have hcz11_2 : w10.cell? ⟨gb204, 2, none⟩ = some (.int .i64 t203) := (blk_cell BK204.out 2).trans rfl; have hfz11_0 := blk_frozen BK204.out 0; have hfz11_1 := blk_frozen BK204.out 1; have hfz11_2 := blk_frozen BK204.out 2) | (go_at_call 11; (with_reducible refine (spec_TilingFirst.calls k t201 t202 t203 t209 t212 _ A5.out).mono ?_); rintro e w12 ⟨v210, rfl, ho0, hb⟩; have n0_ := Aside0.mk (Kd.R_elder' (by (with_reducible repeat (first | apply Kd.R_alloc | apply Kd.R_drewN | apply Kd.R_drew)); exact HO207.out) (Kd.R_base ho0) hb); have n1_ := Aside0.mk (Kd.R_lower (Kd.R_new' ho0 (Kd.R_lt (by (with_reducible repeat (first | apply Kd.R_alloc | apply Kd.R_drewN | apply Kd.R_drew)); exact HO207.out))) (below_size (by repeat (first | (with_reducible first | exact HB.out | apply below_alloc | apply pw_below_drewN | apply below_drew1 | refine below_set ?_ GE204.out) | exact HB.out)))); have n2_ := Aside0.mk (blk_below (g := gb204) (o := .cells #[.int .i64 t201, .int .i64 t202, .int .i64 t203] 25 (0, 0)) (by (with_reducible repeat (first | refine blk_drewN ?_ _ | refine blk_drew ?_ | refine blk_alloc ?_ _)); exact BK204.out) hb); have n3_ := Aside0.mk (below_step (by repeat (first | (with_reducible first | exact HB.out | apply below_alloc | apply pw_below_drewN | apply below_drew1 | refine below_set ?_ GE204.out) | exact HB.out)) hb); clear HO207; clear BK204; clear HB; have HO207 := n0_; have HO211 := n1_; have BK204 := n2_; have HB := n3_; clear n0_ n1_ n2_ n3_; (try clear hb); (try clear hb2); (try clear hk); (try clear hi); (try clear ho0))); go_upto_region 6 with (first | (go_at_call 20; (with_reducible refine (spec_DrawTilingFirst.calls k _ _ l0 t201 t202 t203 _ ?side1 ?side2 A3.out).mono ?_); (case side1 => repeat (first | exact HR0.out | (with_reducible refine Kd.C_alloc ?_ _) | (with_reducible refine Kd.C_drewN ?_ _) | (with_reducible refine Kd.C_drew ?_))); (case side2 => exact HC0.out); rintro e w7 ⟨rfl, hb⟩; have n0_ := Aside0.mk (below_step (by repeat (first | (with_reducible first | exact HB.out | apply below_alloc | apply pw_below_drewN | apply below_drew1) | exact HB.out)) hb); clear HB; have HB := n0_; clear n0_; (try clear hb); (try clear hb2); (try clear hk); (try clear hi)) | ((with_reducible refine gate_dst (N := 3) rfl ?_); (try (refine gate_guard (by rfl) ?_; dsimp only)); refine box_event ?hg (N := 3) ?hd (cs := #[.int .i64 0, .int .i64 0, .int .i64 0]) (t := 25) ?hr ?_; (case hd => rfl); (case hg => rfl); (case hr => first | (go_simp; done) | (go_simp; rfl)); intro gb204 hg w8 hbox hb; have n0_ := Aside0.mk (below_step (by repeat (first | (with_reducible first | exact HB.out | apply below_alloc | apply pw_below_drewN | apply below_drew1) | exact HB.out)) hb); have n1_ := Aside0.mk (hbox); have n2_ := Aside0.mk ((by rw [hg]; exact (below_size (by repeat (first | (with_reducible first | exact HB.out | apply below_alloc | apply pw_below_drewN | apply below_drew1) | exact HB.out))) : w.heap.size ≤ gb204)); have n3_ := Aside0.mk ((by rw [hg]; exact (below_size (by repeat (first | (with_reducible first | exact HB.out | apply below_alloc | apply pw_below_drewN | apply below_drew1) | exact HB.out))) : w.heap.size ≤ gb204)); clear HB; have HB := n0_; have BK204 := n1_; have GW204 := n2_; have GE204 := n3_; clear n0_ n1_ n2_ n3_; clear hb hbox hg; have hcz9_0 : w8.cell? ⟨gb204, 0, none⟩ = some (.int .i64 0) := (blk_cell BK204.out 0).trans rfl; have hcz9_1 : w8.cell? ⟨gb204, 1, none⟩ = some (.int .i64 0) := (blk_cell BK204.out 1).trans rfl; have hcz9_2 : w8.cell? ⟨gb204, 2, none⟩ = some (.int .i64 0) := (blk_cell BK204.out 2).trans rfl; have hfz9_0 := blk_frozen BK204.out 0; have hfz9_1 := blk_frozen BK204.out 1; have hfz9_2 := blk_frozen BK204.out 2) | (go_at_call 12; (with_reducible refine (impl_TilingFirst.calls k t201 t202 t203 t205 t208 _ (HT.out.below (by repeat (first | (with_reducible first | exact HB.out | apply below_alloc | apply pw_below_drewN | apply below_drew1 | refine below_set ?_ GE204.out) | exact HB.out))) A4.out).mono ?_); rintro e w10 ⟨v206, rfl, ho0, hb⟩; have n0_ := Aside0.mk (Kd.R_lower ho0 (below_size (by repeat (first | (with_reducible first | exact HB.out | apply below_alloc | apply pw_below_drewN | apply below_drew1 | refine below_set ?_ GE204.out) | exact HB.out)))); have n1_ := Aside0.mk (blk_below (g := gb204) (o := .cells #[.int .i64 t201, .int .i64 t202, .int .i64 t203] 25 (0, 0)) (by (with_reducible repeat (first | refine blk_drewN ?_ _ | refine blk_drew ?_ | refine blk_alloc ?_ _)); refine blk_put (cs := #[.int .i64 t201, .int .i64 t202, .int .i64 0]) ?_ 2 _ rfl; (with_reducible repeat (first | refine blk_drewN ?_ _ | refine blk_drew ?_ | refine blk_alloc ?_ _)); refine blk_put (cs := #[.int .i64 t201, .int .i64 0, .int .i64 0]) ?_ 1 _ rfl; (with_reducible repeat (first | refine blk_drewN ?_ _ | refine blk_drew ?_ | refine blk_alloc ?_ _)); refine blk_put (cs := #[.int .i64 0, .int .i64 0, .int .i64 0]) ?_ 0 _ rfl; (with_reducible repeat (first | refine blk_drewN ?_ _ | refine blk_drew ?_ | refine blk_alloc ?_ _)); exact BK204.out) hb); have n2_ := Aside0.mk (below_step (by repeat (first | (with_reducible first | exact HB.out | apply below_alloc | apply pw_below_drewN | apply below_drew1 | refine below_set ?_ GE204.out) | exact HB.out)) hb); clear BK204; clear HB; have HO207 := n0_; have BK204 := n1_; have HB := n2_; clear n0_ n1_ n2_; (try clear hb); (try clear hb2); (try clear hk); (try clear hi); (try clear ho0); have hcz11_0 : w10.cell? ⟨gb204, 0, none⟩ = some (.int .i64 t201) := (blk_cell BK204.out 0).trans rfl; have hcz11_1 : w10.cell? ⟨gb204, 1, none⟩ = some (.int .i64 t202) := (blk_cell BK204.out 1).trans rfl; have hcz11_2 : w10.cell? ⟨gb204, 2, none⟩ = some (.int .i64 t203) := (blk_cell BK204.out 2).trans rfl; have hfz11_0 := blk_frozen BK204.out 0; have hfz11_1 := blk_frozen BK204.out 1; have hfz11_2 := blk_frozen BK204.out 2) | (go_at_call 11; (with_reducible refine (spec_TilingFirst.calls k t201 t202 t203 t209 t212 _ A5.out).mono ?_); rintro e w12 ⟨v210, rfl, ho0, hb⟩; have n0_ := Aside0.mk (Kd.R_elder' (by (with_reducible repeat (first | apply Kd.R_alloc | apply Kd.R_drewN | apply Kd.R_drew)); exact HO207.out) (Kd.R_base ho0) hb); have n1_ := Aside0.mk (Kd.R_lower (Kd.R_new' ho0 (Kd.R_lt (by (with_reducible repeat (first | apply Kd.R_alloc | apply Kd.R_drewN | apply Kd.R_drew)); exact HO207.out))) (below_size (by repeat (first | (with_reducible first | exact HB.out | apply below_alloc | apply pw_below_drewN | apply below_drew1 | refine below_set ?_ GE204.out) | exact HB.out)))); have n2_ := Aside0.mk (blk_below (g := gb204) (o := .cells #[.int .i64 t201, .int .i64 t202, .int .i64 t203] 25 (0, 0)) (by (with_reducible repeat (first | refine blk_drewN ?_ _ | refine blk_drew ?_ | refine blk_alloc ?_ _)); exact BK204.out) hb); have n3_ := Aside0.mk (below_step (by repeat (first | (with_reducible first | exact HB.out | apply below_alloc | apply pw_below_drewN | apply below_drew1 | refine below_set ?_ GE204.out) | exact HB.out)) hb); clear HO207; clear BK204; clear HB; have HO207 := n0_; have HO211 := n1_; have BK204 := n2_; have HB := n3_; clear n0_ n1_ n2_ n3_; (try clear hb); (try clear hb2); (try clear hk); (try clear hi); (try clear ho0))))
    (try simp only [Act.put, List.setIfInBounds_toArray, List.set_cons_zero, List.set_cons_succ])
    go_cut [35] (fun v35 wc => ∃ (kq : Nat) (x35_5 : Bool), v35 = .bool x35_5 ∧ Aside0 (laws_FnTilingFirst.j0 kq t205 t208 x35_5 t201 t202 t203 = some r) ∧ Aside0 (kq ≤ k) ∧ Aside0 (Kd.R (Kd.int .i64) 3 wc w.heap.size (fun _ => True) v206 t205) ∧ Aside0 (wc.heap[gb204]? = some (.cells #[.int .i64 t201, .int .i64 t202, .int .i64 t203] 25 (0, 0))) ∧ Aside0 (Below w.heap.size w wc))
    case first =>
      have H := HC6.out
      clear HC6
      replace H := Option.bind_eq_some_iff.mp H
      obtain ⟨t213, A130, H⟩ := H
      replace H : (if t213 = true then (laws_FnTilingFirst.j0 k t205 t208 (t208 != t212) t201 t202 t203) else (laws_FnTilingFirst.j0 k t205 t208 true t201 t202 t203)) = some r := H
      have A13 := Aside0.mk A130
      clear A130
      by_cases c14 : t213 = true
      · subst c14
        have H1 : (laws_FnTilingFirst.j0 k t205 t208 (t208 != t212) t201 t202 t203) = some r := by rw [if_pos rfl] at H; exact H
        clear H
        have H := H1
        clear H1
        have H' := Aside0.mk H
        clear H
        obtain ⟨Ao15, co15, eo15⟩ := Kd.R_slice HO207.out
        subst eo15
        obtain ⟨Ao16, co16, eo16⟩ := Kd.R_slice HO211.out
        subst eo16
        go_wp2_with (first | (go_at_call 21; (with_reducible refine (laws_sameInts.calls k _ _ t205 _ _ t209 true _ ?side1 ?side2 ?side3 ?side4 A13.out).mono ?_); (case side1 => repeat (first | exact (Kd.R_reads' HO207.out).2.2 | (with_reducible refine Kd.C_alloc ?_ _) | (with_reducible refine Kd.C_drewN ?_ _) | (with_reducible refine Kd.C_drew ?_))); (case side2 => exact (Kd.R_reads' HO207.out).2.1); (case side3 => repeat (first | exact (Kd.R_reads' HO211.out).2.2 | (with_reducible refine Kd.C_alloc ?_ _) | (with_reducible refine Kd.C_drewN ?_ _) | (with_reducible refine Kd.C_drew ?_))); (case side4 => exact (Kd.R_reads' HO211.out).2.1); rintro e w' ⟨rfl, ⟨nd, rfl⟩⟩; (try first | exact ⟨rfl, _, World.drewN_drewN _ _ _⟩ | exact ⟨rfl, _, Eq.trans (World.drewN_drewN _ _ _) (congrArg (World.drewN _) (Nat.add_assoc _ _ _))⟩)))
        repeat (go_quiet (first | (go_at_call 21; (with_reducible refine (laws_sameInts.calls k _ _ t205 _ _ t209 true _ ?side1 ?side2 ?side3 ?side4 A13.out).mono ?_); (case side1 => repeat (first | exact (Kd.R_reads' HO207.out).2.2 | (with_reducible refine Kd.C_alloc ?_ _) | (with_reducible refine Kd.C_drewN ?_ _) | (with_reducible refine Kd.C_drew ?_))); (case side2 => exact (Kd.R_reads' HO207.out).2.1); (case side3 => repeat (first | exact (Kd.R_reads' HO211.out).2.2 | (with_reducible refine Kd.C_alloc ?_ _) | (with_reducible refine Kd.C_drewN ?_ _) | (with_reducible refine Kd.C_drew ?_))); (case side4 => exact (Kd.R_reads' HO211.out).2.1); rintro e w' ⟨rfl, ⟨nd, rfl⟩⟩; (try first | exact ⟨rfl, _, World.drewN_drewN _ _ _⟩ | exact ⟨rfl, _, Eq.trans (World.drewN_drewN _ _ _) (congrArg (World.drewN _) (Nat.add_assoc _ _ _))⟩))); try go_wp2_with (first | (go_at_call 21; (with_reducible refine (laws_sameInts.calls k _ _ t205 _ _ t209 true _ ?side1 ?side2 ?side3 ?side4 A13.out).mono ?_); (case side1 => repeat (first | exact (Kd.R_reads' HO207.out).2.2 | (with_reducible refine Kd.C_alloc ?_ _) | (with_reducible refine Kd.C_drewN ?_ _) | (with_reducible refine Kd.C_drew ?_))); (case side2 => exact (Kd.R_reads' HO207.out).2.1); (case side3 => repeat (first | exact (Kd.R_reads' HO211.out).2.2 | (with_reducible refine Kd.C_alloc ?_ _) | (with_reducible refine Kd.C_drewN ?_ _) | (with_reducible refine Kd.C_drew ?_))); (case side4 => exact (Kd.R_reads' HO211.out).2.1); rintro e w' ⟨rfl, ⟨nd, rfl⟩⟩; (try first | exact ⟨rfl, _, World.drewN_drewN _ _ _⟩ | exact ⟨rfl, _, Eq.trans (World.drewN_drewN _ _ _) (congrArg (World.drewN _) (Nat.add_assoc _ _ _))⟩))))
        go_meet
        case rel => exact ⟨_, ((t208 != t212)), (by first | rfl | (simp; done) | (simp [*]; done)), H', ⟨by first | omega | exact Nat.le_refl _⟩, ⟨by (with_reducible repeat (first | apply Kd.R_alloc | apply Kd.R_drewN | apply Kd.R_drew)); exact Kd.R_mono HO207.out (fun _ hk => trivial)⟩, ⟨by (with_reducible repeat (first | refine blk_drewN ?_ _ | refine blk_drew ?_ | refine blk_alloc ?_ _)); exact BK204.out⟩, ⟨by repeat (first | (with_reducible first | exact HB.out | apply below_alloc | apply pw_below_drewN | apply below_drew1 | refine below_set ?_ GE204.out) | exact HB.out)⟩⟩
      · replace c14 := Bool.eq_false_iff.mpr c14
        subst c14
        have H1 : (laws_FnTilingFirst.j0 k t205 t208 true t201 t202 t203) = some r := by rw [if_neg (show ¬ (false = true) by decide)] at H; exact H
        clear H
        have H := H1
        clear H1
        have H' := Aside0.mk H
        clear H
        obtain ⟨Ao17, co17, eo17⟩ := Kd.R_slice HO207.out
        subst eo17
        obtain ⟨Ao18, co18, eo18⟩ := Kd.R_slice HO211.out
        subst eo18
        go_wp2_with (first | (go_at_call 21; (with_reducible refine (laws_sameInts.calls k _ _ t205 _ _ t209 false _ ?side1 ?side2 ?side3 ?side4 A13.out).mono ?_); (case side1 => repeat (first | exact (Kd.R_reads' HO207.out).2.2 | (with_reducible refine Kd.C_alloc ?_ _) | (with_reducible refine Kd.C_drewN ?_ _) | (with_reducible refine Kd.C_drew ?_))); (case side2 => exact (Kd.R_reads' HO207.out).2.1); (case side3 => repeat (first | exact (Kd.R_reads' HO211.out).2.2 | (with_reducible refine Kd.C_alloc ?_ _) | (with_reducible refine Kd.C_drewN ?_ _) | (with_reducible refine Kd.C_drew ?_))); (case side4 => exact (Kd.R_reads' HO211.out).2.1); rintro e w' ⟨rfl, ⟨nd, rfl⟩⟩; (try first | exact ⟨rfl, _, World.drewN_drewN _ _ _⟩ | exact ⟨rfl, _, Eq.trans (World.drewN_drewN _ _ _) (congrArg (World.drewN _) (Nat.add_assoc _ _ _))⟩)))
        repeat (go_quiet (first | (go_at_call 21; (with_reducible refine (laws_sameInts.calls k _ _ t205 _ _ t209 false _ ?side1 ?side2 ?side3 ?side4 A13.out).mono ?_); (case side1 => repeat (first | exact (Kd.R_reads' HO207.out).2.2 | (with_reducible refine Kd.C_alloc ?_ _) | (with_reducible refine Kd.C_drewN ?_ _) | (with_reducible refine Kd.C_drew ?_))); (case side2 => exact (Kd.R_reads' HO207.out).2.1); (case side3 => repeat (first | exact (Kd.R_reads' HO211.out).2.2 | (with_reducible refine Kd.C_alloc ?_ _) | (with_reducible refine Kd.C_drewN ?_ _) | (with_reducible refine Kd.C_drew ?_))); (case side4 => exact (Kd.R_reads' HO211.out).2.1); rintro e w' ⟨rfl, ⟨nd, rfl⟩⟩; (try first | exact ⟨rfl, _, World.drewN_drewN _ _ _⟩ | exact ⟨rfl, _, Eq.trans (World.drewN_drewN _ _ _) (congrArg (World.drewN _) (Nat.add_assoc _ _ _))⟩))); try go_wp2_with (first | (go_at_call 21; (with_reducible refine (laws_sameInts.calls k _ _ t205 _ _ t209 false _ ?side1 ?side2 ?side3 ?side4 A13.out).mono ?_); (case side1 => repeat (first | exact (Kd.R_reads' HO207.out).2.2 | (with_reducible refine Kd.C_alloc ?_ _) | (with_reducible refine Kd.C_drewN ?_ _) | (with_reducible refine Kd.C_drew ?_))); (case side2 => exact (Kd.R_reads' HO207.out).2.1); (case side3 => repeat (first | exact (Kd.R_reads' HO211.out).2.2 | (with_reducible refine Kd.C_alloc ?_ _) | (with_reducible refine Kd.C_drewN ?_ _) | (with_reducible refine Kd.C_drew ?_))); (case side4 => exact (Kd.R_reads' HO211.out).2.1); rintro e w' ⟨rfl, ⟨nd, rfl⟩⟩; (try first | exact ⟨rfl, _, World.drewN_drewN _ _ _⟩ | exact ⟨rfl, _, Eq.trans (World.drewN_drewN _ _ _) (congrArg (World.drewN _) (Nat.add_assoc _ _ _))⟩))))
        go_meet
        case rel => exact ⟨_, (true), (by first | rfl | (simp; done) | (simp [*]; done)), H', ⟨by first | omega | exact Nat.le_refl _⟩, ⟨by (with_reducible repeat (first | apply Kd.R_alloc | apply Kd.R_drewN | apply Kd.R_drew)); exact Kd.R_mono HO207.out (fun _ hk => trivial)⟩, ⟨by (with_reducible repeat (first | refine blk_drewN ?_ _ | refine blk_drew ?_ | refine blk_alloc ?_ _)); exact BK204.out⟩, ⟨by repeat (first | (with_reducible first | exact HB.out | apply below_alloc | apply pw_below_drewN | apply below_drew1 | refine below_set ?_ GE204.out) | exact HB.out)⟩⟩
    case rest =>
      clear HC6
      try clear c1
      try clear c2
      try clear c2b0
      try clear c2b1
      try clear p2
      try clear c7
      try clear c14
      try clear hcz11_0
      try clear hcz11_1
      try clear hcz11_2
      try clear hcz9_0
      try clear hcz9_1
      try clear hcz9_2
      try clear hfz11_0
      try clear hfz11_1
      try clear hfz11_2
      try clear hfz9_0
      try clear hfz9_1
      try clear hfz9_2
      obtain ⟨kq, x35_5, rfl, HA, HJ5, HO_4, BK204, HB⟩ := hcut
      cases kq with
      | zero => exact absurd HA.out (by simp [laws_FnTilingFirst.j0])
      | succ kj5 =>
        have H := HA.out
        clear HA
        simp only [laws_FnTilingFirst.j0] at H
        by_cases c19 : x35_5 = true
        · subst c19
          have H1 : (some false) = some r := by rw [if_pos rfl] at H; exact H
          clear H
          have H := H1
          clear H1
          obtain rfl := Option.some.inj H
          go_wp2
          repeat (go_quiet (fail); try go_wp2)
          go_ret
          exact ⟨by first | rfl | (simp [errW_none, errW_some] <;> rfl) | (simp [*, errW_none, errW_some] <;> rfl), by repeat (first | (with_reducible first | exact HB.out | apply below_alloc | apply pw_below_drewN | apply below_drew1 | refine below_set ?_ GE204.out) | exact HB.out)⟩
        · replace c19 := Bool.eq_false_iff.mpr c19
          subst c19
          have H1 : (if t208 = true then (laws_FnTilingFirst.l0 kj5 t205 t203 0 t201 t202 t203) else (if (t205.length : Int) = 0 then ((impl_TilingCount.f kj5 t201 t202 t203).bind fun t214 => (if t214 < 1 then ((laws_alive.f kj5).bind fun t215 => (some t215)) else (some false))) else (some false))) = some r := by rw [if_neg (show ¬ (false = true) by decide)] at H; exact H
          clear H
          have H := H1
          clear H1
          by_cases c20 : t208 = true
          · subst c20
            have H1 : (laws_FnTilingFirst.l0 kj5 t205 t203 0 t201 t202 t203) = some r := by rw [if_pos rfl] at H; exact H
            clear H
            have H := H1
            clear H1
            have H' := Aside0.mk H
            clear H
            have hcz21_0 : wc.cell? ⟨gb204, 0, none⟩ = some (.int .i64 t201) := (blk_cell BK204.out 0).trans rfl
            have hcz21_1 : wc.cell? ⟨gb204, 1, none⟩ = some (.int .i64 t202) := (blk_cell BK204.out 1).trans rfl
            have hcz21_2 : wc.cell? ⟨gb204, 2, none⟩ = some (.int .i64 t203) := (blk_cell BK204.out 2).trans rfl
            have hfz21_0 := blk_frozen BK204.out 0
            have hfz21_1 := blk_frozen BK204.out 1
            have hfz21_2 := blk_frozen BK204.out 2
            go_wp2
            repeat (go_quiet (fail); try go_wp2)
            go_loopg [8, 9] kj5 (fun kq v8 v9 w' => ∃ (x8_2 : Int) (x9_2 : Int), v8 = .int .i64 x8_2 ∧ v9 = .int .i64 x9_2 ∧ Aside0 (laws_FnTilingFirst.l0 kq t205 x8_2 x9_2 t201 t202 t203 = some r) ∧ Aside0 (kq ≤ kj5) ∧ Aside0 (Kd.R (Kd.int .i64) 3 w' w.heap.size (fun _ => True) v206 t205) ∧ Aside0 (w'.heap[gb204]? = some (.cells #[.int .i64 t201, .int .i64 t202, .int .i64 t203] 25 (0, 0))) ∧ Aside0 (Below w.heap.size w w'))
            case atStart => exact ⟨(t203), (0), (by first | rfl | (simp; done) | (simp [*]; done)), (by first | rfl | (simp; done) | (simp [*]; done)), H', ⟨Nat.le_refl _⟩, ⟨by (with_reducible repeat (first | apply Kd.R_alloc | apply Kd.R_drewN | apply Kd.R_drew)); exact HO_4.out⟩, ⟨by (with_reducible repeat (first | refine blk_drewN ?_ _ | refine blk_drew ?_ | refine blk_alloc ?_ _)); exact BK204.out⟩, ⟨by repeat (first | (with_reducible first | exact HB.out | apply below_alloc | apply pw_below_drewN | apply below_drew1 | refine below_set ?_ GE204.out) | exact HB.out)⟩⟩
            case round =>
              clear H'
              try clear c1
              try clear c2
              try clear c2b0
              try clear c2b1
              try clear p2
              try clear c7
              try clear c14
              try clear c19
              try clear c20
              try clear hcz11_0
              try clear hcz11_1
              try clear hcz11_2
              try clear hcz21_0
              try clear hcz21_1
              try clear hcz21_2
              try clear hcz9_0
              try clear hcz9_1
              try clear hcz9_2
              try clear hfz11_0
              try clear hfz11_1
              try clear hfz11_2
              try clear hfz21_0
              try clear hfz21_1
              try clear hfz21_2
              try clear hfz9_0
              try clear hfz9_1
              try clear hfz9_2
              try clear p2
              obtain ⟨x8_2, x9_2, rfl, rfl, HA, HK2, HO_4, BK204, HB⟩ := hrel
              cases gk with
              | zero => exact absurd HA.out (by simp [laws_FnTilingFirst.l0])
              | succ k2 =>
                have H := HA.out
                clear HA
                simp only [laws_FnTilingFirst.l0] at H
                by_cases c22 : (wrap64 (x9_2 + 1)) < (t205.length : Int)
                · rw [if_pos c22] at H
                  have c22b0 : decide ((wrap64 (x9_2 + 1)) < (t205.length : Int)) = true := decide_eq_true c22
                  clear c22
                  by_cases c23 : 0 ≤ x9_2
                  · rw [if_pos c23] at H
                    have c23b0 : decide (0 ≤ x9_2) = true := decide_eq_true c23
                    clear c23
                    by_cases c24 : x9_2 < (t205.length : Int)
                    · rw [if_pos c24] at H
                      have c24b0 : decide (x9_2 < (t205.length : Int)) = true := decide_eq_true c24
                      clear c24
                      obtain ⟨ji25, hji25⟩ : ∃ j_ : Int, (wrap64 (x9_2 + 1)) = j_ := ⟨_, rfl⟩
                      replace H : (if 0 ≤ (ji25) then (if (rd t205 x9_2) < 0 then (some false) else (if (rd t205 (ji25)) ≥ (wrap64 (t201 * t202)) then (some false) else (if (rd t205 (ji25)) = (wrap64 ((rd t205 x9_2) + t202)) then (if 0 ≤ (rd t205 x9_2) then (if (Int.tmod (shr .i64 x8_2 (rd t205 x9_2)) 2) = 1 then (some false) else (if 0 ≤ (rd t205 (ji25)) then (if (Int.tmod (shr .i64 x8_2 (rd t205 (ji25))) 2) = 1 then (some false) else (laws_FnTilingFirst.l0 k2 t205 (Go.bits .or .i64 (Go.bits .or .i64 x8_2 (shl .i64 1 (rd t205 x9_2))) (shl .i64 1 (rd t205 (ji25)))) (wrap64 (x9_2 + 2)) t201 t202 t203)) else (none))) else (none)) else (if (rd t205 (ji25)) = (wrap64 ((rd t205 x9_2) + 1)) then (if t202 = 0 then (none) else (if (Int.tmod (rd t205 (ji25)) t202) = 0 then (some false) else (if 0 ≤ (rd t205 x9_2) then (if (Int.tmod (shr .i64 x8_2 (rd t205 x9_2)) 2) = 1 then (some false) else (if 0 ≤ (rd t205 (ji25)) then (if (Int.tmod (shr .i64 x8_2 (rd t205 (ji25))) 2) = 1 then (some false) else (laws_FnTilingFirst.l0 k2 t205 (Go.bits .or .i64 (Go.bits .or .i64 x8_2 (shl .i64 1 (rd t205 x9_2))) (shl .i64 1 (rd t205 (ji25)))) (wrap64 (x9_2 + 2)) t201 t202 t203)) else (none))) else (none)))) else (some false))))) else (none)) = some r := by first | (rw [hji25] at H; exact H) | (simp only [hji25] at H ⊢; exact H)
                      (try rw [hji25] at c22b0)
                      have hji25w : (IntKind.i64.wrap (x9_2 + 1)) = ji25 := (i64_w _).trans hji25
                      by_cases c26 : 0 ≤ (ji25)
                      · rw [if_pos c26] at H
                        have c26b0 : decide (0 ≤ (ji25)) = true := decide_eq_true c26
                        clear c26
                        by_cases c27 : (rd t205 x9_2) < 0
                        · rw [if_pos c27] at H
                          have c27b0 : decide ((rd t205 x9_2) < 0) = true := decide_eq_true c27
                          clear c27
                          obtain rfl := Option.some.inj H
                          obtain ⟨Ao28, co28, eo28⟩ := Kd.R_slice HO_4.out
                          subst eo28
                          have p216 : 0 ≤ (x9_2 : Int) := of_decide_eq_true (by first | (with_reducible assumption) | assumption)
                          have q216 : x9_2 < (t205.length : Int) := of_decide_eq_true (by first | (with_reducible assumption) | assumption)
                          obtain ⟨ad216, e216, hx216_0⟩ := Kd.at_int (Kd.R_reads' HO_4.out).2.2 x9_2 p216 q216
                          cases e216
                          replace p216 := eq_true p216
                          replace q216 := eq_true q216
                          have p217 : 0 ≤ ((ji25) : Int) := of_decide_eq_true (by first | (with_reducible assumption) | assumption)
                          have q217 : (ji25) < (t205.length : Int) := of_decide_eq_true (by first | (with_reducible assumption) | assumption)
                          obtain ⟨ad217, e217, hx217_0⟩ := Kd.at_int (Kd.R_reads' HO_4.out).2.2 (ji25) p217 q217
                          obtain rfl : ad216 = ad217 := (by injection e217)
                          replace p217 := eq_true p217
                          replace q217 := eq_true q217
                          go_wp2
                          repeat (go_quiet (fail); try go_wp2)
                          go_ret
                          exact ⟨by first | rfl | (simp [errW_none, errW_some] <;> rfl) | (simp only [← hji25]; first | rfl | (simp [errW_none, errW_some] <;> rfl)) | (simp [*, errW_none, errW_some] <;> rfl), by repeat (first | (with_reducible first | exact HB.out | apply below_alloc | apply pw_below_drewN | apply below_drew1 | refine below_set ?_ GE204.out) | exact HB.out)⟩
                        · rw [if_neg c27] at H
                          have c27b0 : decide ((rd t205 x9_2) < 0) = false := decide_eq_false c27
                          clear c27
                          by_cases c29 : (rd t205 (ji25)) ≥ (wrap64 (t201 * t202))
                          · rw [if_pos c29] at H
                            have c29b0 : decide ((wrap64 (t201 * t202)) ≤ (rd t205 (ji25))) = true := decide_eq_true c29
                            clear c29
                            obtain rfl := Option.some.inj H
                            obtain ⟨Ao30, co30, eo30⟩ := Kd.R_slice HO_4.out
                            subst eo30
                            have p216 : 0 ≤ (x9_2 : Int) := of_decide_eq_true (by first | (with_reducible assumption) | assumption)
                            have q216 : x9_2 < (t205.length : Int) := of_decide_eq_true (by first | (with_reducible assumption) | assumption)
                            obtain ⟨ad216, e216, hx216_0⟩ := Kd.at_int (Kd.R_reads' HO_4.out).2.2 x9_2 p216 q216
                            cases e216
                            replace p216 := eq_true p216
                            replace q216 := eq_true q216
                            have p217 : 0 ≤ ((ji25) : Int) := of_decide_eq_true (by first | (with_reducible assumption) | assumption)
                            have q217 : (ji25) < (t205.length : Int) := of_decide_eq_true (by first | (with_reducible assumption) | assumption)
                            obtain ⟨ad217, e217, hx217_0⟩ := Kd.at_int (Kd.R_reads' HO_4.out).2.2 (ji25) p217 q217
                            obtain rfl : ad216 = ad217 := (by injection e217)
                            replace p217 := eq_true p217
                            replace q217 := eq_true q217
                            have hcz31_0 : wr.cell? ⟨gb204, 0, none⟩ = some (.int .i64 t201) := (blk_cell BK204.out 0).trans rfl
                            have hcz31_1 : wr.cell? ⟨gb204, 1, none⟩ = some (.int .i64 t202) := (blk_cell BK204.out 1).trans rfl
                            have hcz31_2 : wr.cell? ⟨gb204, 2, none⟩ = some (.int .i64 t203) := (blk_cell BK204.out 2).trans rfl
                            have hfz31_0 := blk_frozen BK204.out 0
                            have hfz31_1 := blk_frozen BK204.out 1
                            have hfz31_2 := blk_frozen BK204.out 2
                            go_wp2
                            repeat (go_quiet (fail); try go_wp2)
                            go_ret
                            exact ⟨by first | rfl | (simp [errW_none, errW_some] <;> rfl) | (simp only [← hji25]; first | rfl | (simp [errW_none, errW_some] <;> rfl)) | (simp [*, errW_none, errW_some] <;> rfl), by repeat (first | (with_reducible first | exact HB.out | apply below_alloc | apply pw_below_drewN | apply below_drew1 | refine below_set ?_ GE204.out) | exact HB.out)⟩
                          · rw [if_neg c29] at H
                            have c29b0 : decide ((wrap64 (t201 * t202)) ≤ (rd t205 (ji25))) = false := decide_eq_false c29
                            clear c29
                            by_cases c32 : (rd t205 (ji25)) = (wrap64 ((rd t205 x9_2) + t202))
                            · rw [if_pos c32] at H
                              have c32b0 : ((rd t205 (ji25)) == (wrap64 ((rd t205 x9_2) + t202))) = true := beq_iff_eq.mpr c32
                              have c32b1 : ((rd t205 (ji25)) != (wrap64 ((rd t205 x9_2) + t202))) = false := bne_eq_false_iff_eq.mpr c32
                              clear c32
                              by_cases c33 : 0 ≤ (rd t205 x9_2)
                              · rw [if_pos c33] at H
                                have c33b0 := eq_true c33
                                have c33b1 : decide (0 ≤ (rd t205 x9_2)) = true := decide_eq_true c33
                                clear c33
                                obtain ⟨ji34, hji34⟩ : ∃ j_ : Int, (shr .i64 x8_2 (rd t205 x9_2)) = j_ := ⟨_, rfl⟩
                                replace H : (if (Int.tmod (ji34) 2) = 1 then (some false) else (if 0 ≤ (rd t205 (ji25)) then (if (Int.tmod (shr .i64 x8_2 (rd t205 (ji25))) 2) = 1 then (some false) else (laws_FnTilingFirst.l0 k2 t205 (Go.bits .or .i64 (Go.bits .or .i64 x8_2 (shl .i64 1 (rd t205 x9_2))) (shl .i64 1 (rd t205 (ji25)))) (wrap64 (x9_2 + 2)) t201 t202 t203)) else (none))) = some r := by first | (rw [hji34] at H; exact H) | (simp only [hji34] at H ⊢; exact H)
                                have hji34_ : (x8_2 / 2 ^ min (rd t205 x9_2).toNat 64) = ji34 := hji34
                                have hji34z : (rd t205 x9_2) ≤ 64 → (x8_2 / 2 ^ (rd t205 x9_2).toNat) = ji34 := shr_small hji34
                                by_cases c35 : (Int.tmod (ji34) 2) = 1
                                · rw [if_pos c35] at H
                                  have c35b0 : ((Int.tmod (ji34) 2) == 1) = true := beq_iff_eq.mpr c35
                                  have c35b1 : ((Int.tmod (ji34) 2) != 1) = false := bne_eq_false_iff_eq.mpr c35
                                  clear c35
                                  obtain rfl := Option.some.inj H
                                  obtain ⟨Ao36, co36, eo36⟩ := Kd.R_slice HO_4.out
                                  subst eo36
                                  have p216 : 0 ≤ (x9_2 : Int) := of_decide_eq_true (by first | (with_reducible assumption) | assumption)
                                  have q216 : x9_2 < (t205.length : Int) := of_decide_eq_true (by first | (with_reducible assumption) | assumption)
                                  obtain ⟨ad216, e216, hx216_0⟩ := Kd.at_int (Kd.R_reads' HO_4.out).2.2 x9_2 p216 q216
                                  cases e216
                                  replace p216 := eq_true p216
                                  replace q216 := eq_true q216
                                  have p217 : 0 ≤ ((ji25) : Int) := of_decide_eq_true (by first | (with_reducible assumption) | assumption)
                                  have q217 : (ji25) < (t205.length : Int) := of_decide_eq_true (by first | (with_reducible assumption) | assumption)
                                  obtain ⟨ad217, e217, hx217_0⟩ := Kd.at_int (Kd.R_reads' HO_4.out).2.2 (ji25) p217 q217
                                  obtain rfl : ad216 = ad217 := (by injection e217)
                                  replace p217 := eq_true p217
                                  replace q217 := eq_true q217
                                  have hcz37_0 : wr.cell? ⟨gb204, 0, none⟩ = some (.int .i64 t201) := (blk_cell BK204.out 0).trans rfl
                                  have hcz37_1 : wr.cell? ⟨gb204, 1, none⟩ = some (.int .i64 t202) := (blk_cell BK204.out 1).trans rfl
                                  have hcz37_2 : wr.cell? ⟨gb204, 2, none⟩ = some (.int .i64 t203) := (blk_cell BK204.out 2).trans rfl
                                  have hfz37_0 := blk_frozen BK204.out 0
                                  have hfz37_1 := blk_frozen BK204.out 1
                                  have hfz37_2 := blk_frozen BK204.out 2
                                  go_wp2
                                  repeat (go_quiet (fail); try go_wp2)
                                  go_ret
                                  exact ⟨by first | rfl | (simp [errW_none, errW_some] <;> rfl) | (simp only [← hji25, ← hji34]; first | rfl | (simp [errW_none, errW_some] <;> rfl)) | (simp [*, errW_none, errW_some] <;> rfl), by repeat (first | (with_reducible first | exact HB.out | apply below_alloc | apply pw_below_drewN | apply below_drew1 | refine below_set ?_ GE204.out) | exact HB.out)⟩
                                · rw [if_neg c35] at H
                                  have c35b0 : ((Int.tmod (ji34) 2) == 1) = false := beq_eq_false_iff_ne.mpr c35
                                  have c35b1 : ((Int.tmod (ji34) 2) != 1) = true := bne_iff_ne.mpr c35
                                  by_cases c38 : 0 ≤ (rd t205 (ji25))
                                  · rw [if_pos c38] at H
                                    have c38b0 := eq_true c38
                                    have c38b1 : decide (0 ≤ (rd t205 (ji25))) = true := decide_eq_true c38
                                    clear c38
                                    obtain ⟨ji39, hji39⟩ : ∃ j_ : Int, (shr .i64 x8_2 (rd t205 (ji25))) = j_ := ⟨_, rfl⟩
                                    replace H : (if (Int.tmod (ji39) 2) = 1 then (some false) else (laws_FnTilingFirst.l0 k2 t205 (Go.bits .or .i64 (Go.bits .or .i64 x8_2 (shl .i64 1 (rd t205 x9_2))) (shl .i64 1 (rd t205 (ji25)))) (wrap64 (x9_2 + 2)) t201 t202 t203)) = some r := by first | (rw [hji39] at H; exact H) | (simp only [hji39] at H ⊢; exact H)
                                    have hji39_ : (x8_2 / 2 ^ min (rd t205 (ji25)).toNat 64) = ji39 := hji39
                                    have hji39z : (rd t205 (ji25)) ≤ 64 → (x8_2 / 2 ^ (rd t205 (ji25)).toNat) = ji39 := shr_small hji39
                                    by_cases c40 : (Int.tmod (ji39) 2) = 1
                                    · rw [if_pos c40] at H
                                      have c40b0 : ((Int.tmod (ji39) 2) == 1) = true := beq_iff_eq.mpr c40
                                      have c40b1 : ((Int.tmod (ji39) 2) != 1) = false := bne_eq_false_iff_eq.mpr c40
                                      clear c40
                                      obtain rfl := Option.some.inj H
                                      obtain ⟨Ao41, co41, eo41⟩ := Kd.R_slice HO_4.out
                                      subst eo41
                                      have p216 : 0 ≤ (x9_2 : Int) := of_decide_eq_true (by first | (with_reducible assumption) | assumption)
                                      have q216 : x9_2 < (t205.length : Int) := of_decide_eq_true (by first | (with_reducible assumption) | assumption)
                                      obtain ⟨ad216, e216, hx216_0⟩ := Kd.at_int (Kd.R_reads' HO_4.out).2.2 x9_2 p216 q216
                                      cases e216
                                      replace p216 := eq_true p216
                                      replace q216 := eq_true q216
                                      have p217 : 0 ≤ ((ji25) : Int) := of_decide_eq_true (by first | (with_reducible assumption) | assumption)
                                      have q217 : (ji25) < (t205.length : Int) := of_decide_eq_true (by first | (with_reducible assumption) | assumption)
                                      obtain ⟨ad217, e217, hx217_0⟩ := Kd.at_int (Kd.R_reads' HO_4.out).2.2 (ji25) p217 q217
                                      obtain rfl : ad216 = ad217 := (by injection e217)
                                      replace p217 := eq_true p217
                                      replace q217 := eq_true q217
                                      have hcz42_0 : wr.cell? ⟨gb204, 0, none⟩ = some (.int .i64 t201) := (blk_cell BK204.out 0).trans rfl
                                      have hcz42_1 : wr.cell? ⟨gb204, 1, none⟩ = some (.int .i64 t202) := (blk_cell BK204.out 1).trans rfl
                                      have hcz42_2 : wr.cell? ⟨gb204, 2, none⟩ = some (.int .i64 t203) := (blk_cell BK204.out 2).trans rfl
                                      have hfz42_0 := blk_frozen BK204.out 0
                                      have hfz42_1 := blk_frozen BK204.out 1
                                      have hfz42_2 := blk_frozen BK204.out 2
                                      go_wp2
                                      repeat (go_quiet (fail); try go_wp2)
                                      go_ret
                                      exact ⟨by first | rfl | (simp [errW_none, errW_some] <;> rfl) | (simp only [← hji25, ← hji34, ← hji39]; first | rfl | (simp [errW_none, errW_some] <;> rfl)) | (simp [*, errW_none, errW_some] <;> rfl), by repeat (first | (with_reducible first | exact HB.out | apply below_alloc | apply pw_below_drewN | apply below_drew1 | refine below_set ?_ GE204.out) | exact HB.out)⟩
                                    · rw [if_neg c40] at H
                                      have c40b0 : ((Int.tmod (ji39) 2) == 1) = false := beq_eq_false_iff_ne.mpr c40
                                      have c40b1 : ((Int.tmod (ji39) 2) != 1) = true := bne_iff_ne.mpr c40
                                      have c43b0 := eq_true (of_decide_eq_true (by first | (with_reducible assumption) | assumption) : 0 ≤ (rd t205 x9_2))
                                      obtain ⟨ji44, hji44⟩ : ∃ j_ : Int, (shl .i64 1 (rd t205 x9_2)) = j_ := ⟨_, rfl⟩
                                      replace H : (laws_FnTilingFirst.l0 k2 t205 (Go.bits .or .i64 (Go.bits .or .i64 x8_2 (ji44)) (shl .i64 1 (rd t205 (ji25)))) (wrap64 (x9_2 + 2)) t201 t202 t203) = some r := by first | (rw [hji44] at H; exact H) | (simp only [hji44] at H ⊢; exact H)
                                      have hji44_ : (IntKind.i64.wrap (1 * 2 ^ min (rd t205 x9_2).toNat 64)) = ji44 := hji44
                                      have hji44z : (rd t205 x9_2) ≤ 64 → (IntKind.i64.wrap (1 * 2 ^ (rd t205 x9_2).toNat)) = ji44 := shl_small hji44
                                      have hji44u : (IntKind.i64.wrap (2 ^ min (rd t205 x9_2).toNat 64)) = ji44 := by have h_ := hji44_; rw [Int.one_mul] at h_; exact h_
                                      have hji44v : (rd t205 x9_2) ≤ 64 → (IntKind.i64.wrap (2 ^ (rd t205 x9_2).toNat)) = ji44 := fun hle_ => by have h_ := hji44z hle_; rw [Int.one_mul] at h_; exact h_
                                      have hji44y : (wrap64 (1 * 2 ^ min (rd t205 x9_2).toNat 64)) = ji44 := (i64_w _).symm.trans hji44_
                                      have hji44x : (rd t205 x9_2) ≤ 64 → (wrap64 (1 * 2 ^ (rd t205 x9_2).toNat)) = ji44 := fun h_ => (i64_w _).symm.trans (hji44z h_)
                                      have c45b0 := eq_true (of_decide_eq_true (by first | (with_reducible assumption) | assumption) : 0 ≤ (rd t205 (ji25)))
                                      obtain ⟨ji46, hji46⟩ : ∃ j_ : Int, (shl .i64 1 (rd t205 (ji25))) = j_ := ⟨_, rfl⟩
                                      replace H : (laws_FnTilingFirst.l0 k2 t205 (Go.bits .or .i64 (Go.bits .or .i64 x8_2 (ji44)) (ji46)) (wrap64 (x9_2 + 2)) t201 t202 t203) = some r := by first | (rw [hji46] at H; exact H) | (simp only [hji46] at H ⊢; exact H)
                                      have hji46_ : (IntKind.i64.wrap (1 * 2 ^ min (rd t205 (ji25)).toNat 64)) = ji46 := hji46
                                      have hji46z : (rd t205 (ji25)) ≤ 64 → (IntKind.i64.wrap (1 * 2 ^ (rd t205 (ji25)).toNat)) = ji46 := shl_small hji46
                                      have hji46u : (IntKind.i64.wrap (2 ^ min (rd t205 (ji25)).toNat 64)) = ji46 := by have h_ := hji46_; rw [Int.one_mul] at h_; exact h_
                                      have hji46v : (rd t205 (ji25)) ≤ 64 → (IntKind.i64.wrap (2 ^ (rd t205 (ji25)).toNat)) = ji46 := fun hle_ => by have h_ := hji46z hle_; rw [Int.one_mul] at h_; exact h_
                                      have hji46y : (wrap64 (1 * 2 ^ min (rd t205 (ji25)).toNat 64)) = ji46 := (i64_w _).symm.trans hji46_
                                      have hji46x : (rd t205 (ji25)) ≤ 64 → (wrap64 (1 * 2 ^ (rd t205 (ji25)).toNat)) = ji46 := fun h_ => (i64_w _).symm.trans (hji46z h_)
                                      have H' := Aside0.mk H
                                      clear H
                                      obtain ⟨Ao47, co47, eo47⟩ := Kd.R_slice HO_4.out
                                      subst eo47
                                      have p216 : 0 ≤ (x9_2 : Int) := of_decide_eq_true (by first | (with_reducible assumption) | assumption)
                                      have q216 : x9_2 < (t205.length : Int) := of_decide_eq_true (by first | (with_reducible assumption) | assumption)
                                      obtain ⟨ad216, e216, hx216_0⟩ := Kd.at_int (Kd.R_reads' HO_4.out).2.2 x9_2 p216 q216
                                      cases e216
                                      replace p216 := eq_true p216
                                      replace q216 := eq_true q216
                                      have p217 : 0 ≤ ((ji25) : Int) := of_decide_eq_true (by first | (with_reducible assumption) | assumption)
                                      have q217 : (ji25) < (t205.length : Int) := of_decide_eq_true (by first | (with_reducible assumption) | assumption)
                                      obtain ⟨ad217, e217, hx217_0⟩ := Kd.at_int (Kd.R_reads' HO_4.out).2.2 (ji25) p217 q217
                                      obtain rfl : ad216 = ad217 := (by injection e217)
                                      replace p217 := eq_true p217
                                      replace q217 := eq_true q217
                                      have hcz48_0 : wr.cell? ⟨gb204, 0, none⟩ = some (.int .i64 t201) := (blk_cell BK204.out 0).trans rfl
                                      have hcz48_1 : wr.cell? ⟨gb204, 1, none⟩ = some (.int .i64 t202) := (blk_cell BK204.out 1).trans rfl
                                      have hcz48_2 : wr.cell? ⟨gb204, 2, none⟩ = some (.int .i64 t203) := (blk_cell BK204.out 2).trans rfl
                                      have hfz48_0 := blk_frozen BK204.out 0
                                      have hfz48_1 := blk_frozen BK204.out 1
                                      have hfz48_2 := blk_frozen BK204.out 2
                                      go_wp2
                                      repeat (go_quiet (fail); try go_wp2)
                                      go_roundg k2
                                      case measure => have := HJ5.out; have := HK2.out; omega
                                      case rel => exact ⟨(Go.bits .or .i64 (Go.bits .or .i64 x8_2 (ji44)) (ji46)), (wrap64 (x9_2 + 2)), (by first | rfl | (simp; done) | (simp only [← hji44, ← hji46] <;> (first | rfl | simp)) | (simp [*]; done)), (by first | rfl | (simp; done) | (simp [*]; done)), H', ⟨by have := HJ5.out; have := HK2.out; omega⟩, ⟨by (with_reducible repeat (first | apply Kd.R_alloc | apply Kd.R_drewN | apply Kd.R_drew)); exact HO_4.out⟩, ⟨by (with_reducible repeat (first | refine blk_drewN ?_ _ | refine blk_drew ?_ | refine blk_alloc ?_ _)); exact BK204.out⟩, ⟨by repeat (first | (with_reducible first | exact HB.out | apply below_alloc | apply pw_below_drewN | apply below_drew1 | refine below_set ?_ GE204.out) | exact HB.out)⟩⟩
                                  · rw [if_neg c38] at H
                                    exact absurd H (by simp)
                              · rw [if_neg c33] at H
                                exact absurd H (by simp)
                            · rw [if_neg c32] at H
                              have c32b0 : ((rd t205 (ji25)) == (wrap64 ((rd t205 x9_2) + t202))) = false := beq_eq_false_iff_ne.mpr c32
                              have c32b1 : ((rd t205 (ji25)) != (wrap64 ((rd t205 x9_2) + t202))) = true := bne_iff_ne.mpr c32
                              by_cases c49 : (rd t205 (ji25)) = (wrap64 ((rd t205 x9_2) + 1))
                              · rw [if_pos c49] at H
                                have c49b0 : ((rd t205 (ji25)) == (wrap64 ((rd t205 x9_2) + 1))) = true := beq_iff_eq.mpr c49
                                have c49b1 : ((rd t205 (ji25)) != (wrap64 ((rd t205 x9_2) + 1))) = false := bne_eq_false_iff_eq.mpr c49
                                clear c49
                                by_cases c50 : t202 = 0
                                · rw [if_pos c50] at H
                                  exact absurd H (by simp)
                                · rw [if_neg c50] at H
                                  have c50b0 : (t202 == 0) = false := beq_eq_false_iff_ne.mpr c50
                                  have c50b1 : (t202 != 0) = true := bne_iff_ne.mpr c50
                                  by_cases c51 : (Int.tmod (rd t205 (ji25)) t202) = 0
                                  · rw [if_pos c51] at H
                                    have c51b0 : ((Int.tmod (rd t205 (ji25)) t202) == 0) = true := beq_iff_eq.mpr c51
                                    have c51b1 : ((Int.tmod (rd t205 (ji25)) t202) != 0) = false := bne_eq_false_iff_eq.mpr c51
                                    clear c51
                                    obtain rfl := Option.some.inj H
                                    obtain ⟨Ao52, co52, eo52⟩ := Kd.R_slice HO_4.out
                                    subst eo52
                                    have p216 : 0 ≤ (x9_2 : Int) := of_decide_eq_true (by first | (with_reducible assumption) | assumption)
                                    have q216 : x9_2 < (t205.length : Int) := of_decide_eq_true (by first | (with_reducible assumption) | assumption)
                                    obtain ⟨ad216, e216, hx216_0⟩ := Kd.at_int (Kd.R_reads' HO_4.out).2.2 x9_2 p216 q216
                                    cases e216
                                    replace p216 := eq_true p216
                                    replace q216 := eq_true q216
                                    have p217 : 0 ≤ ((ji25) : Int) := of_decide_eq_true (by first | (with_reducible assumption) | assumption)
                                    have q217 : (ji25) < (t205.length : Int) := of_decide_eq_true (by first | (with_reducible assumption) | assumption)
                                    obtain ⟨ad217, e217, hx217_0⟩ := Kd.at_int (Kd.R_reads' HO_4.out).2.2 (ji25) p217 q217
                                    obtain rfl : ad216 = ad217 := (by injection e217)
                                    replace p217 := eq_true p217
                                    replace q217 := eq_true q217
                                    have hcz53_0 : wr.cell? ⟨gb204, 0, none⟩ = some (.int .i64 t201) := (blk_cell BK204.out 0).trans rfl
                                    have hcz53_1 : wr.cell? ⟨gb204, 1, none⟩ = some (.int .i64 t202) := (blk_cell BK204.out 1).trans rfl
                                    have hcz53_2 : wr.cell? ⟨gb204, 2, none⟩ = some (.int .i64 t203) := (blk_cell BK204.out 2).trans rfl
                                    have hfz53_0 := blk_frozen BK204.out 0
                                    have hfz53_1 := blk_frozen BK204.out 1
                                    have hfz53_2 := blk_frozen BK204.out 2
                                    go_wp2
                                    repeat (go_quiet (fail); try go_wp2)
                                    go_ret
                                    exact ⟨by first | rfl | (simp [errW_none, errW_some] <;> rfl) | (simp only [← hji25]; first | rfl | (simp [errW_none, errW_some] <;> rfl)) | (simp [*, errW_none, errW_some] <;> rfl), by repeat (first | (with_reducible first | exact HB.out | apply below_alloc | apply pw_below_drewN | apply below_drew1 | refine below_set ?_ GE204.out) | exact HB.out)⟩
                                  · rw [if_neg c51] at H
                                    have c51b0 : ((Int.tmod (rd t205 (ji25)) t202) == 0) = false := beq_eq_false_iff_ne.mpr c51
                                    have c51b1 : ((Int.tmod (rd t205 (ji25)) t202) != 0) = true := bne_iff_ne.mpr c51
                                    by_cases c54 : 0 ≤ (rd t205 x9_2)
                                    · rw [if_pos c54] at H
                                      have c54b0 := eq_true c54
                                      have c54b1 : decide (0 ≤ (rd t205 x9_2)) = true := decide_eq_true c54
                                      clear c54
                                      obtain ⟨ji55, hji55⟩ : ∃ j_ : Int, (shr .i64 x8_2 (rd t205 x9_2)) = j_ := ⟨_, rfl⟩
                                      replace H : (if (Int.tmod (ji55) 2) = 1 then (some false) else (if 0 ≤ (rd t205 (ji25)) then (if (Int.tmod (shr .i64 x8_2 (rd t205 (ji25))) 2) = 1 then (some false) else (laws_FnTilingFirst.l0 k2 t205 (Go.bits .or .i64 (Go.bits .or .i64 x8_2 (shl .i64 1 (rd t205 x9_2))) (shl .i64 1 (rd t205 (ji25)))) (wrap64 (x9_2 + 2)) t201 t202 t203)) else (none))) = some r := by first | (rw [hji55] at H; exact H) | (simp only [hji55] at H ⊢; exact H)
                                      have hji55_ : (x8_2 / 2 ^ min (rd t205 x9_2).toNat 64) = ji55 := hji55
                                      have hji55z : (rd t205 x9_2) ≤ 64 → (x8_2 / 2 ^ (rd t205 x9_2).toNat) = ji55 := shr_small hji55
                                      by_cases c56 : (Int.tmod (ji55) 2) = 1
                                      · rw [if_pos c56] at H
                                        have c56b0 : ((Int.tmod (ji55) 2) == 1) = true := beq_iff_eq.mpr c56
                                        have c56b1 : ((Int.tmod (ji55) 2) != 1) = false := bne_eq_false_iff_eq.mpr c56
                                        clear c56
                                        obtain rfl := Option.some.inj H
                                        obtain ⟨Ao57, co57, eo57⟩ := Kd.R_slice HO_4.out
                                        subst eo57
                                        have p216 : 0 ≤ (x9_2 : Int) := of_decide_eq_true (by first | (with_reducible assumption) | assumption)
                                        have q216 : x9_2 < (t205.length : Int) := of_decide_eq_true (by first | (with_reducible assumption) | assumption)
                                        obtain ⟨ad216, e216, hx216_0⟩ := Kd.at_int (Kd.R_reads' HO_4.out).2.2 x9_2 p216 q216
                                        cases e216
                                        replace p216 := eq_true p216
                                        replace q216 := eq_true q216
                                        have p217 : 0 ≤ ((ji25) : Int) := of_decide_eq_true (by first | (with_reducible assumption) | assumption)
                                        have q217 : (ji25) < (t205.length : Int) := of_decide_eq_true (by first | (with_reducible assumption) | assumption)
                                        obtain ⟨ad217, e217, hx217_0⟩ := Kd.at_int (Kd.R_reads' HO_4.out).2.2 (ji25) p217 q217
                                        obtain rfl : ad216 = ad217 := (by injection e217)
                                        replace p217 := eq_true p217
                                        replace q217 := eq_true q217
                                        have hcz58_0 : wr.cell? ⟨gb204, 0, none⟩ = some (.int .i64 t201) := (blk_cell BK204.out 0).trans rfl
                                        have hcz58_1 : wr.cell? ⟨gb204, 1, none⟩ = some (.int .i64 t202) := (blk_cell BK204.out 1).trans rfl
                                        have hcz58_2 : wr.cell? ⟨gb204, 2, none⟩ = some (.int .i64 t203) := (blk_cell BK204.out 2).trans rfl
                                        have hfz58_0 := blk_frozen BK204.out 0
                                        have hfz58_1 := blk_frozen BK204.out 1
                                        have hfz58_2 := blk_frozen BK204.out 2
                                        go_wp2
                                        repeat (go_quiet (fail); try go_wp2)
                                        go_ret
                                        exact ⟨by first | rfl | (simp [errW_none, errW_some] <;> rfl) | (simp only [← hji25, ← hji55]; first | rfl | (simp [errW_none, errW_some] <;> rfl)) | (simp [*, errW_none, errW_some] <;> rfl), by repeat (first | (with_reducible first | exact HB.out | apply below_alloc | apply pw_below_drewN | apply below_drew1 | refine below_set ?_ GE204.out) | exact HB.out)⟩
                                      · rw [if_neg c56] at H
                                        have c56b0 : ((Int.tmod (ji55) 2) == 1) = false := beq_eq_false_iff_ne.mpr c56
                                        have c56b1 : ((Int.tmod (ji55) 2) != 1) = true := bne_iff_ne.mpr c56
                                        by_cases c59 : 0 ≤ (rd t205 (ji25))
                                        · rw [if_pos c59] at H
                                          have c59b0 := eq_true c59
                                          have c59b1 : decide (0 ≤ (rd t205 (ji25))) = true := decide_eq_true c59
                                          clear c59
                                          obtain ⟨ji60, hji60⟩ : ∃ j_ : Int, (shr .i64 x8_2 (rd t205 (ji25))) = j_ := ⟨_, rfl⟩
                                          replace H : (if (Int.tmod (ji60) 2) = 1 then (some false) else (laws_FnTilingFirst.l0 k2 t205 (Go.bits .or .i64 (Go.bits .or .i64 x8_2 (shl .i64 1 (rd t205 x9_2))) (shl .i64 1 (rd t205 (ji25)))) (wrap64 (x9_2 + 2)) t201 t202 t203)) = some r := by first | (rw [hji60] at H; exact H) | (simp only [hji60] at H ⊢; exact H)
                                          have hji60_ : (x8_2 / 2 ^ min (rd t205 (ji25)).toNat 64) = ji60 := hji60
                                          have hji60z : (rd t205 (ji25)) ≤ 64 → (x8_2 / 2 ^ (rd t205 (ji25)).toNat) = ji60 := shr_small hji60
                                          by_cases c61 : (Int.tmod (ji60) 2) = 1
                                          · rw [if_pos c61] at H
                                            have c61b0 : ((Int.tmod (ji60) 2) == 1) = true := beq_iff_eq.mpr c61
                                            have c61b1 : ((Int.tmod (ji60) 2) != 1) = false := bne_eq_false_iff_eq.mpr c61
                                            clear c61
                                            obtain rfl := Option.some.inj H
                                            obtain ⟨Ao62, co62, eo62⟩ := Kd.R_slice HO_4.out
                                            subst eo62
                                            have p216 : 0 ≤ (x9_2 : Int) := of_decide_eq_true (by first | (with_reducible assumption) | assumption)
                                            have q216 : x9_2 < (t205.length : Int) := of_decide_eq_true (by first | (with_reducible assumption) | assumption)
                                            obtain ⟨ad216, e216, hx216_0⟩ := Kd.at_int (Kd.R_reads' HO_4.out).2.2 x9_2 p216 q216
                                            cases e216
                                            replace p216 := eq_true p216
                                            replace q216 := eq_true q216
                                            have p217 : 0 ≤ ((ji25) : Int) := of_decide_eq_true (by first | (with_reducible assumption) | assumption)
                                            have q217 : (ji25) < (t205.length : Int) := of_decide_eq_true (by first | (with_reducible assumption) | assumption)
                                            obtain ⟨ad217, e217, hx217_0⟩ := Kd.at_int (Kd.R_reads' HO_4.out).2.2 (ji25) p217 q217
                                            obtain rfl : ad216 = ad217 := (by injection e217)
                                            replace p217 := eq_true p217
                                            replace q217 := eq_true q217
                                            have hcz63_0 : wr.cell? ⟨gb204, 0, none⟩ = some (.int .i64 t201) := (blk_cell BK204.out 0).trans rfl
                                            have hcz63_1 : wr.cell? ⟨gb204, 1, none⟩ = some (.int .i64 t202) := (blk_cell BK204.out 1).trans rfl
                                            have hcz63_2 : wr.cell? ⟨gb204, 2, none⟩ = some (.int .i64 t203) := (blk_cell BK204.out 2).trans rfl
                                            have hfz63_0 := blk_frozen BK204.out 0
                                            have hfz63_1 := blk_frozen BK204.out 1
                                            have hfz63_2 := blk_frozen BK204.out 2
                                            go_wp2
                                            repeat (go_quiet (fail); try go_wp2)
                                            go_ret
                                            exact ⟨by first | rfl | (simp [errW_none, errW_some] <;> rfl) | (simp only [← hji25, ← hji55, ← hji60]; first | rfl | (simp [errW_none, errW_some] <;> rfl)) | (simp [*, errW_none, errW_some] <;> rfl), by repeat (first | (with_reducible first | exact HB.out | apply below_alloc | apply pw_below_drewN | apply below_drew1 | refine below_set ?_ GE204.out) | exact HB.out)⟩
                                          · rw [if_neg c61] at H
                                            have c61b0 : ((Int.tmod (ji60) 2) == 1) = false := beq_eq_false_iff_ne.mpr c61
                                            have c61b1 : ((Int.tmod (ji60) 2) != 1) = true := bne_iff_ne.mpr c61
                                            have c64b0 := eq_true (of_decide_eq_true (by first | (with_reducible assumption) | assumption) : 0 ≤ (rd t205 x9_2))
                                            obtain ⟨ji65, hji65⟩ : ∃ j_ : Int, (shl .i64 1 (rd t205 x9_2)) = j_ := ⟨_, rfl⟩
                                            replace H : (laws_FnTilingFirst.l0 k2 t205 (Go.bits .or .i64 (Go.bits .or .i64 x8_2 (ji65)) (shl .i64 1 (rd t205 (ji25)))) (wrap64 (x9_2 + 2)) t201 t202 t203) = some r := by first | (rw [hji65] at H; exact H) | (simp only [hji65] at H ⊢; exact H)
                                            have hji65_ : (IntKind.i64.wrap (1 * 2 ^ min (rd t205 x9_2).toNat 64)) = ji65 := hji65
                                            have hji65z : (rd t205 x9_2) ≤ 64 → (IntKind.i64.wrap (1 * 2 ^ (rd t205 x9_2).toNat)) = ji65 := shl_small hji65
                                            have hji65u : (IntKind.i64.wrap (2 ^ min (rd t205 x9_2).toNat 64)) = ji65 := by have h_ := hji65_; rw [Int.one_mul] at h_; exact h_
                                            have hji65v : (rd t205 x9_2) ≤ 64 → (IntKind.i64.wrap (2 ^ (rd t205 x9_2).toNat)) = ji65 := fun hle_ => by have h_ := hji65z hle_; rw [Int.one_mul] at h_; exact h_
                                            have hji65y : (wrap64 (1 * 2 ^ min (rd t205 x9_2).toNat 64)) = ji65 := (i64_w _).symm.trans hji65_
                                            have hji65x : (rd t205 x9_2) ≤ 64 → (wrap64 (1 * 2 ^ (rd t205 x9_2).toNat)) = ji65 := fun h_ => (i64_w _).symm.trans (hji65z h_)
                                            have c66b0 := eq_true (of_decide_eq_true (by first | (with_reducible assumption) | assumption) : 0 ≤ (rd t205 (ji25)))
                                            obtain ⟨ji67, hji67⟩ : ∃ j_ : Int, (shl .i64 1 (rd t205 (ji25))) = j_ := ⟨_, rfl⟩
                                            replace H : (laws_FnTilingFirst.l0 k2 t205 (Go.bits .or .i64 (Go.bits .or .i64 x8_2 (ji65)) (ji67)) (wrap64 (x9_2 + 2)) t201 t202 t203) = some r := by first | (rw [hji67] at H; exact H) | (simp only [hji67] at H ⊢; exact H)
                                            have hji67_ : (IntKind.i64.wrap (1 * 2 ^ min (rd t205 (ji25)).toNat 64)) = ji67 := hji67
                                            have hji67z : (rd t205 (ji25)) ≤ 64 → (IntKind.i64.wrap (1 * 2 ^ (rd t205 (ji25)).toNat)) = ji67 := shl_small hji67
                                            have hji67u : (IntKind.i64.wrap (2 ^ min (rd t205 (ji25)).toNat 64)) = ji67 := by have h_ := hji67_; rw [Int.one_mul] at h_; exact h_
                                            have hji67v : (rd t205 (ji25)) ≤ 64 → (IntKind.i64.wrap (2 ^ (rd t205 (ji25)).toNat)) = ji67 := fun hle_ => by have h_ := hji67z hle_; rw [Int.one_mul] at h_; exact h_
                                            have hji67y : (wrap64 (1 * 2 ^ min (rd t205 (ji25)).toNat 64)) = ji67 := (i64_w _).symm.trans hji67_
                                            have hji67x : (rd t205 (ji25)) ≤ 64 → (wrap64 (1 * 2 ^ (rd t205 (ji25)).toNat)) = ji67 := fun h_ => (i64_w _).symm.trans (hji67z h_)
                                            have H' := Aside0.mk H
                                            clear H
                                            obtain ⟨Ao68, co68, eo68⟩ := Kd.R_slice HO_4.out
                                            subst eo68
                                            have p216 : 0 ≤ (x9_2 : Int) := of_decide_eq_true (by first | (with_reducible assumption) | assumption)
                                            have q216 : x9_2 < (t205.length : Int) := of_decide_eq_true (by first | (with_reducible assumption) | assumption)
                                            obtain ⟨ad216, e216, hx216_0⟩ := Kd.at_int (Kd.R_reads' HO_4.out).2.2 x9_2 p216 q216
                                            cases e216
                                            replace p216 := eq_true p216
                                            replace q216 := eq_true q216
                                            have p217 : 0 ≤ ((ji25) : Int) := of_decide_eq_true (by first | (with_reducible assumption) | assumption)
                                            have q217 : (ji25) < (t205.length : Int) := of_decide_eq_true (by first | (with_reducible assumption) | assumption)
                                            obtain ⟨ad217, e217, hx217_0⟩ := Kd.at_int (Kd.R_reads' HO_4.out).2.2 (ji25) p217 q217
                                            obtain rfl : ad216 = ad217 := (by injection e217)
                                            replace p217 := eq_true p217
                                            replace q217 := eq_true q217
                                            have hcz69_0 : wr.cell? ⟨gb204, 0, none⟩ = some (.int .i64 t201) := (blk_cell BK204.out 0).trans rfl
                                            have hcz69_1 : wr.cell? ⟨gb204, 1, none⟩ = some (.int .i64 t202) := (blk_cell BK204.out 1).trans rfl
                                            have hcz69_2 : wr.cell? ⟨gb204, 2, none⟩ = some (.int .i64 t203) := (blk_cell BK204.out 2).trans rfl
                                            have hfz69_0 := blk_frozen BK204.out 0
                                            have hfz69_1 := blk_frozen BK204.out 1
                                            have hfz69_2 := blk_frozen BK204.out 2
                                            go_wp2
                                            repeat (go_quiet (fail); try go_wp2)
                                            go_roundg k2
                                            case measure => have := HJ5.out; have := HK2.out; omega
                                            case rel => exact ⟨(Go.bits .or .i64 (Go.bits .or .i64 x8_2 (ji65)) (ji67)), (wrap64 (x9_2 + 2)), (by first | rfl | (simp; done) | (simp only [← hji65, ← hji67] <;> (first | rfl | simp)) | (simp [*]; done)), (by first | rfl | (simp; done) | (simp [*]; done)), H', ⟨by have := HJ5.out; have := HK2.out; omega⟩, ⟨by (with_reducible repeat (first | apply Kd.R_alloc | apply Kd.R_drewN | apply Kd.R_drew)); exact HO_4.out⟩, ⟨by (with_reducible repeat (first | refine blk_drewN ?_ _ | refine blk_drew ?_ | refine blk_alloc ?_ _)); exact BK204.out⟩, ⟨by repeat (first | (with_reducible first | exact HB.out | apply below_alloc | apply pw_below_drewN | apply below_drew1 | refine below_set ?_ GE204.out) | exact HB.out)⟩⟩
                                        · rw [if_neg c59] at H
                                          exact absurd H (by simp)
                                    · rw [if_neg c54] at H
                                      exact absurd H (by simp)
                              · rw [if_neg c49] at H
                                have c49b0 : ((rd t205 (ji25)) == (wrap64 ((rd t205 x9_2) + 1))) = false := beq_eq_false_iff_ne.mpr c49
                                have c49b1 : ((rd t205 (ji25)) != (wrap64 ((rd t205 x9_2) + 1))) = true := bne_iff_ne.mpr c49
                                obtain rfl := Option.some.inj H
                                obtain ⟨Ao70, co70, eo70⟩ := Kd.R_slice HO_4.out
                                subst eo70
                                have p216 : 0 ≤ (x9_2 : Int) := of_decide_eq_true (by first | (with_reducible assumption) | assumption)
                                have q216 : x9_2 < (t205.length : Int) := of_decide_eq_true (by first | (with_reducible assumption) | assumption)
                                obtain ⟨ad216, e216, hx216_0⟩ := Kd.at_int (Kd.R_reads' HO_4.out).2.2 x9_2 p216 q216
                                cases e216
                                replace p216 := eq_true p216
                                replace q216 := eq_true q216
                                have p217 : 0 ≤ ((ji25) : Int) := of_decide_eq_true (by first | (with_reducible assumption) | assumption)
                                have q217 : (ji25) < (t205.length : Int) := of_decide_eq_true (by first | (with_reducible assumption) | assumption)
                                obtain ⟨ad217, e217, hx217_0⟩ := Kd.at_int (Kd.R_reads' HO_4.out).2.2 (ji25) p217 q217
                                obtain rfl : ad216 = ad217 := (by injection e217)
                                replace p217 := eq_true p217
                                replace q217 := eq_true q217
                                have hcz71_0 : wr.cell? ⟨gb204, 0, none⟩ = some (.int .i64 t201) := (blk_cell BK204.out 0).trans rfl
                                have hcz71_1 : wr.cell? ⟨gb204, 1, none⟩ = some (.int .i64 t202) := (blk_cell BK204.out 1).trans rfl
                                have hcz71_2 : wr.cell? ⟨gb204, 2, none⟩ = some (.int .i64 t203) := (blk_cell BK204.out 2).trans rfl
                                have hfz71_0 := blk_frozen BK204.out 0
                                have hfz71_1 := blk_frozen BK204.out 1
                                have hfz71_2 := blk_frozen BK204.out 2
                                go_wp2
                                repeat (go_quiet (fail); try go_wp2)
                                go_ret
                                exact ⟨by first | rfl | (simp [errW_none, errW_some] <;> rfl) | (simp only [← hji25]; first | rfl | (simp [errW_none, errW_some] <;> rfl)) | (simp [*, errW_none, errW_some] <;> rfl), by repeat (first | (with_reducible first | exact HB.out | apply below_alloc | apply pw_below_drewN | apply below_drew1 | refine below_set ?_ GE204.out) | exact HB.out)⟩
                      · rw [if_neg c26] at H
                        exact absurd H (by simp)
                    · rw [if_neg c24] at H
                      exact absurd H (by simp)
                  · rw [if_neg c23] at H
                    exact absurd H (by simp)
                · rw [if_neg c22] at H
                  have c22b0 : decide ((wrap64 (x9_2 + 1)) < (t205.length : Int)) = false := decide_eq_false c22
                  clear c22
                  obtain ⟨ji72, hji72⟩ : ∃ j_ : Int, (wrap64 (t201 * t202)) = j_ := ⟨_, rfl⟩
                  replace H : (if 0 ≤ (ji72) then (if x8_2 = (wrap64 ((shl .i64 1 (ji72)) - 1)) then ((impl_BoardFree.f t201 t202 t203).bind fun t218 => (some ((t205.length : Int) == t218))) else (some false)) else (none)) = some r := by first | (rw [hji72] at H; exact H) | (simp only [hji72] at H ⊢; exact H)
                  have hji72w : (IntKind.i64.wrap (t201 * t202)) = ji72 := (i64_w _).trans hji72
                  by_cases c73 : 0 ≤ (ji72)
                  · rw [if_pos c73] at H
                    have c73b0 := eq_true c73
                    have c73b1 : decide (0 ≤ (ji72)) = true := decide_eq_true c73
                    clear c73
                    obtain ⟨ji74, hji74⟩ : ∃ j_ : Int, (shl .i64 1 (ji72)) = j_ := ⟨_, rfl⟩
                    replace H : (if x8_2 = (wrap64 ((ji74) - 1)) then ((impl_BoardFree.f t201 t202 t203).bind fun t218 => (some ((t205.length : Int) == t218))) else (some false)) = some r := by first | (rw [hji74] at H; exact H) | (simp only [hji74] at H ⊢; exact H)
                    have hji74_ : (IntKind.i64.wrap (1 * 2 ^ min (ji72).toNat 64)) = ji74 := hji74
                    have hji74z : (ji72) ≤ 64 → (IntKind.i64.wrap (1 * 2 ^ (ji72).toNat)) = ji74 := shl_small hji74
                    have hji74u : (IntKind.i64.wrap (2 ^ min (ji72).toNat 64)) = ji74 := by have h_ := hji74_; rw [Int.one_mul] at h_; exact h_
                    have hji74v : (ji72) ≤ 64 → (IntKind.i64.wrap (2 ^ (ji72).toNat)) = ji74 := fun hle_ => by have h_ := hji74z hle_; rw [Int.one_mul] at h_; exact h_
                    have hji74y : (wrap64 (1 * 2 ^ min (ji72).toNat 64)) = ji74 := (i64_w _).symm.trans hji74_
                    have hji74x : (ji72) ≤ 64 → (wrap64 (1 * 2 ^ (ji72).toNat)) = ji74 := fun h_ => (i64_w _).symm.trans (hji74z h_)
                    by_cases c75 : x8_2 = (wrap64 ((ji74) - 1))
                    · rw [if_pos c75] at H
                      have c75b0 : (x8_2 == (wrap64 ((ji74) - 1))) = true := beq_iff_eq.mpr c75
                      have c75b1 : (x8_2 != (wrap64 ((ji74) - 1))) = false := bne_eq_false_iff_eq.mpr c75
                      clear c75
                      replace H := Option.bind_eq_some_iff.mp H
                      obtain ⟨t218, A760, H⟩ := H
                      replace H : (some ((t205.length : Int) == t218)) = some r := H
                      have A76 := Aside0.mk A760
                      clear A760
                      obtain rfl := Option.some.inj H
                      obtain ⟨Ao77, co77, eo77⟩ := Kd.R_slice HO_4.out
                      subst eo77
                      have hcz78_0 : wr.cell? ⟨gb204, 0, none⟩ = some (.int .i64 t201) := (blk_cell BK204.out 0).trans rfl
                      have hcz78_1 : wr.cell? ⟨gb204, 1, none⟩ = some (.int .i64 t202) := (blk_cell BK204.out 1).trans rfl
                      have hcz78_2 : wr.cell? ⟨gb204, 2, none⟩ = some (.int .i64 t203) := (blk_cell BK204.out 2).trans rfl
                      have hfz78_0 := blk_frozen BK204.out 0
                      have hfz78_1 := blk_frozen BK204.out 1
                      have hfz78_2 := blk_frozen BK204.out 2
                      go_wp2_with (first | (go_at_call 22; (with_reducible refine (impl_BoardFree.calls t201 t202 t203 t218 _ A76.out).mono ?_); rintro e w79 ⟨rfl, hb⟩; have n0_ := Aside0.mk (Kd.R_below (by (with_reducible repeat (first | apply Kd.R_alloc | apply Kd.R_drewN | apply Kd.R_drew)); exact HO_4.out) hb); have n1_ := Aside0.mk (blk_below (g := gb204) (o := .cells #[.int .i64 t201, .int .i64 t202, .int .i64 t203] 25 (0, 0)) (by (with_reducible repeat (first | refine blk_drewN ?_ _ | refine blk_drew ?_ | refine blk_alloc ?_ _)); exact BK204.out) hb); have n2_ := Aside0.mk (below_step (by repeat (first | (with_reducible first | exact HB.out | apply below_alloc | apply pw_below_drewN | apply below_drew1 | refine below_set ?_ GE204.out) | exact HB.out)) hb); clear HO_4; clear BK204; clear HB; have HO_4 := n0_; have BK204 := n1_; have HB := n2_; clear n0_ n1_ n2_; (try clear hb); (try clear hb2); (try clear hk); (try clear hi)))
                      repeat (go_quiet (first | (go_at_call 22; (with_reducible refine (impl_BoardFree.calls t201 t202 t203 t218 _ A76.out).mono ?_); rintro e w79 ⟨rfl, hb⟩; have n0_ := Aside0.mk (Kd.R_below (by (with_reducible repeat (first | apply Kd.R_alloc | apply Kd.R_drewN | apply Kd.R_drew)); exact HO_4.out) hb); have n1_ := Aside0.mk (blk_below (g := gb204) (o := .cells #[.int .i64 t201, .int .i64 t202, .int .i64 t203] 25 (0, 0)) (by (with_reducible repeat (first | refine blk_drewN ?_ _ | refine blk_drew ?_ | refine blk_alloc ?_ _)); exact BK204.out) hb); have n2_ := Aside0.mk (below_step (by repeat (first | (with_reducible first | exact HB.out | apply below_alloc | apply pw_below_drewN | apply below_drew1 | refine below_set ?_ GE204.out) | exact HB.out)) hb); clear HO_4; clear BK204; clear HB; have HO_4 := n0_; have BK204 := n1_; have HB := n2_; clear n0_ n1_ n2_; (try clear hb); (try clear hb2); (try clear hk); (try clear hi))); try go_wp2_with (first | (go_at_call 22; (with_reducible refine (impl_BoardFree.calls t201 t202 t203 t218 _ A76.out).mono ?_); rintro e w79 ⟨rfl, hb⟩; have n0_ := Aside0.mk (Kd.R_below (by (with_reducible repeat (first | apply Kd.R_alloc | apply Kd.R_drewN | apply Kd.R_drew)); exact HO_4.out) hb); have n1_ := Aside0.mk (blk_below (g := gb204) (o := .cells #[.int .i64 t201, .int .i64 t202, .int .i64 t203] 25 (0, 0)) (by (with_reducible repeat (first | refine blk_drewN ?_ _ | refine blk_drew ?_ | refine blk_alloc ?_ _)); exact BK204.out) hb); have n2_ := Aside0.mk (below_step (by repeat (first | (with_reducible first | exact HB.out | apply below_alloc | apply pw_below_drewN | apply below_drew1 | refine below_set ?_ GE204.out) | exact HB.out)) hb); clear HO_4; clear BK204; clear HB; have HO_4 := n0_; have BK204 := n1_; have HB := n2_; clear n0_ n1_ n2_; (try clear hb); (try clear hb2); (try clear hk); (try clear hi))))
                      go_ret
                      exact ⟨by first | rfl | (simp [errW_none, errW_some] <;> rfl) | (simp only [← hji72, ← hji74]; first | rfl | (simp [errW_none, errW_some] <;> rfl)) | (simp [*, errW_none, errW_some] <;> rfl), by repeat (first | (with_reducible first | exact HB.out | apply below_alloc | apply pw_below_drewN | apply below_drew1 | refine below_set ?_ GE204.out) | exact HB.out)⟩
                    · rw [if_neg c75] at H
                      have c75b0 : (x8_2 == (wrap64 ((ji74) - 1))) = false := beq_eq_false_iff_ne.mpr c75
                      have c75b1 : (x8_2 != (wrap64 ((ji74) - 1))) = true := bne_iff_ne.mpr c75
                      obtain rfl := Option.some.inj H
                      obtain ⟨Ao80, co80, eo80⟩ := Kd.R_slice HO_4.out
                      subst eo80
                      have hcz81_0 : wr.cell? ⟨gb204, 0, none⟩ = some (.int .i64 t201) := (blk_cell BK204.out 0).trans rfl
                      have hcz81_1 : wr.cell? ⟨gb204, 1, none⟩ = some (.int .i64 t202) := (blk_cell BK204.out 1).trans rfl
                      have hcz81_2 : wr.cell? ⟨gb204, 2, none⟩ = some (.int .i64 t203) := (blk_cell BK204.out 2).trans rfl
                      have hfz81_0 := blk_frozen BK204.out 0
                      have hfz81_1 := blk_frozen BK204.out 1
                      have hfz81_2 := blk_frozen BK204.out 2
                      go_wp2
                      repeat (go_quiet (fail); try go_wp2)
                      go_ret
                      exact ⟨by first | rfl | (simp [errW_none, errW_some] <;> rfl) | (simp only [← hji72, ← hji74]; first | rfl | (simp [errW_none, errW_some] <;> rfl)) | (simp [*, errW_none, errW_some] <;> rfl), by repeat (first | (with_reducible first | exact HB.out | apply below_alloc | apply pw_below_drewN | apply below_drew1 | refine below_set ?_ GE204.out) | exact HB.out)⟩
                  · rw [if_neg c73] at H
                    exact absurd H (by simp)
          · replace c20 := Bool.eq_false_iff.mpr c20
            subst c20
            have H1 : (if (t205.length : Int) = 0 then ((impl_TilingCount.f kj5 t201 t202 t203).bind fun t214 => (if t214 < 1 then ((laws_alive.f kj5).bind fun t215 => (some t215)) else (some false))) else (some false)) = some r := by rw [if_neg (show ¬ (false = true) by decide)] at H; exact H
            clear H
            have H := H1
            clear H1
            by_cases c82 : (t205.length : Int) = 0
            · rw [if_pos c82] at H
              have c82b0 : ((t205.length : Int) == 0) = true := beq_iff_eq.mpr c82
              have c82b1 : ((t205.length : Int) != 0) = false := bne_eq_false_iff_eq.mpr c82
              clear c82
              replace H := Option.bind_eq_some_iff.mp H
              obtain ⟨t214, A830, H⟩ := H
              replace H : (if t214 < 1 then ((laws_alive.f kj5).bind fun t215 => (some t215)) else (some false)) = some r := H
              have A83 := Aside0.mk A830
              clear A830
              by_cases c84 : t214 < 1
              · rw [if_pos c84] at H
                have c84b0 : decide (t214 < 1) = true := decide_eq_true c84
                clear c84
                replace H := Option.bind_eq_some_iff.mp H
                obtain ⟨t215, A850, H⟩ := H
                replace H : (some t215) = some r := H
                have A85 := Aside0.mk A850
                clear A850
                obtain rfl := Option.some.inj H
                obtain ⟨Ao86, co86, eo86⟩ := Kd.R_slice HO_4.out
                subst eo86
                have hcz87_0 : wc.cell? ⟨gb204, 0, none⟩ = some (.int .i64 t201) := (blk_cell BK204.out 0).trans rfl
                have hcz87_1 : wc.cell? ⟨gb204, 1, none⟩ = some (.int .i64 t202) := (blk_cell BK204.out 1).trans rfl
                have hcz87_2 : wc.cell? ⟨gb204, 2, none⟩ = some (.int .i64 t203) := (blk_cell BK204.out 2).trans rfl
                have hfz87_0 := blk_frozen BK204.out 0
                have hfz87_1 := blk_frozen BK204.out 1
                have hfz87_2 := blk_frozen BK204.out 2
                go_wp2_with (first | (go_at_call 10; (with_reducible refine (impl_TilingCount.calls kj5 t201 t202 t203 t214 _ (HT.out.below (by repeat (first | (with_reducible first | exact HB.out | apply below_alloc | apply pw_below_drewN | apply below_drew1 | refine below_set ?_ GE204.out) | exact HB.out))) A83.out).mono ?_); rintro e w88 ⟨rfl, hb⟩; have n0_ := Aside0.mk (Kd.R_below (by (with_reducible repeat (first | apply Kd.R_alloc | apply Kd.R_drewN | apply Kd.R_drew)); exact HO_4.out) hb); have n1_ := Aside0.mk (blk_below (g := gb204) (o := .cells #[.int .i64 t201, .int .i64 t202, .int .i64 t203] 25 (0, 0)) (by (with_reducible repeat (first | refine blk_drewN ?_ _ | refine blk_drew ?_ | refine blk_alloc ?_ _)); exact BK204.out) hb); have n2_ := Aside0.mk (below_step (by repeat (first | (with_reducible first | exact HB.out | apply below_alloc | apply pw_below_drewN | apply below_drew1 | refine below_set ?_ GE204.out) | exact HB.out)) hb); clear HO_4; clear BK204; clear HB; have HO_4 := n0_; have BK204 := n1_; have HB := n2_; clear n0_ n1_ n2_; (try clear hb); (try clear hb2); (try clear hk); (try clear hi)) | (go_at_call 17; (with_reducible refine (laws_alive.calls kj5  t215 _ A85.out).mono ?_); rintro e w89 ⟨rfl, hb⟩; have n0_ := Aside0.mk (Kd.R_below (by (with_reducible repeat (first | apply Kd.R_alloc | apply Kd.R_drewN | apply Kd.R_drew)); exact HO_4.out) hb); have n1_ := Aside0.mk (blk_below (g := gb204) (o := .cells #[.int .i64 t201, .int .i64 t202, .int .i64 t203] 25 (0, 0)) (by (with_reducible repeat (first | refine blk_drewN ?_ _ | refine blk_drew ?_ | refine blk_alloc ?_ _)); exact BK204.out) hb); have n2_ := Aside0.mk (below_step (by repeat (first | (with_reducible first | exact HB.out | apply below_alloc | apply pw_below_drewN | apply below_drew1 | refine below_set ?_ GE204.out) | exact HB.out)) hb); clear HO_4; clear BK204; clear HB; have HO_4 := n0_; have BK204 := n1_; have HB := n2_; clear n0_ n1_ n2_; (try clear hb); (try clear hb2); (try clear hk); (try clear hi)))
                repeat (go_quiet (first | (go_at_call 10; (with_reducible refine (impl_TilingCount.calls kj5 t201 t202 t203 t214 _ (HT.out.below (by repeat (first | (with_reducible first | exact HB.out | apply below_alloc | apply pw_below_drewN | apply below_drew1 | refine below_set ?_ GE204.out) | exact HB.out))) A83.out).mono ?_); rintro e w88 ⟨rfl, hb⟩; have n0_ := Aside0.mk (Kd.R_below (by (with_reducible repeat (first | apply Kd.R_alloc | apply Kd.R_drewN | apply Kd.R_drew)); exact HO_4.out) hb); have n1_ := Aside0.mk (blk_below (g := gb204) (o := .cells #[.int .i64 t201, .int .i64 t202, .int .i64 t203] 25 (0, 0)) (by (with_reducible repeat (first | refine blk_drewN ?_ _ | refine blk_drew ?_ | refine blk_alloc ?_ _)); exact BK204.out) hb); have n2_ := Aside0.mk (below_step (by repeat (first | (with_reducible first | exact HB.out | apply below_alloc | apply pw_below_drewN | apply below_drew1 | refine below_set ?_ GE204.out) | exact HB.out)) hb); clear HO_4; clear BK204; clear HB; have HO_4 := n0_; have BK204 := n1_; have HB := n2_; clear n0_ n1_ n2_; (try clear hb); (try clear hb2); (try clear hk); (try clear hi)) | (go_at_call 17; (with_reducible refine (laws_alive.calls kj5  t215 _ A85.out).mono ?_); rintro e w89 ⟨rfl, hb⟩; have n0_ := Aside0.mk (Kd.R_below (by (with_reducible repeat (first | apply Kd.R_alloc | apply Kd.R_drewN | apply Kd.R_drew)); exact HO_4.out) hb); have n1_ := Aside0.mk (blk_below (g := gb204) (o := .cells #[.int .i64 t201, .int .i64 t202, .int .i64 t203] 25 (0, 0)) (by (with_reducible repeat (first | refine blk_drewN ?_ _ | refine blk_drew ?_ | refine blk_alloc ?_ _)); exact BK204.out) hb); have n2_ := Aside0.mk (below_step (by repeat (first | (with_reducible first | exact HB.out | apply below_alloc | apply pw_below_drewN | apply below_drew1 | refine below_set ?_ GE204.out) | exact HB.out)) hb); clear HO_4; clear BK204; clear HB; have HO_4 := n0_; have BK204 := n1_; have HB := n2_; clear n0_ n1_ n2_; (try clear hb); (try clear hb2); (try clear hk); (try clear hi))); try go_wp2_with (first | (go_at_call 10; (with_reducible refine (impl_TilingCount.calls kj5 t201 t202 t203 t214 _ (HT.out.below (by repeat (first | (with_reducible first | exact HB.out | apply below_alloc | apply pw_below_drewN | apply below_drew1 | refine below_set ?_ GE204.out) | exact HB.out))) A83.out).mono ?_); rintro e w88 ⟨rfl, hb⟩; have n0_ := Aside0.mk (Kd.R_below (by (with_reducible repeat (first | apply Kd.R_alloc | apply Kd.R_drewN | apply Kd.R_drew)); exact HO_4.out) hb); have n1_ := Aside0.mk (blk_below (g := gb204) (o := .cells #[.int .i64 t201, .int .i64 t202, .int .i64 t203] 25 (0, 0)) (by (with_reducible repeat (first | refine blk_drewN ?_ _ | refine blk_drew ?_ | refine blk_alloc ?_ _)); exact BK204.out) hb); have n2_ := Aside0.mk (below_step (by repeat (first | (with_reducible first | exact HB.out | apply below_alloc | apply pw_below_drewN | apply below_drew1 | refine below_set ?_ GE204.out) | exact HB.out)) hb); clear HO_4; clear BK204; clear HB; have HO_4 := n0_; have BK204 := n1_; have HB := n2_; clear n0_ n1_ n2_; (try clear hb); (try clear hb2); (try clear hk); (try clear hi)) | (go_at_call 17; (with_reducible refine (laws_alive.calls kj5  t215 _ A85.out).mono ?_); rintro e w89 ⟨rfl, hb⟩; have n0_ := Aside0.mk (Kd.R_below (by (with_reducible repeat (first | apply Kd.R_alloc | apply Kd.R_drewN | apply Kd.R_drew)); exact HO_4.out) hb); have n1_ := Aside0.mk (blk_below (g := gb204) (o := .cells #[.int .i64 t201, .int .i64 t202, .int .i64 t203] 25 (0, 0)) (by (with_reducible repeat (first | refine blk_drewN ?_ _ | refine blk_drew ?_ | refine blk_alloc ?_ _)); exact BK204.out) hb); have n2_ := Aside0.mk (below_step (by repeat (first | (with_reducible first | exact HB.out | apply below_alloc | apply pw_below_drewN | apply below_drew1 | refine below_set ?_ GE204.out) | exact HB.out)) hb); clear HO_4; clear BK204; clear HB; have HO_4 := n0_; have BK204 := n1_; have HB := n2_; clear n0_ n1_ n2_; (try clear hb); (try clear hb2); (try clear hk); (try clear hi))))
                go_ret
                exact ⟨by first | rfl | (simp [errW_none, errW_some] <;> rfl) | (simp [*, errW_none, errW_some] <;> rfl), by repeat (first | (with_reducible first | exact HB.out | apply below_alloc | apply pw_below_drewN | apply below_drew1 | refine below_set ?_ GE204.out) | exact HB.out)⟩
              · rw [if_neg c84] at H
                have c84b0 : decide (t214 < 1) = false := decide_eq_false c84
                clear c84
                obtain rfl := Option.some.inj H
                obtain ⟨Ao90, co90, eo90⟩ := Kd.R_slice HO_4.out
                subst eo90
                have hcz91_0 : wc.cell? ⟨gb204, 0, none⟩ = some (.int .i64 t201) := (blk_cell BK204.out 0).trans rfl
                have hcz91_1 : wc.cell? ⟨gb204, 1, none⟩ = some (.int .i64 t202) := (blk_cell BK204.out 1).trans rfl
                have hcz91_2 : wc.cell? ⟨gb204, 2, none⟩ = some (.int .i64 t203) := (blk_cell BK204.out 2).trans rfl
                have hfz91_0 := blk_frozen BK204.out 0
                have hfz91_1 := blk_frozen BK204.out 1
                have hfz91_2 := blk_frozen BK204.out 2
                go_wp2_with (first | (go_at_call 10; (with_reducible refine (impl_TilingCount.calls kj5 t201 t202 t203 t214 _ (HT.out.below (by repeat (first | (with_reducible first | exact HB.out | apply below_alloc | apply pw_below_drewN | apply below_drew1 | refine below_set ?_ GE204.out) | exact HB.out))) A83.out).mono ?_); rintro e w92 ⟨rfl, hb⟩; have n0_ := Aside0.mk (Kd.R_below (by (with_reducible repeat (first | apply Kd.R_alloc | apply Kd.R_drewN | apply Kd.R_drew)); exact HO_4.out) hb); have n1_ := Aside0.mk (blk_below (g := gb204) (o := .cells #[.int .i64 t201, .int .i64 t202, .int .i64 t203] 25 (0, 0)) (by (with_reducible repeat (first | refine blk_drewN ?_ _ | refine blk_drew ?_ | refine blk_alloc ?_ _)); exact BK204.out) hb); have n2_ := Aside0.mk (below_step (by repeat (first | (with_reducible first | exact HB.out | apply below_alloc | apply pw_below_drewN | apply below_drew1 | refine below_set ?_ GE204.out) | exact HB.out)) hb); clear HO_4; clear BK204; clear HB; have HO_4 := n0_; have BK204 := n1_; have HB := n2_; clear n0_ n1_ n2_; (try clear hb); (try clear hb2); (try clear hk); (try clear hi)))
                repeat (go_quiet (first | (go_at_call 10; (with_reducible refine (impl_TilingCount.calls kj5 t201 t202 t203 t214 _ (HT.out.below (by repeat (first | (with_reducible first | exact HB.out | apply below_alloc | apply pw_below_drewN | apply below_drew1 | refine below_set ?_ GE204.out) | exact HB.out))) A83.out).mono ?_); rintro e w92 ⟨rfl, hb⟩; have n0_ := Aside0.mk (Kd.R_below (by (with_reducible repeat (first | apply Kd.R_alloc | apply Kd.R_drewN | apply Kd.R_drew)); exact HO_4.out) hb); have n1_ := Aside0.mk (blk_below (g := gb204) (o := .cells #[.int .i64 t201, .int .i64 t202, .int .i64 t203] 25 (0, 0)) (by (with_reducible repeat (first | refine blk_drewN ?_ _ | refine blk_drew ?_ | refine blk_alloc ?_ _)); exact BK204.out) hb); have n2_ := Aside0.mk (below_step (by repeat (first | (with_reducible first | exact HB.out | apply below_alloc | apply pw_below_drewN | apply below_drew1 | refine below_set ?_ GE204.out) | exact HB.out)) hb); clear HO_4; clear BK204; clear HB; have HO_4 := n0_; have BK204 := n1_; have HB := n2_; clear n0_ n1_ n2_; (try clear hb); (try clear hb2); (try clear hk); (try clear hi))); try go_wp2_with (first | (go_at_call 10; (with_reducible refine (impl_TilingCount.calls kj5 t201 t202 t203 t214 _ (HT.out.below (by repeat (first | (with_reducible first | exact HB.out | apply below_alloc | apply pw_below_drewN | apply below_drew1 | refine below_set ?_ GE204.out) | exact HB.out))) A83.out).mono ?_); rintro e w92 ⟨rfl, hb⟩; have n0_ := Aside0.mk (Kd.R_below (by (with_reducible repeat (first | apply Kd.R_alloc | apply Kd.R_drewN | apply Kd.R_drew)); exact HO_4.out) hb); have n1_ := Aside0.mk (blk_below (g := gb204) (o := .cells #[.int .i64 t201, .int .i64 t202, .int .i64 t203] 25 (0, 0)) (by (with_reducible repeat (first | refine blk_drewN ?_ _ | refine blk_drew ?_ | refine blk_alloc ?_ _)); exact BK204.out) hb); have n2_ := Aside0.mk (below_step (by repeat (first | (with_reducible first | exact HB.out | apply below_alloc | apply pw_below_drewN | apply below_drew1 | refine below_set ?_ GE204.out) | exact HB.out)) hb); clear HO_4; clear BK204; clear HB; have HO_4 := n0_; have BK204 := n1_; have HB := n2_; clear n0_ n1_ n2_; (try clear hb); (try clear hb2); (try clear hk); (try clear hi))))
                go_ret
                exact ⟨by first | rfl | (simp [errW_none, errW_some] <;> rfl) | (simp [*, errW_none, errW_some] <;> rfl), by repeat (first | (with_reducible first | exact HB.out | apply below_alloc | apply pw_below_drewN | apply below_drew1 | refine below_set ?_ GE204.out) | exact HB.out)⟩
            · rw [if_neg c82] at H
              have c82b0 : ((t205.length : Int) == 0) = false := beq_eq_false_iff_ne.mpr c82
              have c82b1 : ((t205.length : Int) != 0) = true := bne_iff_ne.mpr c82
              have c82b2 : ¬ (t205 = []) := fun h_ => c82 (by rw [h_]; rfl)
              obtain rfl := Option.some.inj H
              obtain ⟨Ao93, co93, eo93⟩ := Kd.R_slice HO_4.out
              subst eo93
              go_wp2
              repeat (go_quiet (fail); try go_wp2)
              go_ret
              exact ⟨by first | rfl | (simp [errW_none, errW_some] <;> rfl) | (simp [*, errW_none, errW_some] <;> rfl), by repeat (first | (with_reducible first | exact HB.out | apply below_alloc | apply pw_below_drewN | apply below_drew1 | refine below_set ?_ GE204.out) | exact HB.out)⟩

/-- THE ONE PURE STATEMENT of laws_FnTilingFirst: yours. -/
def laws_FnTilingFirst.Pure : Prop := ∀ (l0 : List Int), l0.length ≤ maxLen → l0.length * 1 ≤ 140737488351232 → (∀ x ∈ l0, (Lit.int .u8 x).wf = true) → ∃ k, laws_FnTilingFirst.f k l0 = some true
theorem laws_FnTilingFirst.walk (P : laws_FnTilingFirst.Pure) (a0 : Option Addr) (len0 cap0 : Nat) (z0 : List Int) (w : World) (hT : Tab64 w) (w0 : (a0 = none ∧ len0 = 0 ∧ cap0 = 0 ∧ z0 = []) ∨ ∃ x, a0 = some x ∧ len0 ≤ cap0 ∧ cap0 ≤ maxLen ∧ z0.length = cap0 ∧ (∀ i, i < z0.length → w.cell? (x.add i) = some (.int .u8 (z0.getD i 0))) ∧ ∀ n ∈ z0, (Lit.int .u8 n).wf = true) (y0 : len0 * 1 ≤ 140737488351232) :
    Calls Tryd.prog 7 #[.slice a0 len0 cap0] w fun e w' => e = .returned (.bool true) ∧ Below w.heap.size w w' := by
  obtain ⟨l0, rfl, hr0, hm0, hw0, hc0⟩ := ReadsInt.ofRowC w0
  obtain ⟨k, h⟩ := P l0 hm0 y0 hw0
  refine (laws_FnTilingFirst.calls k _ _ l0 true w hT (Kd.C_of_reads (d := (0 : Int)) (h1 := fun _ => rfl) hr0) hc0 h).mono ?_
  rintro e w' ⟨rfl, hd⟩
  exact ⟨rfl, hd⟩

end Go.Proofs.YtbdkmkbkggnekaaDoor.PFnTilingFirst
