-- Made by a program of this session (a changed copy of the kit print): the kit print itself does not give this text
import Derived.Test.YtbdkmkbkggnekaaDoorPFnDominoHolesx0
import Derived.Test.YtbdkmkbkggnekaaDoorPFnDominoHolesx1
import Derived.Test.YtbdkmkbkggnekaaDoorPFnDominoHolesx3
import Derived.Test.YtbdkmkbkggnekaaDoorPFnDominoHolesx6
import Derived.Test.YtbdkmkbkggnekaaDoorPFnDominoHolesx7
import Derived.Test.YtbdkmkbkggnekaaDoorPFnDominoHolesx8
import Derived.Test.YtbdkmkbkggnekaaDoorPFnDominoHolesx9
import Derived.Test.YtbdkmkbkggnekaaDoorPFnDominoHolesx10
namespace Go.Proofs.YtbdkmkbkggnekaaDoor.PFnDominoHoles
open Go.RowKit Go.Proofs.YtbdkmkbkggnekaaDoorW.PrintWords Go.Proofs.YtbdkmkbkggnekaaDoorW.PrintLast Go.Proofs.YtbdkmkbkggnekaaDoorW.PrintMore
attribute [local go_sem] max2_int min2_int max_two min_two max_three min_three max_four min_four   -- for this text's walks alone
set_option linter.unusedVariables false
set_option linter.unusedSimpArgs false

/-! ### laws_FnDominoHoles: function 6 -/
mutual
def laws_FnDominoHoles.j0 : Nat → List Int → Bool → Bool → Int → Int → Int → Option (Bool)
  | 0, _, _, _, _, _, _ => none
  | k + 1, x4, x5, x32, x201000, x201001, x201002 => if x32 = true then (some false) else (if x5 = true then (if (x4.length : Int) < 2 then (laws_FnDominoHoles.j1 k x4 true x201000 x201001 x201002) else (if 0 < (x4.length : Int) then (if (rd x4 0) < 0 then (laws_FnDominoHoles.j1 k x4 true x201000 x201001 x201002) else (if 1 < (x4.length : Int) then (laws_FnDominoHoles.j1 k x4 (decide ((rd x4 1) < 0)) x201000 x201001 x201002) else (none))) else (none))) else (laws_FnDominoHoles.j1 k x4 true x201000 x201001 x201002))
def laws_FnDominoHoles.j1 : Nat → List Int → Bool → Int → Int → Int → Option (Bool)
  | 0, _, _, _, _, _ => none
  | k + 1, x4, x51, x201000, x201001, x201002 => if x51 = true then ((laws_alive.f k).bind fun t212 => (some t212)) else (if 0 < (x4.length : Int) then (if 0 ≤ (rd x4 0) then (if 1 < (x4.length : Int) then (if 0 ≤ (rd x4 1) then ((impl_TilingCount.f k x201000 x201001 (Go.bits .or .i64 (Go.bits .or .i64 x201002 (shl .i64 1 (rd x4 0))) (shl .i64 1 (rd x4 1)))).bind fun t215 => (if t215 ≥ 1 then ((impl_TilingCount.f k x201000 x201001 x201002).bind fun t216 => (some (decide (t215 ≤ t216)))) else (some false))) else (none)) else (none)) else (none)) else (none))
end
def laws_FnDominoHoles.f (k : Nat) (l0 : List Int) : Option (Bool) := if (l0.length : Int) > 1048576 then (some true) else ((spec_DrawTilingFirst.f k l0).bind fun bt197 => ((impl_TilingFirst.f k bt197.1 bt197.2.1 bt197.2.2).bind fun bt201 => ((spec_TilingFirst.f k bt197.1 bt197.2.1 bt197.2.2).bind fun bt205 => ((laws_sameInts.f k bt201.1 bt205.1).bind fun t209 => (if t209 = true then (laws_FnDominoHoles.j0 k bt201.1 bt201.2 (bt201.2 != bt205.2) bt197.1 bt197.2.1 bt197.2.2) else (laws_FnDominoHoles.j0 k bt201.1 bt201.2 true bt197.1 bt197.2.1 bt197.2.2))))))
theorem laws_FnDominoHoles.mono_l : ∀ k, (∀ y0 y1 y2 y3 y4 y5, LeO (laws_FnDominoHoles.j0 k y0 y1 y2 y3 y4 y5) (laws_FnDominoHoles.j0 (k + 1) y0 y1 y2 y3 y4 y5)) ∧ (∀ y0 y1 y2 y3 y4, LeO (laws_FnDominoHoles.j1 k y0 y1 y2 y3 y4) (laws_FnDominoHoles.j1 (k + 1) y0 y1 y2 y3 y4))
  | 0 => ⟨fun _ _ _ _ _ _ r h => by simp [laws_FnDominoHoles.j0] at h, fun _ _ _ _ _ r h => by simp [laws_FnDominoHoles.j1] at h⟩
  | k + 1 => by
    obtain ⟨ih0, ih1⟩ := laws_FnDominoHoles.mono_l k
    refine ⟨?_, ?_⟩
    · intro y0 y1 y2 y3 y4 y5
      unfold laws_FnDominoHoles.j0
      repeat' first
      | (with_reducible exact ih0 _ _ _ _ _ _)
      | (with_reducible exact ih1 _ _ _ _ _)
      | (with_reducible exact impl_TilingCount.mono _ _ _ _)
      | (with_reducible exact impl_TilingFirst.mono _ _ _ _)
      | (with_reducible exact laws_alive.mono _)
      | (with_reducible exact laws_sameInts.mono _ _ _)
      | (with_reducible exact spec_DrawTilingFirst.mono _ _)
      | (with_reducible exact spec_TilingFirst.mono _ _ _ _)
      | (with_reducible exact LeO.refl _)
      | (with_reducible exact LeO.none _)
      | (with_reducible refine LeO.ite ?_ ?_)
      | (with_reducible refine LeO.bind ?_ (fun _ => ?_))
      | exact ih0 _ _ _ _ _ _
      | exact ih1 _ _ _ _ _
      | exact impl_TilingCount.mono _ _ _ _
      | exact impl_TilingFirst.mono _ _ _ _
      | exact laws_alive.mono _
      | exact laws_sameInts.mono _ _ _
      | exact spec_DrawTilingFirst.mono _ _
      | exact spec_TilingFirst.mono _ _ _ _
      | exact LeO.none _
      | refine LeO.ite ?_ ?_
      | refine LeO.bind ?_ (fun _ => ?_)
    · intro y0 y1 y2 y3 y4
      unfold laws_FnDominoHoles.j1
      repeat' first
      | (with_reducible exact ih0 _ _ _ _ _ _)
      | (with_reducible exact ih1 _ _ _ _ _)
      | (with_reducible exact impl_TilingCount.mono _ _ _ _)
      | (with_reducible exact impl_TilingFirst.mono _ _ _ _)
      | (with_reducible exact laws_alive.mono _)
      | (with_reducible exact laws_sameInts.mono _ _ _)
      | (with_reducible exact spec_DrawTilingFirst.mono _ _)
      | (with_reducible exact spec_TilingFirst.mono _ _ _ _)
      | (with_reducible exact LeO.refl _)
      | (with_reducible exact LeO.none _)
      | (with_reducible refine LeO.ite ?_ ?_)
      | (with_reducible refine LeO.bind ?_ (fun _ => ?_))
      | exact ih0 _ _ _ _ _ _
      | exact ih1 _ _ _ _ _
      | exact impl_TilingCount.mono _ _ _ _
      | exact impl_TilingFirst.mono _ _ _ _
      | exact laws_alive.mono _
      | exact laws_sameInts.mono _ _ _
      | exact spec_DrawTilingFirst.mono _ _
      | exact spec_TilingFirst.mono _ _ _ _
      | exact LeO.none _
      | refine LeO.ite ?_ ?_
      | refine LeO.bind ?_ (fun _ => ?_)
theorem laws_FnDominoHoles.mono : ∀ a0 k, LeO (laws_FnDominoHoles.f k a0) (laws_FnDominoHoles.f (k + 1) a0) := by
  intro a0 k
  obtain ⟨ih0, ih1⟩ := laws_FnDominoHoles.mono_l k
  unfold laws_FnDominoHoles.f
  repeat' first
      | (with_reducible exact ih0 _ _ _ _ _ _)
      | (with_reducible exact ih1 _ _ _ _ _)
      | (with_reducible exact impl_TilingCount.mono _ _ _ _)
      | (with_reducible exact impl_TilingFirst.mono _ _ _ _)
      | (with_reducible exact laws_alive.mono _)
      | (with_reducible exact laws_sameInts.mono _ _ _)
      | (with_reducible exact spec_DrawTilingFirst.mono _ _)
      | (with_reducible exact spec_TilingFirst.mono _ _ _ _)
      | (with_reducible exact LeO.refl _)
      | (with_reducible exact LeO.none _)
      | (with_reducible refine LeO.ite ?_ ?_)
      | (with_reducible refine LeO.bind ?_ (fun _ => ?_))
      | exact ih0 _ _ _ _ _ _
      | exact ih1 _ _ _ _ _
      | exact impl_TilingCount.mono _ _ _ _
      | exact impl_TilingFirst.mono _ _ _ _
      | exact laws_alive.mono _
      | exact laws_sameInts.mono _ _ _
      | exact spec_DrawTilingFirst.mono _ _
      | exact spec_TilingFirst.mono _ _ _ _
      | exact LeO.none _
      | refine LeO.ite ?_ ?_
      | refine LeO.bind ?_ (fun _ => ?_)
def laws_FnDominoHoles.T10 : Bool × List (List Nat × List Nat) := (true, [([], []), ([0], [0]), ([], []), ([2], [2]), ([], []), ([4], [4]), ([], []), ([6], [6]), ([7], [7]), ([8], [8]), ([5, 9], [5, 9]), ([], []), ([11], [11]), ([12], [12]), ([13], [13]), ([10, 14], [10, 14]), ([1, 3, 15], [1, 3, 15]), ([16], [16]), ([17, 17, 0, 1, 2, 3, 4, 5, 6, 7, 8, 9, 10, 11, 12, 13, 14, 15, 16, 17], [17])])
def laws_FnDominoHoles.B10 : List Nat := [0, 1, 0, 4, 0, 16, 0, 64, 192, 448, 1008, 0, 2048, 6144, 14336, 32752, 65535, 131071, 262143]
theorem laws_FnDominoHoles.tab10 : rtab .any (opsOf Tryd.f6 10) = laws_FnDominoHoles.T10 := by kernel_rfl
theorem laws_FnDominoHoles.bits10 : waitsOk laws_FnDominoHoles.T10.2 laws_FnDominoHoles.B10 = true := by kernel_rfl
set_option maxHeartbeats 8000000 in
set_option maxRecDepth 100000 in
theorem laws_FnDominoHoles.calls (k : Nat) (A0 : Option Addr) (c0 : Nat) (l0 : List Int) (r : Bool) (w : World) (hT : Tab64 w) (hr0 : Kd.C (Kd.int .u8) w A0 l0.length l0) (hc0 : l0.length ≤ c0) (h : laws_FnDominoHoles.f k l0 = some r) :
    Calls Tryd.prog 6 #[.slice A0 l0.length c0] w fun e w' => e = .returned (.bool r) ∧ Below w.heap.size w w' := by
  have HT := Aside0.mk hT
  clear hT
  have hu25 := Tryd.underlying25
  have HR0 := Aside0.mk hr0
  have HC0 := Aside0.mk hc0
  clear hr0 hc0
  have HB := Aside0.mk (Below.refl w.heap.size w)
  have H : (if (l0.length : Int) > 1048576 then (some true) else ((spec_DrawTilingFirst.f k l0).bind fun bt197 => ((impl_TilingFirst.f k bt197.1 bt197.2.1 bt197.2.2).bind fun bt201 => ((spec_TilingFirst.f k bt197.1 bt197.2.1 bt197.2.2).bind fun bt205 => ((laws_sameInts.f k bt201.1 bt205.1).bind fun t209 => (if t209 = true then (laws_FnDominoHoles.j0 k bt201.1 bt201.2 (bt201.2 != bt205.2) bt197.1 bt197.2.1 bt197.2.2) else (laws_FnDominoHoles.j0 k bt201.1 bt201.2 true bt197.1 bt197.2.1 bt197.2.2))))))) = some r := h
  clear h
  by_cases c2 : (l0.length : Int) > 1048576
  · rw [if_pos c2] at H
    have c2b0 : decide (1048576 < (l0.length : Int)) = true := decide_eq_true c2
    have c2b1 : decide (1048576 < l0.length) = true := decide_eq_true (by omega)
    clear c2
    obtain rfl := Option.some.inj H
    go_enter Tryd.func6, Tryd.ntmps6
    go_wp2
    go_ret
    exact ⟨by first | rfl | (simp [errW_none, errW_some] <;> rfl) | (simp [*, errW_none, errW_some] <;> rfl), by repeat (first | (with_reducible first | exact HB.out | apply below_alloc | apply pw_below_drewN | apply below_drew1) | exact HB.out)⟩
  · rw [if_neg c2] at H
    have c2b0 : decide (1048576 < (l0.length : Int)) = false := decide_eq_false c2
    have c2b1 : decide (1048576 < l0.length) = false := decide_eq_false (by omega)
    clear c2
    replace H := Option.bind_eq_some_iff.mp H
    obtain ⟨⟨t197, t198, t199⟩, A30, H⟩ := H
    replace H : ((impl_TilingFirst.f k t197 t198 t199).bind fun bt201 => ((spec_TilingFirst.f k t197 t198 t199).bind fun bt205 => ((laws_sameInts.f k bt201.1 bt205.1).bind fun t209 => (if t209 = true then (laws_FnDominoHoles.j0 k bt201.1 bt201.2 (bt201.2 != bt205.2) t197 t198 t199) else (laws_FnDominoHoles.j0 k bt201.1 bt201.2 true t197 t198 t199))))) = some r := H
    have A3 := Aside0.mk A30
    clear A30
    replace H := Option.bind_eq_some_iff.mp H
    obtain ⟨⟨t201, t204⟩, A40, H⟩ := H
    replace H : ((spec_TilingFirst.f k t197 t198 t199).bind fun bt205 => ((laws_sameInts.f k t201 bt205.1).bind fun t209 => (if t209 = true then (laws_FnDominoHoles.j0 k t201 t204 (t204 != bt205.2) t197 t198 t199) else (laws_FnDominoHoles.j0 k t201 t204 true t197 t198 t199)))) = some r := H
    have A4 := Aside0.mk A40
    clear A40
    replace H := Option.bind_eq_some_iff.mp H
    obtain ⟨⟨t205, t208⟩, A50, H⟩ := H
    replace H : ((laws_sameInts.f k t201 t205).bind fun t209 => (if t209 = true then (laws_FnDominoHoles.j0 k t201 t204 (t204 != t208) t197 t198 t199) else (laws_FnDominoHoles.j0 k t201 t204 true t197 t198 t199))) = some r := H
    have A5 := Aside0.mk A50
    clear A50
    have HC6 := Aside0.mk H
    clear H
    go_enter Tryd.func6, Tryd.ntmps6
    go_upto_region 6 with (first | ((with_reducible refine gate_callee (f := 20) rfl ?_); refine goesL_ (some 13) rfl rfl Tryd.func20 (by kernel_rfl) rfl #[.slice A0 l0.length c0] rfl (by (try simp only [List.map_toArray, List.map_cons, List.map_nil]); first | done | rfl | (simp only [List.length_drop, List.length_take]; rfl)) ?_; (with_reducible refine (spec_DrawTilingFirst.calls k _ _ l0 t197 t198 t199 _ ?side1 ?side2 A3.out).mono ?_); (case side1 => repeat (first | exact HR0.out | (with_reducible refine Kd.C_alloc ?_ _) | (with_reducible refine Kd.C_drewN ?_ _) | (with_reducible refine Kd.C_drew ?_))); (case side2 => exact HC0.out); rintro e w7 ⟨rfl, hb⟩; refine ⟨_, rfl, ?_⟩; have n0_ := Aside0.mk (below_step (by repeat (first | (with_reducible first | exact HB.out | apply below_alloc | apply pw_below_drewN | apply below_drew1) | exact HB.out)) hb); clear HB; have HB := n0_; clear n0_; (try clear hb); (try clear hb2); (try clear hk); (try clear hi)) | ((with_reducible refine gate_dst (N := 3) rfl ?_); (try (refine gate_guard (by rfl) ?_; dsimp only)); refine box_event ?hg (N := 3) ?hd (cs := #[.int .i64 0, .int .i64 0, .int .i64 0]) (t := 25) ?hr ?_; (case hd => rfl); (case hg => rfl); (case hr => first | (go_simp; done) | (go_simp; rfl)); intro gb200 hg w8 hbox hb; have n0_ := Aside0.mk (below_step (by repeat (first | (with_reducible first | exact HB.out | apply below_alloc | apply pw_below_drewN | apply below_drew1) | exact HB.out)) hb); have n1_ := Aside0.mk (hbox); have n2_ := Aside0.mk ((by rw [hg]; exact (below_size (by repeat (first | (with_reducible first | exact HB.out | apply below_alloc | apply pw_below_drewN | apply below_drew1) | exact HB.out))) : w.heap.size ≤ gb200)); have n3_ := Aside0.mk ((by rw [hg]; exact (below_size (by repeat (first | (with_reducible first | exact HB.out | apply below_alloc | apply pw_below_drewN | apply below_drew1) | exact HB.out))) : w.heap.size ≤ gb200)); clear HB; have HB := n0_; have BK200 := n1_; have GW200 := n2_; have GE200 := n3_; clear n0_ n1_ n2_ n3_; clear hb hbox hg; have hcz9_0 : w8.cell? ⟨gb200, 0, none⟩ = some (.int .i64 0) := (blk_cell BK200.out 0).trans rfl; have hcz9_1 : w8.cell? ⟨gb200, 1, none⟩ = some (.int .i64 0) := (blk_cell BK200.out 1).trans rfl; have hcz9_2 : w8.cell? ⟨gb200, 2, none⟩ = some (.int .i64 0) := (blk_cell BK200.out 2).trans rfl; have hfz9_0 := blk_frozen BK200.out 0; have hfz9_1 := blk_frozen BK200.out 1; have hfz9_2 := blk_frozen BK200.out 2) | ((with_reducible refine gate_callee (f := 12) rfl ?_); refine goesL_ (some 16) rfl rfl Tryd.func12 (by kernel_rfl) rfl #[.agg #[.int .i64 t197, .int .i64 t198, .int .i64 t199]] rfl (by (try simp only [List.map_toArray, List.map_cons, List.map_nil]); first | done | rfl | (simp only [List.length_drop, List.length_take]; rfl)) ?_; (with_reducible refine (impl_TilingFirst.calls k t197 t198 t199 t201 t204 _ (HT.out.below (by repeat (first | (with_reducible first | exact HB.out | apply below_alloc | apply pw_below_drewN | apply below_drew1 | refine below_set ?_ GE200.out) | exact HB.out))) A4.out).mono ?_); rintro e w10 ⟨v202, rfl, ho0, hb⟩; refine ⟨_, rfl, ?_⟩; have n0_ := Aside0.mk (Kd.R_lower ho0 (below_size (by repeat (first | (with_reducible first | exact HB.out | apply below_alloc | apply pw_below_drewN | apply below_drew1 | refine below_set ?_ GE200.out) | exact HB.out)))); have n1_ := Aside0.mk (blk_below (g := gb200) (o := .cells #[.int .i64 t197, .int .i64 t198, .int .i64 t199] 25 (0, 0)) (by (with_reducible repeat (first | refine blk_drewN ?_ _ | refine blk_drew ?_ | refine blk_alloc ?_ _)); refine blk_put (cs := #[.int .i64 t197, .int .i64 t198, .int .i64 0]) ?_ 2 _ rfl; (with_reducible repeat (first | refine blk_drewN ?_ _ | refine blk_drew ?_ | refine blk_alloc ?_ _)); refine blk_put (cs := #[.int .i64 t197, .int .i64 0, .int .i64 0]) ?_ 1 _ rfl; (with_reducible repeat (first | refine blk_drewN ?_ _ | refine blk_drew ?_ | refine blk_alloc ?_ _)); refine blk_put (cs := #[.int .i64 0, .int .i64 0, .int .i64 0]) ?_ 0 _ rfl; (with_reducible repeat (first | refine blk_drewN ?_ _ | refine blk_drew ?_ | refine blk_alloc ?_ _)); exact BK200.out) hb); have n2_ := Aside0.mk (below_step (by repeat (first | (with_reducible first | exact HB.out | apply below_alloc | apply pw_below_drewN | apply below_drew1 | refine below_set ?_ GE200.out) | exact HB.out)) hb); clear BK200; clear HB; have HO203 := n0_; have BK200 := n1_; have HB := n2_; clear n0_ n1_ n2_; (try clear hb); (try clear hb2); (try clear hk); (try clear hi); (try clear ho0); have hcz11_0 : w10.cell? ⟨gb200, 0, none⟩ = some (.int .i64 t197) := (blk_cell BK200.out 0).trans rfl; have hcz11_1 : w10.cell? ⟨gb200, 1, none⟩ = some (.int .i64 t198) := (blk_cell BK200.out 1).trans rfl; have hcz11_2 : w10.cell? ⟨gb200, 2, none⟩ = some (.int .i64 t199) := (blk_cell BK200.out 2).trans rfl; have hfz11_0 := blk_frozen BK200.out 0; have hfz11_1 := blk_frozen BK200.out 1; have hfz11_2 := blk_frozen BK200.out 2) | ((with_reducible refine gate_callee (f := 11) rfl ?_); refine goesL_ (some 21) rfl rfl Tryd.func11 (by kernel_rfl) rfl #[.agg #[.int .i64 t197, .int .i64 t198, .int .i64 t199]] rfl (by (try simp only [List.map_toArray, List.map_cons, List.map_nil]); first | done | rfl | (simp only [List.length_drop, List.length_take]; rfl)) ?_; (with_reducible refine (spec_TilingFirst.calls k t197 t198 t199 t205 t208 _ A5.out).mono ?_); rintro e w12 ⟨v206, rfl, ho0, hb⟩; refine ⟨_, rfl, ?_⟩; have n0_ := Aside0.mk (Kd.R_elder' (by (with_reducible repeat (first | apply Kd.R_alloc | apply Kd.R_drewN | apply Kd.R_drew)); exact HO203.out) (Kd.R_base ho0) hb); have n1_ := Aside0.mk (Kd.R_lower (Kd.R_new' ho0 (Kd.R_lt (by (with_reducible repeat (first | apply Kd.R_alloc | apply Kd.R_drewN | apply Kd.R_drew)); exact HO203.out))) (below_size (by repeat (first | (with_reducible first | exact HB.out | apply below_alloc | apply pw_below_drewN | apply below_drew1 | refine below_set ?_ GE200.out) | exact HB.out)))); have n2_ := Aside0.mk (blk_below (g := gb200) (o := .cells #[.int .i64 t197, .int .i64 t198, .int .i64 t199] 25 (0, 0)) (by (with_reducible repeat (first | refine blk_drewN ?_ _ | refine blk_drew ?_ | refine blk_alloc ?_ _)); exact BK200.out) hb); have n3_ := Aside0.mk (below_step (by repeat (first | (with_reducible first | exact HB.out | apply below_alloc | apply pw_below_drewN | apply below_drew1 | refine below_set ?_ GE200.out) | exact HB.out)) hb); clear HO203; clear BK200; clear HB; have HO203 := n0_; have HO207 := n1_; have BK200 := n2_; have HB := n3_; clear n0_ n1_ n2_ n3_; (try clear hb); (try clear hb2); (try clear hk); (try clear hi); (try clear ho0)))
    (try simp only [Act.put, List.setIfInBounds_toArray, List.set_cons_zero, List.set_cons_succ])
    go_cut [32] (fun v32 wc => ∃ (kq : Nat) (x32_5 : Bool), v32 = .bool x32_5 ∧ Aside0 (laws_FnDominoHoles.j0 kq t201 t204 x32_5 t197 t198 t199 = some r) ∧ Aside0 (kq ≤ k) ∧ Aside0 (Kd.R (Kd.int .i64) 3 wc w.heap.size (fun _ => True) v202 t201) ∧ Aside0 (wc.heap[gb200]? = some (.cells #[.int .i64 t197, .int .i64 t198, .int .i64 t199] 25 (0, 0))) ∧ Aside0 (Below w.heap.size w wc))
    case first =>
      have H := HC6.out
      clear HC6
      replace H := Option.bind_eq_some_iff.mp H
      obtain ⟨t209, A130, H⟩ := H
      replace H : (if t209 = true then (laws_FnDominoHoles.j0 k t201 t204 (t204 != t208) t197 t198 t199) else (laws_FnDominoHoles.j0 k t201 t204 true t197 t198 t199)) = some r := H
      have A13 := Aside0.mk A130
      clear A130
      by_cases c14 : t209 = true
      · subst c14
        have H1 : (laws_FnDominoHoles.j0 k t201 t204 (t204 != t208) t197 t198 t199) = some r := by rw [if_pos rfl] at H; exact H
        clear H
        have H := H1
        clear H1
        have H' := Aside0.mk H
        clear H
        obtain ⟨Ao15, co15, eo15⟩ := Kd.R_slice HO203.out
        subst eo15
        obtain ⟨Ao16, co16, eo16⟩ := Kd.R_slice HO207.out
        subst eo16
        go_wp2_with (first | ((with_reducible refine gate_callee (f := 21) rfl ?_); refine goesL_ (some 26) rfl rfl Tryd.func21 (by kernel_rfl) rfl #[.slice Ao15 t201.length co15, .slice Ao16 t205.length co16] rfl (by (try simp only [List.map_toArray, List.map_cons, List.map_nil]); first | done | rfl | (simp only [List.length_drop, List.length_take]; rfl)) ?_; (with_reducible refine (laws_sameInts.calls k _ _ t201 _ _ t205 true _ ?side1 ?side2 ?side3 ?side4 A13.out).mono ?_); (case side1 => repeat (first | exact (Kd.R_reads' HO203.out).2.2 | (with_reducible refine Kd.C_alloc ?_ _) | (with_reducible refine Kd.C_drewN ?_ _) | (with_reducible refine Kd.C_drew ?_))); (case side2 => exact (Kd.R_reads' HO203.out).2.1); (case side3 => repeat (first | exact (Kd.R_reads' HO207.out).2.2 | (with_reducible refine Kd.C_alloc ?_ _) | (with_reducible refine Kd.C_drewN ?_ _) | (with_reducible refine Kd.C_drew ?_))); (case side4 => exact (Kd.R_reads' HO207.out).2.1); rintro e w' ⟨rfl, ⟨nd, rfl⟩⟩; refine ⟨_, rfl, ?_⟩))
        go_meet
        case rel => exact ⟨_, ((t204 != t208)), (by first | rfl | (simp; done) | (simp [*]; done)), H', ⟨by first | omega | exact Nat.le_refl _⟩, ⟨by (with_reducible repeat (first | apply Kd.R_alloc | apply Kd.R_drewN | apply Kd.R_drew)); exact Kd.R_mono HO203.out (fun _ hk => trivial)⟩, ⟨by (with_reducible repeat (first | refine blk_drewN ?_ _ | refine blk_drew ?_ | refine blk_alloc ?_ _)); exact BK200.out⟩, ⟨by repeat (first | (with_reducible first | exact HB.out | apply below_alloc | apply pw_below_drewN | apply below_drew1 | refine below_set ?_ GE200.out) | exact HB.out)⟩⟩
      · replace c14 := Bool.eq_false_iff.mpr c14
        subst c14
        have H1 : (laws_FnDominoHoles.j0 k t201 t204 true t197 t198 t199) = some r := by rw [if_neg (show ¬ (false = true) by decide)] at H; exact H
        clear H
        have H := H1
        clear H1
        have H' := Aside0.mk H
        clear H
        obtain ⟨Ao17, co17, eo17⟩ := Kd.R_slice HO203.out
        subst eo17
        obtain ⟨Ao18, co18, eo18⟩ := Kd.R_slice HO207.out
        subst eo18
        go_wp2_with (first | ((with_reducible refine gate_callee (f := 21) rfl ?_); refine goesL_ (some 26) rfl rfl Tryd.func21 (by kernel_rfl) rfl #[.slice Ao17 t201.length co17, .slice Ao18 t205.length co18] rfl (by (try simp only [List.map_toArray, List.map_cons, List.map_nil]); first | done | rfl | (simp only [List.length_drop, List.length_take]; rfl)) ?_; (with_reducible refine (laws_sameInts.calls k _ _ t201 _ _ t205 false _ ?side1 ?side2 ?side3 ?side4 A13.out).mono ?_); (case side1 => repeat (first | exact (Kd.R_reads' HO203.out).2.2 | (with_reducible refine Kd.C_alloc ?_ _) | (with_reducible refine Kd.C_drewN ?_ _) | (with_reducible refine Kd.C_drew ?_))); (case side2 => exact (Kd.R_reads' HO203.out).2.1); (case side3 => repeat (first | exact (Kd.R_reads' HO207.out).2.2 | (with_reducible refine Kd.C_alloc ?_ _) | (with_reducible refine Kd.C_drewN ?_ _) | (with_reducible refine Kd.C_drew ?_))); (case side4 => exact (Kd.R_reads' HO207.out).2.1); rintro e w' ⟨rfl, ⟨nd, rfl⟩⟩; refine ⟨_, rfl, ?_⟩))
        go_meet
        case rel => exact ⟨_, (true), (by first | rfl | (simp; done) | (simp [*]; done)), H', ⟨by first | omega | exact Nat.le_refl _⟩, ⟨by (with_reducible repeat (first | apply Kd.R_alloc | apply Kd.R_drewN | apply Kd.R_drew)); exact Kd.R_mono HO203.out (fun _ hk => trivial)⟩, ⟨by (with_reducible repeat (first | refine blk_drewN ?_ _ | refine blk_drew ?_ | refine blk_alloc ?_ _)); exact BK200.out⟩, ⟨by repeat (first | (with_reducible first | exact HB.out | apply below_alloc | apply pw_below_drewN | apply below_drew1 | refine below_set ?_ GE200.out) | exact HB.out)⟩⟩
    case rest =>
      clear HC6
      try clear c1
      try clear c2
      try clear c2b0
      try clear c2b1
      try clear p2
      try clear c6
      try clear c11
      try clear c12
      try clear c14
      try clear hcz11_0
      try clear hcz11_1
      try clear hcz11_2
      try clear hcz9_0
      try clear hcz9_1
      try clear hcz9_2
      try clear hfz11_0
      try clear hfz11_1
      try clear hfz11_2
      try clear hfz9_0
      try clear hfz9_1
      try clear hfz9_2
      obtain ⟨kq, x32_5, rfl, HA, HJ5, HO_4, BK200, HB⟩ := hcut
      cases kq with
      | zero => exact absurd HA.out (by simp [laws_FnDominoHoles.j0])
      | succ kj5 =>
        have H := HA.out
        clear HA
        simp only [laws_FnDominoHoles.j0] at H
        by_cases c19 : x32_5 = true
        · subst c19
          have H1 : (some false) = some r := by rw [if_pos rfl] at H; exact H
          clear H
          have H := H1
          clear H1
          obtain rfl := Option.some.inj H
          go_wp2
          go_ret
          exact ⟨by first | rfl | (simp [errW_none, errW_some] <;> rfl) | (simp [*, errW_none, errW_some] <;> rfl), by repeat (first | (with_reducible first | exact HB.out | apply below_alloc | apply pw_below_drewN | apply below_drew1 | refine below_set ?_ GE200.out) | exact HB.out)⟩
        · replace c19 := Bool.eq_false_iff.mpr c19
          subst c19
          have H1 : (if t204 = true then (if (t201.length : Int) < 2 then (laws_FnDominoHoles.j1 kj5 t201 true t197 t198 t199) else (if 0 < (t201.length : Int) then (if (rd t201 0) < 0 then (laws_FnDominoHoles.j1 kj5 t201 true t197 t198 t199) else (if 1 < (t201.length : Int) then (laws_FnDominoHoles.j1 kj5 t201 (decide ((rd t201 1) < 0)) t197 t198 t199) else (none))) else (none))) else (laws_FnDominoHoles.j1 kj5 t201 true t197 t198 t199)) = some r := by rw [if_neg (show ¬ (false = true) by decide)] at H; exact H
          clear H
          have H := H1
          clear H1
          have HC20 := Aside0.mk H
          clear H
          go_upto_region 8 with (fail)
          go_cut [51] (fun v51 wc => ∃ (kq : Nat) (x51_19 : Bool), v51 = .bool x51_19 ∧ Aside0 (laws_FnDominoHoles.j1 kq t201 x51_19 t197 t198 t199 = some r) ∧ Aside0 (kq ≤ kj5) ∧ Aside0 (Kd.R (Kd.int .i64) 3 wc w.heap.size (fun _ => True) v202 t201) ∧ Aside0 (wc.heap[gb200]? = some (.cells #[.int .i64 t197, .int .i64 t198, .int .i64 t199] 25 (0, 0))) ∧ Aside0 (Below w.heap.size w wc))
          case first =>
            have H := HC20.out
            clear HC20
            by_cases c21 : t204 = true
            · subst c21
              have H1 : (if (t201.length : Int) < 2 then (laws_FnDominoHoles.j1 kj5 t201 true t197 t198 t199) else (if 0 < (t201.length : Int) then (if (rd t201 0) < 0 then (laws_FnDominoHoles.j1 kj5 t201 true t197 t198 t199) else (if 1 < (t201.length : Int) then (laws_FnDominoHoles.j1 kj5 t201 (decide ((rd t201 1) < 0)) t197 t198 t199) else (none))) else (none))) = some r := by rw [if_pos rfl] at H; exact H
              clear H
              have H := H1
              clear H1
              by_cases c22 : (t201.length : Int) < 2
              · rw [if_pos c22] at H
                have c22b0 : decide ((t201.length : Int) < 2) = true := decide_eq_true c22
                have c22b1 : decide (t201.length < 2) = true := decide_eq_true (by omega)
                clear c22
                (first | rw [c22b0] | (simp only [i64_w, i32_w]; rw [c22b0]) | skip)
                have H' := Aside0.mk H
                clear H
                obtain ⟨Ao23, co23, eo23⟩ := Kd.R_slice HO_4.out
                subst eo23
                go_wp2
                go_meet
                case rel => exact ⟨_, (true), (by first | rfl | (simp; done) | (simp [*]; done)), H', ⟨by have := HJ5.out; first | omega | exact Nat.le_refl _⟩, ⟨by (with_reducible repeat (first | apply Kd.R_alloc | apply Kd.R_drewN | apply Kd.R_drew)); exact HO_4.out⟩, ⟨by (with_reducible repeat (first | refine blk_drewN ?_ _ | refine blk_drew ?_ | refine blk_alloc ?_ _)); exact BK200.out⟩, ⟨by repeat (first | (with_reducible first | exact HB.out | apply below_alloc | apply pw_below_drewN | apply below_drew1 | refine below_set ?_ GE200.out) | exact HB.out)⟩⟩
              · rw [if_neg c22] at H
                have c22b0 : decide ((t201.length : Int) < 2) = false := decide_eq_false c22
                have c22b1 : decide (t201.length < 2) = false := decide_eq_false (by omega)
                clear c22
                (first | rw [c22b0] | (simp only [i64_w, i32_w]; rw [c22b0]) | skip)
                by_cases c24 : 0 < (t201.length : Int)
                · rw [if_pos c24] at H
                  have c24b0 : decide (0 < (t201.length : Int)) = true := decide_eq_true c24
                  have c24b1 : decide (0 < t201.length) = true := decide_eq_true (by omega)
                  clear c24
                  by_cases c25 : (rd t201 0) < 0
                  · rw [if_pos c25] at H
                    have c25b0 : decide ((rd t201 0) < 0) = true := decide_eq_true c25
                    clear c25
                    have H' := Aside0.mk H
                    clear H
                    obtain ⟨Ao26, co26, eo26⟩ := Kd.R_slice HO_4.out
                    subst eo26
                    have p210 : 0 ≤ (0 : Int) := (by omega)
                    have q210 : 0 < (t201.length : Int) := of_decide_eq_true (by first | (with_reducible assumption) | assumption)
                    obtain ⟨ad210, e210, hx210_0⟩ := Kd.at_int (Kd.R_reads' HO_4.out).2.2 0 p210 q210
                    cases e210
                    have qi210 : (0 < t201.length) = True := eq_true (by omega)
                    (try rw [show ((0 : Int)).toNat = 0 from rfl] at hx210_0)
                    (try rw [Addr.add_zero'] at hx210_0)
                    replace p210 := eq_true p210
                    replace q210 := eq_true q210
                    go_wp2
                    go_meet
                    case rel => exact ⟨_, (true), (by first | rfl | (simp; done) | (simp [*]; done)), H', ⟨by have := HJ5.out; first | omega | exact Nat.le_refl _⟩, ⟨by (with_reducible repeat (first | apply Kd.R_alloc | apply Kd.R_drewN | apply Kd.R_drew)); exact HO_4.out⟩, ⟨by (with_reducible repeat (first | refine blk_drewN ?_ _ | refine blk_drew ?_ | refine blk_alloc ?_ _)); exact BK200.out⟩, ⟨by repeat (first | (with_reducible first | exact HB.out | apply below_alloc | apply pw_below_drewN | apply below_drew1 | refine below_set ?_ GE200.out) | exact HB.out)⟩⟩
                  · rw [if_neg c25] at H
                    have c25b0 : decide ((rd t201 0) < 0) = false := decide_eq_false c25
                    clear c25
                    by_cases c27 : 1 < (t201.length : Int)
                    · rw [if_pos c27] at H
                      have c27b0 : decide (1 < (t201.length : Int)) = true := decide_eq_true c27
                      have c27b1 : decide (1 < t201.length) = true := decide_eq_true (by omega)
                      clear c27
                      have H' := Aside0.mk H
                      clear H
                      obtain ⟨Ao28, co28, eo28⟩ := Kd.R_slice HO_4.out
                      subst eo28
                      have p210 : 0 ≤ (0 : Int) := (by omega)
                      have q210 : 0 < (t201.length : Int) := of_decide_eq_true (by first | (with_reducible assumption) | assumption)
                      obtain ⟨ad210, e210, hx210_0⟩ := Kd.at_int (Kd.R_reads' HO_4.out).2.2 0 p210 q210
                      cases e210
                      have qi210 : (0 < t201.length) = True := eq_true (by omega)
                      (try rw [show ((0 : Int)).toNat = 0 from rfl] at hx210_0)
                      (try rw [Addr.add_zero'] at hx210_0)
                      replace p210 := eq_true p210
                      replace q210 := eq_true q210
                      have p211 : 0 ≤ (1 : Int) := (by omega)
                      have q211 : 1 < (t201.length : Int) := of_decide_eq_true (by first | (with_reducible assumption) | assumption)
                      obtain ⟨ad211, e211, hx211_0⟩ := Kd.at_int (Kd.R_reads' HO_4.out).2.2 1 p211 q211
                      obtain rfl : ad210 = ad211 := (by injection e211)
                      (try simp only [show (1 : Int).toNat = 1 from rfl, Nat.reduceMul, Nat.reduceEqDiff, Go.Addr.add, ↓reduceIte] at hx211_0)
                      have qi211 : (1 < t201.length) = True := eq_true (by omega)
                      (try rw [show ((1 : Int)).toNat = 1 from rfl] at hx211_0)
                      replace p211 := eq_true p211
                      replace q211 := eq_true q211
                      go_wp2
                      go_meet
                      case rel => exact ⟨_, (decide ((rd t201 1) < 0)), (by first | rfl | (simp; done) | (simp [*]; done)), H', ⟨by have := HJ5.out; first | omega | exact Nat.le_refl _⟩, ⟨by (with_reducible repeat (first | apply Kd.R_alloc | apply Kd.R_drewN | apply Kd.R_drew)); exact HO_4.out⟩, ⟨by (with_reducible repeat (first | refine blk_drewN ?_ _ | refine blk_drew ?_ | refine blk_alloc ?_ _)); exact BK200.out⟩, ⟨by repeat (first | (with_reducible first | exact HB.out | apply below_alloc | apply pw_below_drewN | apply below_drew1 | refine below_set ?_ GE200.out) | exact HB.out)⟩⟩
                    · rw [if_neg c27] at H
                      exact absurd H (by simp)
                · rw [if_neg c24] at H
                  exact absurd H (by simp)
            · replace c21 := Bool.eq_false_iff.mpr c21
              subst c21
              have H1 : (laws_FnDominoHoles.j1 kj5 t201 true t197 t198 t199) = some r := by rw [if_neg (show ¬ (false = true) by decide)] at H; exact H
              clear H
              have H := H1
              clear H1
              have H' := Aside0.mk H
              clear H
              go_wp2
              go_meet
              case rel => exact ⟨_, (true), (by first | rfl | (simp; done) | (simp [*]; done)), H', ⟨by have := HJ5.out; first | omega | exact Nat.le_refl _⟩, ⟨by (with_reducible repeat (first | apply Kd.R_alloc | apply Kd.R_drewN | apply Kd.R_drew)); exact HO_4.out⟩, ⟨by (with_reducible repeat (first | refine blk_drewN ?_ _ | refine blk_drew ?_ | refine blk_alloc ?_ _)); exact BK200.out⟩, ⟨by repeat (first | (with_reducible first | exact HB.out | apply below_alloc | apply pw_below_drewN | apply below_drew1 | refine below_set ?_ GE200.out) | exact HB.out)⟩⟩
          case rest =>
            clear HC20
            try clear c1
            try clear c2
            try clear c2b0
            try clear c2b1
            try clear p2
            try clear q2
            try clear hx2
            try clear qi2
            try clear c6
            try clear c11
            try clear c12
            try clear c14
            try clear c19
            try clear c20
            try clear c21
            try clear p21
            try clear q21
            try clear hx21
            try clear qi21
            try clear c22
            try clear c22b0
            try clear c22b1
            try clear c24
            try clear c24b0
            try clear c24b1
            try clear c25
            try clear c25b0
            try clear c27
            try clear c27b0
            try clear c27b1
            try clear hcz11_0
            try clear hcz11_1
            try clear hcz11_2
            try clear hcz9_0
            try clear hcz9_1
            try clear hcz9_2
            try clear hfz11_0
            try clear hfz11_1
            try clear hfz11_2
            try clear hfz9_0
            try clear hfz9_1
            try clear hfz9_2
            try clear hx210_0
            try clear hx211_0
            try clear p2
            try clear p210
            try clear p211
            try clear q210
            try clear q211
            obtain ⟨kq, x51_19, rfl, HA, HJ19, HO_4, BK200, HB⟩ := hcut
            cases kq with
            | zero => exact absurd HA.out (by simp [laws_FnDominoHoles.j1])
            | succ kj19 =>
              have H := HA.out
              clear HA
              simp only [laws_FnDominoHoles.j1] at H
              by_cases c29 : x51_19 = true
              · subst c29
                have H1 : ((laws_alive.f kj19).bind fun t212 => (some t212)) = some r := by rw [if_pos rfl] at H; exact H
                clear H
                have H := H1
                clear H1
                replace H := Option.bind_eq_some_iff.mp H
                obtain ⟨t212, A300, H⟩ := H
                replace H : (some t212) = some r := H
                have A30 := Aside0.mk A300
                clear A300
                obtain rfl := Option.some.inj H
                go_wp2_with (first | ((with_reducible refine gate_callee (f := 17) rfl ?_); refine goesL_ (some 52) rfl rfl Tryd.func17 (by kernel_rfl) rfl #[] rfl (by (try simp only [List.map_toArray, List.map_cons, List.map_nil]); first | done | rfl | (simp only [List.length_drop, List.length_take]; rfl)) ?_; (with_reducible refine (laws_alive.calls kj19  t212 _ A30.out).mono ?_); rintro e w31 ⟨rfl, hb⟩; refine ⟨_, rfl, ?_⟩; have n0_ := Aside0.mk (Kd.R_below (by (with_reducible repeat (first | apply Kd.R_alloc | apply Kd.R_drewN | apply Kd.R_drew)); exact HO_4.out) hb); have n1_ := Aside0.mk (blk_below (g := gb200) (o := .cells #[.int .i64 t197, .int .i64 t198, .int .i64 t199] 25 (0, 0)) (by (with_reducible repeat (first | refine blk_drewN ?_ _ | refine blk_drew ?_ | refine blk_alloc ?_ _)); exact BK200.out) hb); have n2_ := Aside0.mk (below_step (by repeat (first | (with_reducible first | exact HB.out | apply below_alloc | apply pw_below_drewN | apply below_drew1 | refine below_set ?_ GE200.out) | exact HB.out)) hb); clear HO_4; clear BK200; clear HB; have HO_4 := n0_; have BK200 := n1_; have HB := n2_; clear n0_ n1_ n2_; (try clear hb); (try clear hb2); (try clear hk); (try clear hi)))
                go_ret
                exact ⟨by first | rfl | (simp [errW_none, errW_some] <;> rfl) | (simp [*, errW_none, errW_some] <;> rfl), by repeat (first | (with_reducible first | exact HB.out | apply below_alloc | apply pw_below_drewN | apply below_drew1 | refine below_set ?_ GE200.out) | exact HB.out)⟩
              · replace c29 := Bool.eq_false_iff.mpr c29
                subst c29
                have H1 : (if 0 < (t201.length : Int) then (if 0 ≤ (rd t201 0) then (if 1 < (t201.length : Int) then (if 0 ≤ (rd t201 1) then ((impl_TilingCount.f kj19 t197 t198 (Go.bits .or .i64 (Go.bits .or .i64 t199 (shl .i64 1 (rd t201 0))) (shl .i64 1 (rd t201 1)))).bind fun t215 => (if t215 ≥ 1 then ((impl_TilingCount.f kj19 t197 t198 t199).bind fun t216 => (some (decide (t215 ≤ t216)))) else (some false))) else (none)) else (none)) else (none)) else (none)) = some r := by rw [if_neg (show ¬ (false = true) by decide)] at H; exact H
                clear H
                have H := H1
                clear H1
                by_cases c32 : 0 < (t201.length : Int)
                · rw [if_pos c32] at H
                  have c32b0 : decide (0 < (t201.length : Int)) = true := decide_eq_true c32
                  have c32b1 : decide (0 < t201.length) = true := decide_eq_true (by omega)
                  clear c32
                  by_cases c33 : 0 ≤ (rd t201 0)
                  · rw [if_pos c33] at H
                    have c33b0 := eq_true c33
                    have c33b1 : decide (0 ≤ (rd t201 0)) = true := decide_eq_true c33
                    clear c33
                    obtain ⟨ji34, hji34⟩ : ∃ j_ : Int, (shl .i64 1 (rd t201 0)) = j_ := ⟨_, rfl⟩
                    replace H : (if 1 < (t201.length : Int) then (if 0 ≤ (rd t201 1) then ((impl_TilingCount.f kj19 t197 t198 (Go.bits .or .i64 (Go.bits .or .i64 t199 (ji34)) (shl .i64 1 (rd t201 1)))).bind fun t215 => (if t215 ≥ 1 then ((impl_TilingCount.f kj19 t197 t198 t199).bind fun t216 => (some (decide (t215 ≤ t216)))) else (some false))) else (none)) else (none)) = some r := by first | (rw [hji34] at H; exact H) | (simp only [hji34] at H ⊢; exact H)
                    have hji34_ : (IntKind.i64.wrap (1 * 2 ^ min (rd t201 0).toNat 64)) = ji34 := hji34
                    have hji34z : (rd t201 0) ≤ 64 → (IntKind.i64.wrap (1 * 2 ^ (rd t201 0).toNat)) = ji34 := shl_small hji34
                    have hji34u : (IntKind.i64.wrap (2 ^ min (rd t201 0).toNat 64)) = ji34 := by have h_ := hji34_; rw [Int.one_mul] at h_; exact h_
                    have hji34v : (rd t201 0) ≤ 64 → (IntKind.i64.wrap (2 ^ (rd t201 0).toNat)) = ji34 := fun hle_ => by have h_ := hji34z hle_; rw [Int.one_mul] at h_; exact h_
                    have hji34y : (wrap64 (1 * 2 ^ min (rd t201 0).toNat 64)) = ji34 := (i64_w _).symm.trans hji34_
                    have hji34x : (rd t201 0) ≤ 64 → (wrap64 (1 * 2 ^ (rd t201 0).toNat)) = ji34 := fun h_ => (i64_w _).symm.trans (hji34z h_)
                    by_cases c35 : 1 < (t201.length : Int)
                    · rw [if_pos c35] at H
                      have c35b0 : decide (1 < (t201.length : Int)) = true := decide_eq_true c35
                      have c35b1 : decide (1 < t201.length) = true := decide_eq_true (by omega)
                      clear c35
                      by_cases c36 : 0 ≤ (rd t201 1)
                      · rw [if_pos c36] at H
                        have c36b0 := eq_true c36
                        have c36b1 : decide (0 ≤ (rd t201 1)) = true := decide_eq_true c36
                        clear c36
                        obtain ⟨ji37, hji37⟩ : ∃ j_ : Int, (shl .i64 1 (rd t201 1)) = j_ := ⟨_, rfl⟩
                        replace H : ((impl_TilingCount.f kj19 t197 t198 (Go.bits .or .i64 (Go.bits .or .i64 t199 (ji34)) (ji37))).bind fun t215 => (if t215 ≥ 1 then ((impl_TilingCount.f kj19 t197 t198 t199).bind fun t216 => (some (decide (t215 ≤ t216)))) else (some false))) = some r := by first | (rw [hji37] at H; exact H) | (simp only [hji37] at H ⊢; exact H)
                        have hji37_ : (IntKind.i64.wrap (1 * 2 ^ min (rd t201 1).toNat 64)) = ji37 := hji37
                        have hji37z : (rd t201 1) ≤ 64 → (IntKind.i64.wrap (1 * 2 ^ (rd t201 1).toNat)) = ji37 := shl_small hji37
                        have hji37u : (IntKind.i64.wrap (2 ^ min (rd t201 1).toNat 64)) = ji37 := by have h_ := hji37_; rw [Int.one_mul] at h_; exact h_
                        have hji37v : (rd t201 1) ≤ 64 → (IntKind.i64.wrap (2 ^ (rd t201 1).toNat)) = ji37 := fun hle_ => by have h_ := hji37z hle_; rw [Int.one_mul] at h_; exact h_
                        have hji37y : (wrap64 (1 * 2 ^ min (rd t201 1).toNat 64)) = ji37 := (i64_w _).symm.trans hji37_
                        have hji37x : (rd t201 1) ≤ 64 → (wrap64 (1 * 2 ^ (rd t201 1).toNat)) = ji37 := fun h_ => (i64_w _).symm.trans (hji37z h_)
                        replace H := Option.bind_eq_some_iff.mp H
                        obtain ⟨t215, A380, H⟩ := H
                        replace H : (if t215 ≥ 1 then ((impl_TilingCount.f kj19 t197 t198 t199).bind fun t216 => (some (decide (t215 ≤ t216)))) else (some false)) = some r := H
                        have A38 := Aside0.mk A380
                        clear A380
                        by_cases c39 : t215 ≥ 1
                        · rw [if_pos c39] at H
                          have c39b0 : decide (1 ≤ t215) = true := decide_eq_true c39
                          clear c39
                          replace H := Option.bind_eq_some_iff.mp H
                          obtain ⟨t216, A400, H⟩ := H
                          replace H : (some (decide (t215 ≤ t216))) = some r := H
                          have A40 := Aside0.mk A400
                          clear A400
                          obtain rfl := Option.some.inj H
                          try go_wp2
                          have n0_ := Aside0.mk (Kd.R_drew HO_4.out)
                          have n1_ := Aside0.mk (blk_drew BK200.out)
                          have n2_ := Aside0.mk (below_drew1 HB.out)
                          clear HO_4
                          clear BK200
                          clear HB
                          have HO_4 := n0_
                          have BK200 := n1_
                          have HB := n2_
                          clear n0_ n1_ n2_
                          obtain ⟨Ao42, co42, eo42⟩ := Kd.R_slice HO_4.out
                          (first | subst eo42 | (injection eo42 with f1_ f2_ f3_; have f4_ := f1_.symm; have f5_ := f3_.symm; clear f1_ f2_ f3_; subst f4_; subst f5_))
                          have p213 : 0 ≤ (0 : Int) := (by omega)
                          have q213 : 0 < (t201.length : Int) := of_decide_eq_true (by first | (with_reducible assumption) | assumption)
                          obtain ⟨ad213, e213, hx213_0⟩ := Kd.at_int (Kd.R_reads' HO_4.out).2.2 0 p213 q213
                          cases e213
                          have qi213 : (0 < t201.length) = True := eq_true (by omega)
                          (try rw [show ((0 : Int)).toNat = 0 from rfl] at hx213_0)
                          (try rw [Addr.add_zero'] at hx213_0)
                          replace p213 := eq_true p213
                          replace q213 := eq_true q213
                          have p214 : 0 ≤ (1 : Int) := (by omega)
                          have q214 : 1 < (t201.length : Int) := of_decide_eq_true (by first | (with_reducible assumption) | assumption)
                          obtain ⟨ad214, e214, hx214_0⟩ := Kd.at_int (Kd.R_reads' HO_4.out).2.2 1 p214 q214
                          obtain rfl : ad213 = ad214 := (by injection e214)
                          (try simp only [show (1 : Int).toNat = 1 from rfl, Nat.reduceMul, Nat.reduceEqDiff, Go.Addr.add, ↓reduceIte] at hx214_0)
                          have qi214 : (1 < t201.length) = True := eq_true (by omega)
                          (try rw [show ((1 : Int)).toNat = 1 from rfl] at hx214_0)
                          replace p214 := eq_true p214
                          replace q214 := eq_true q214
                          refine start_ (n := 19) (S := fun w' => w'.cell? ⟨gb200, 0, none⟩ = some (.int .i64 t197) ∧ w'.cell? ⟨gb200, 1, none⟩ = some (.int .i64 t198) ∧ w'.cell? ⟨gb200, 2, none⟩ = some (.int .i64 t199) ∧ w'.cell? ad213 = some (.int .i64 (rd t201 0)) ∧ w'.cell? ⟨ad213.block, ad213.off + 1, none⟩ = some (.int .i64 (rd t201 1))) (ds := []) #[false, false, false, false, false, false, false, false, false, false, false, false, false, false, false, false, false, false, false] (by kernel_rfl) rfl rfl ⟨(blk_cell BK200.out 0).trans rfl, (blk_cell BK200.out 1).trans rfl, (blk_cell BK200.out 2).trans rfl, hx213_0, hx214_0⟩ (fun hHeld => ?_); refine with_tabW laws_FnDominoHoles.tab10 laws_FnDominoHoles.bits10 (fun HT_ HW_ => ?_)
                          generalize wc.drew = w41 at HO_4 BK200 HB hx213_0 hx214_0 hHeld ⊢
                          refine pure_ (i := 0) (N := some 53) (v := ?_) (a' := ?_) #[true, false, false, false, false, false, false, false, false, false, false, false, false, false, false, false, false, false, false] rfl rfl (any_of HT_.out (by kernel_rfl)) (fun _ _ _ h => h) (Or.inl ⟨by rfl, ?_⟩) ?_ ?_
                          rotate_left
                          · intro w'
                            go_simp
                            with_reducible rfl
                          rotate_left
                          · simp only [Act.put, List.setIfInBounds_toArray, List.set_cons_zero, List.set_cons_succ, i64_w, i32_w]
                            rfl
                          refine pure_ (i := 2) (N := some 55) (v := ?_) (a' := ?_) #[true, false, true, false, false, false, false, false, false, false, false, false, false, false, false, false, false, false, false] rfl rfl (any_of HT_.out (by kernel_rfl)) (fun _ _ _ h => h) (Or.inl ⟨by rfl, ?_⟩) ?_ ?_
                          rotate_left
                          · intro w'
                            go_simp
                            with_reducible rfl
                          rotate_left
                          · simp only [Act.put, List.setIfInBounds_toArray, List.set_cons_zero, List.set_cons_succ, i64_w, i32_w]
                            rfl
                          refine pure_ (i := 4) (N := some 57) (v := ?_) (a' := ?_) #[true, false, true, false, true, false, false, false, false, false, false, false, false, false, false, false, false, false, false] rfl rfl (any_of HT_.out (by kernel_rfl)) (fun _ _ _ h => h) (Or.inl ⟨by rfl, ?_⟩) ?_ ?_
                          rotate_left
                          · intro w'
                            go_simp
                            with_reducible rfl
                          rotate_left
                          · simp only [Act.put, List.setIfInBounds_toArray, List.set_cons_zero, List.set_cons_succ, i64_w, i32_w]
                            rfl
                          refine pure_ (i := 6) (N := some 59) (v := ?_) (a' := ?_) #[true, false, true, false, true, false, true, false, false, false, false, false, false, false, false, false, false, false, false] rfl rfl (any_of HT_.out (by kernel_rfl)) (fun _ _ _ h => h) (Or.inl ⟨by rfl, ?_⟩) ?_ ?_
                          rotate_left
                          · intro w'
                            go_simp
                            with_reducible rfl
                          rotate_left
                          · simp only [Act.put, List.setIfInBounds_toArray, List.set_cons_zero, List.set_cons_succ, i64_w, i32_w]
                            rfl
                          refine pure_ (i := 7) (N := some 60) (v := ?_) (a' := ?_) #[true, false, true, false, true, false, true, true, false, false, false, false, false, false, false, false, false, false, false] rfl rfl (any_of HT_.out (by kernel_rfl)) (fun _ _ _ h => h) (Or.inl ⟨by rfl, ?_⟩) ?_ ?_
                          rotate_left
                          · intro w'
                            go_simp
                            with_reducible rfl
                          rotate_left
                          · simp only [Act.put, List.setIfInBounds_toArray, List.set_cons_zero, List.set_cons_succ, i64_w, i32_w]
                            rfl
                          refine pure_ (i := 11) (N := some 64) (v := ?_) (a' := ?_) #[true, false, true, false, true, false, true, true, false, false, false, true, false, false, false, false, false, false, false] rfl rfl (any_of HT_.out (by kernel_rfl)) (fun _ _ _ h => h) (Or.inl ⟨by rfl, ?_⟩) ?_ ?_
                          rotate_left
                          · intro w'
                            go_simp
                            with_reducible rfl
                          rotate_left
                          · simp only [Act.put, List.setIfInBounds_toArray, List.set_cons_zero, List.set_cons_succ, i64_w, i32_w]
                            rfl
                          refine pure_ (i := 12) (N := some 65) (v := ?_) (a' := ?_) #[true, false, true, false, true, false, true, true, false, false, false, true, true, false, false, false, false, false, false] rfl rfl (any_of HT_.out (by kernel_rfl)) (fun _ _ _ h => h) (Or.inl ⟨by rfl, ?_⟩) ?_ ?_
                          rotate_left
                          · intro w'
                            go_simp
                            with_reducible rfl
                          rotate_left
                          · simp only [Act.put, List.setIfInBounds_toArray, List.set_cons_zero, List.set_cons_succ, i64_w, i32_w]
                            rfl
                          refine take_ (i := 1) (N := some 54) (v := ?_) (a' := ?_) #[true, true, true, false, true, false, true, true, false, false, false, true, true, false, false, false, false, false, false] rfl rfl (take_ofW HT_.out HW_.out (by kernel_rfl)) (fun _ _ _ h => h) (Or.inl ⟨by rfl, ?_⟩) hHeld ?_ ?_
                          rotate_left
                          · rintro w' ⟨s0, s1, s2, s3, s4⟩
                            go_simp
                            with_reducible rfl
                          rotate_left
                          · simp only [Act.put, List.setIfInBounds_toArray, List.set_cons_zero, List.set_cons_succ, i64_w, i32_w]
                            rfl
                          refine take_ (i := 3) (N := some 56) (v := ?_) (a' := ?_) #[true, true, true, true, true, false, true, true, false, false, false, true, true, false, false, false, false, false, false] rfl rfl (take_ofW HT_.out HW_.out (by kernel_rfl)) (fun _ _ _ h => h) (Or.inl ⟨by rfl, ?_⟩) hHeld ?_ ?_
                          rotate_left
                          · rintro w' ⟨s0, s1, s2, s3, s4⟩
                            go_simp
                            with_reducible rfl
                          rotate_left
                          · simp only [Act.put, List.setIfInBounds_toArray, List.set_cons_zero, List.set_cons_succ, i64_w, i32_w]
                            rfl
                          refine take_ (i := 5) (N := some 58) (v := ?_) (a' := ?_) #[true, true, true, true, true, true, true, true, false, false, false, true, true, false, false, false, false, false, false] rfl rfl (take_ofW HT_.out HW_.out (by kernel_rfl)) (fun _ _ _ h => h) (Or.inl ⟨by rfl, ?_⟩) hHeld ?_ ?_
                          rotate_left
                          · rintro w' ⟨s0, s1, s2, s3, s4⟩
                            go_simp
                            with_reducible rfl
                          rotate_left
                          · simp only [Act.put, List.setIfInBounds_toArray, List.set_cons_zero, List.set_cons_succ, i64_w, i32_w]
                            rfl
                          refine take_ (i := 8) (N := some 61) (v := ?_) (a' := ?_) #[true, true, true, true, true, true, true, true, true, false, false, true, true, false, false, false, false, false, false] rfl rfl (take_ofW HT_.out HW_.out (by kernel_rfl)) (fun _ _ _ h => h) (Or.inl ⟨by rfl, ?_⟩) hHeld ?_ ?_
                          rotate_left
                          · rintro w' ⟨s0, s1, s2, s3, s4⟩
                            go_simp
                            with_reducible rfl
                          rotate_left
                          · simp only [Act.put, List.setIfInBounds_toArray, List.set_cons_zero, List.set_cons_succ, i64_w, i32_w]
                            rfl
                          refine pure_ (i := 9) (N := some 62) (v := ?_) (a' := ?_) #[true, true, true, true, true, true, true, true, true, true, false, true, true, false, false, false, false, false, false] rfl rfl (any_of HT_.out (by kernel_rfl)) (fun _ _ _ h => h) (Or.inl ⟨by rfl, ?_⟩) ?_ ?_
                          rotate_left
                          · intro w'
                            go_simp
                            with_reducible rfl
                          rotate_left
                          · simp only [Act.put, List.setIfInBounds_toArray, List.set_cons_zero, List.set_cons_succ, i64_w, i32_w]
                            rfl
                          refine pure_ (i := 10) (N := some 63) (v := ?_) (a' := ?_) #[true, true, true, true, true, true, true, true, true, true, true, true, true, false, false, false, false, false, false] rfl rfl (any_of HT_.out (by kernel_rfl)) (fun _ _ _ h => h) (Or.inl ⟨by rfl, ?_⟩) ?_ ?_
                          rotate_left
                          · intro w'
                            go_simp
                            with_reducible rfl
                          rotate_left
                          · simp only [Act.put, List.setIfInBounds_toArray, List.set_cons_zero, List.set_cons_succ, i64_w, i32_w]
                            rfl
                          refine take_ (i := 13) (N := some 66) (v := ?_) (a' := ?_) #[true, true, true, true, true, true, true, true, true, true, true, true, true, true, false, false, false, false, false] rfl rfl (take_ofW HT_.out HW_.out (by kernel_rfl)) (fun _ _ _ h => h) (Or.inl ⟨by rfl, ?_⟩) hHeld ?_ ?_
                          rotate_left
                          · rintro w' ⟨s0, s1, s2, s3, s4⟩
                            go_simp
                            with_reducible rfl
                          rotate_left
                          · simp only [Act.put, List.setIfInBounds_toArray, List.set_cons_zero, List.set_cons_succ, i64_w, i32_w]
                            rfl
                          refine pure_ (i := 14) (N := some 67) (v := ?_) (a' := ?_) #[true, true, true, true, true, true, true, true, true, true, true, true, true, true, true, false, false, false, false] rfl rfl (any_of HT_.out (by kernel_rfl)) (fun _ _ _ h => h) (Or.inl ⟨by rfl, ?_⟩) ?_ ?_
                          rotate_left
                          · intro w'
                            go_simp
                            with_reducible rfl
                          rotate_left
                          · simp only [Act.put, List.setIfInBounds_toArray, List.set_cons_zero, List.set_cons_succ, i64_w, i32_w]
                            rfl
                          refine pure_ (i := 15) (N := some 68) (v := ?_) (a' := ?_) #[true, true, true, true, true, true, true, true, true, true, true, true, true, true, true, true, false, false, false] rfl rfl (any_of HT_.out (by kernel_rfl)) (fun _ _ _ h => h) (Or.inl ⟨by rfl, ?_⟩) ?_ ?_
                          rotate_left
                          · intro w'
                            go_simp
                            with_reducible rfl
                          rotate_left
                          · simp only [Act.put, List.setIfInBounds_toArray, List.set_cons_zero, List.set_cons_succ, i64_w, i32_w]
                            rfl
                          refine pure_ (i := 16) (N := some 69) (v := ?_) (a' := ?_) #[true, true, true, true, true, true, true, true, true, true, true, true, true, true, true, true, true, false, false] rfl rfl (any_of HT_.out (by kernel_rfl)) (fun _ _ _ h => h) (Or.inl ⟨by rfl, ?_⟩) ?_ ?_
                          rotate_left
                          · intro w'
                            go_simp
                            with_reducible rfl
                          rotate_left
                          · simp only [Act.put, List.setIfInBounds_toArray, List.set_cons_zero, List.set_cons_succ, i64_w, i32_w]
                            rfl
                          refine one_ (i := 17) (N := some 70) #[true, true, true, true, true, true, true, true, true, true, true, true, true, true, true, true, true, true, false] rfl rfl (one_of HT_.out (by kernel_rfl)) (by decide) (fun K hK => ?_)
                          refine goes_ Tryd.func10 (by kernel_rfl) rfl #[.agg #[.int .i64 t197, .int .i64 t198, .int .i64 (Go.bits .or .i64 (Go.bits .or .i64 t199 (ji34)) (ji37))]] (by rfl) rfl rfl (by (try simp only [List.map_toArray, List.map_cons, List.map_nil]); first | done | (simp only [hji34, hji37]; rfl) | rfl | (simp only [List.length_drop, List.length_take]; rfl)) ?_
                          with_reducible refine (impl_TilingCount.calls kj19 t197 t198 (Go.bits .or .i64 (Go.bits .or .i64 t199 (ji34)) (ji37)) t215 _ (HT.out.below (by repeat (first | (with_reducible first | exact HB.out | apply below_alloc | apply pw_below_drewN | apply below_drew1 | refine below_set ?_ GE200.out) | exact HB.out))) A38.out).mono ?_
                          rintro e w43 ⟨rfl, hb⟩
                          have HS3_ := (hb.cell (World.block_lt_of_cell? _ _ (hHeld.2.2.2.1))).trans (hHeld.2.2.2.1)
                          have HS4_ := (hb.cell (World.block_lt_of_cell? _ _ (hHeld.2.2.2.2))).trans (hHeld.2.2.2.2)
                          refine ⟨_, rfl, ?_⟩
                          have n0_ := Aside0.mk (Kd.R_below (by (with_reducible repeat (first | apply Kd.R_alloc | apply Kd.R_drewN | apply Kd.R_drew)); exact HO_4.out) hb)
                          have n1_ := Aside0.mk (blk_below (g := gb200) (o := .cells #[.int .i64 t197, .int .i64 t198, .int .i64 t199] 25 (0, 0)) (by (with_reducible repeat (first | refine blk_drewN ?_ _ | refine blk_drew ?_ | refine blk_alloc ?_ _)); exact BK200.out) hb)
                          have n2_ := Aside0.mk (below_step (by repeat (first | (with_reducible first | exact HB.out | apply below_alloc | apply pw_below_drewN | apply below_drew1 | refine below_set ?_ GE200.out) | exact HB.out)) hb)
                          clear HO_4
                          clear BK200
                          clear HB
                          have HO_4 := n0_
                          have BK200 := n1_
                          have HB := n2_
                          clear n0_ n1_ n2_
                          (try clear hb)
                          (try clear hb2)
                          (try clear hk)
                          (try clear hi)
                          refine hK.out _ _ ⟨(blk_cell BK200.out 0).trans rfl, (blk_cell BK200.out 1).trans rfl, (blk_cell BK200.out 2).trans rfl, HS3_, HS4_⟩ (fun hHeld => ?_)
                          clear hK K
                          refine norm_ (a' := ?_) ?_ ?_
                          rotate_left
                          · show Act.put _ (some 70) _ = _
                            simp only [Act.put, List.setIfInBounds_toArray, List.set_cons_zero, List.set_cons_succ, i64_w, i32_w]
                            rfl
                          refine pure_ (i := 18) (N := some 8) (v := ?_) (a' := ?_) #[true, true, true, true, true, true, true, true, true, true, true, true, true, true, true, true, true, true, true] rfl rfl (any_of HT_.out (by kernel_rfl)) (fun _ _ _ h => h) (Or.inl ⟨by rfl, ?_⟩) ?_ ?_
                          rotate_left
                          · intro w'
                            go_simp
                            with_reducible rfl
                          rotate_left
                          · simp only [Act.put, List.setIfInBounds_toArray, List.set_cons_zero, List.set_cons_succ, i64_w, i32_w]
                            rfl
                          refine done_ (done_of HT_.out (by kernel_rfl)) ?_
                          have hcz44_0 : w43.cell? ⟨gb200, 0, none⟩ = some (.int .i64 t197) := (blk_cell BK200.out 0).trans rfl
                          have hcz44_1 : w43.cell? ⟨gb200, 1, none⟩ = some (.int .i64 t198) := (blk_cell BK200.out 1).trans rfl
                          have hcz44_2 : w43.cell? ⟨gb200, 2, none⟩ = some (.int .i64 t199) := (blk_cell BK200.out 2).trans rfl
                          have hfz44_0 := blk_frozen BK200.out 0
                          have hfz44_1 := blk_frozen BK200.out 1
                          have hfz44_2 := blk_frozen BK200.out 2
                          try go_wp2_with (first | (go_at_call 10; (with_reducible refine (impl_TilingCount.calls kj19 t197 t198 t199 t216 _ (HT.out.below (by repeat (first | (with_reducible first | exact HB.out | apply below_alloc | apply pw_below_drewN | apply below_drew1 | refine below_set ?_ GE200.out) | exact HB.out))) A40.out).mono ?_); rintro e w45 ⟨rfl, hb⟩; have n0_ := Aside0.mk (Kd.R_below (by (with_reducible repeat (first | apply Kd.R_alloc | apply Kd.R_drewN | apply Kd.R_drew)); exact HO_4.out) hb); have n1_ := Aside0.mk (blk_below (g := gb200) (o := .cells #[.int .i64 t197, .int .i64 t198, .int .i64 t199] 25 (0, 0)) (by (with_reducible repeat (first | refine blk_drewN ?_ _ | refine blk_drew ?_ | refine blk_alloc ?_ _)); exact BK200.out) hb); have n2_ := Aside0.mk (below_step (by repeat (first | (with_reducible first | exact HB.out | apply below_alloc | apply pw_below_drewN | apply below_drew1 | refine below_set ?_ GE200.out) | exact HB.out)) hb); clear HO_4; clear BK200; clear HB; have HO_4 := n0_; have BK200 := n1_; have HB := n2_; clear n0_ n1_ n2_; (try clear hb); (try clear hb2); (try clear hk); (try clear hi)))
                          go_ret
                          exact ⟨by first | rfl | (simp [errW_none, errW_some] <;> rfl) | (simp only [← hji34, ← hji37]; first | rfl | (simp [errW_none, errW_some] <;> rfl)) | (simp [*, errW_none, errW_some] <;> rfl), by repeat (first | (with_reducible first | exact HB.out | apply below_alloc | apply pw_below_drewN | apply below_drew1 | refine below_set ?_ GE200.out) | exact HB.out)⟩
                        · rw [if_neg c39] at H
                          have c39b0 : decide (1 ≤ t215) = false := decide_eq_false c39
                          clear c39
                          obtain rfl := Option.some.inj H
                          try go_wp2
                          have n0_ := Aside0.mk (Kd.R_drew HO_4.out)
                          have n1_ := Aside0.mk (blk_drew BK200.out)
                          have n2_ := Aside0.mk (below_drew1 HB.out)
                          clear HO_4
                          clear BK200
                          clear HB
                          have HO_4 := n0_
                          have BK200 := n1_
                          have HB := n2_
                          clear n0_ n1_ n2_
                          obtain ⟨Ao47, co47, eo47⟩ := Kd.R_slice HO_4.out
                          (first | subst eo47 | (injection eo47 with f1_ f2_ f3_; have f4_ := f1_.symm; have f5_ := f3_.symm; clear f1_ f2_ f3_; subst f4_; subst f5_))
                          have p213 : 0 ≤ (0 : Int) := (by omega)
                          have q213 : 0 < (t201.length : Int) := of_decide_eq_true (by first | (with_reducible assumption) | assumption)
                          obtain ⟨ad213, e213, hx213_0⟩ := Kd.at_int (Kd.R_reads' HO_4.out).2.2 0 p213 q213
                          cases e213
                          have qi213 : (0 < t201.length) = True := eq_true (by omega)
                          (try rw [show ((0 : Int)).toNat = 0 from rfl] at hx213_0)
                          (try rw [Addr.add_zero'] at hx213_0)
                          replace p213 := eq_true p213
                          replace q213 := eq_true q213
                          have p214 : 0 ≤ (1 : Int) := (by omega)
                          have q214 : 1 < (t201.length : Int) := of_decide_eq_true (by first | (with_reducible assumption) | assumption)
                          obtain ⟨ad214, e214, hx214_0⟩ := Kd.at_int (Kd.R_reads' HO_4.out).2.2 1 p214 q214
                          obtain rfl : ad213 = ad214 := (by injection e214)
                          (try simp only [show (1 : Int).toNat = 1 from rfl, Nat.reduceMul, Nat.reduceEqDiff, Go.Addr.add, ↓reduceIte] at hx214_0)
                          have qi214 : (1 < t201.length) = True := eq_true (by omega)
                          (try rw [show ((1 : Int)).toNat = 1 from rfl] at hx214_0)
                          replace p214 := eq_true p214
                          replace q214 := eq_true q214
                          refine start_ (n := 19) (S := fun w' => w'.cell? ⟨gb200, 0, none⟩ = some (.int .i64 t197) ∧ w'.cell? ⟨gb200, 1, none⟩ = some (.int .i64 t198) ∧ w'.cell? ⟨gb200, 2, none⟩ = some (.int .i64 t199) ∧ w'.cell? ad213 = some (.int .i64 (rd t201 0)) ∧ w'.cell? ⟨ad213.block, ad213.off + 1, none⟩ = some (.int .i64 (rd t201 1))) (ds := []) #[false, false, false, false, false, false, false, false, false, false, false, false, false, false, false, false, false, false, false] (by kernel_rfl) rfl rfl ⟨(blk_cell BK200.out 0).trans rfl, (blk_cell BK200.out 1).trans rfl, (blk_cell BK200.out 2).trans rfl, hx213_0, hx214_0⟩ (fun hHeld => ?_); refine with_tabW laws_FnDominoHoles.tab10 laws_FnDominoHoles.bits10 (fun HT_ HW_ => ?_)
                          generalize wc.drew = w46 at HO_4 BK200 HB hx213_0 hx214_0 hHeld ⊢
                          refine pure_ (i := 0) (N := some 53) (v := ?_) (a' := ?_) #[true, false, false, false, false, false, false, false, false, false, false, false, false, false, false, false, false, false, false] rfl rfl (any_of HT_.out (by kernel_rfl)) (fun _ _ _ h => h) (Or.inl ⟨by rfl, ?_⟩) ?_ ?_
                          rotate_left
                          · intro w'
                            go_simp
                            with_reducible rfl
                          rotate_left
                          · simp only [Act.put, List.setIfInBounds_toArray, List.set_cons_zero, List.set_cons_succ, i64_w, i32_w]
                            rfl
                          refine pure_ (i := 2) (N := some 55) (v := ?_) (a' := ?_) #[true, false, true, false, false, false, false, false, false, false, false, false, false, false, false, false, false, false, false] rfl rfl (any_of HT_.out (by kernel_rfl)) (fun _ _ _ h => h) (Or.inl ⟨by rfl, ?_⟩) ?_ ?_
                          rotate_left
                          · intro w'
                            go_simp
                            with_reducible rfl
                          rotate_left
                          · simp only [Act.put, List.setIfInBounds_toArray, List.set_cons_zero, List.set_cons_succ, i64_w, i32_w]
                            rfl
                          refine pure_ (i := 4) (N := some 57) (v := ?_) (a' := ?_) #[true, false, true, false, true, false, false, false, false, false, false, false, false, false, false, false, false, false, false] rfl rfl (any_of HT_.out (by kernel_rfl)) (fun _ _ _ h => h) (Or.inl ⟨by rfl, ?_⟩) ?_ ?_
                          rotate_left
                          · intro w'
                            go_simp
                            with_reducible rfl
                          rotate_left
                          · simp only [Act.put, List.setIfInBounds_toArray, List.set_cons_zero, List.set_cons_succ, i64_w, i32_w]
                            rfl
                          refine pure_ (i := 6) (N := some 59) (v := ?_) (a' := ?_) #[true, false, true, false, true, false, true, false, false, false, false, false, false, false, false, false, false, false, false] rfl rfl (any_of HT_.out (by kernel_rfl)) (fun _ _ _ h => h) (Or.inl ⟨by rfl, ?_⟩) ?_ ?_
                          rotate_left
                          · intro w'
                            go_simp
                            with_reducible rfl
                          rotate_left
                          · simp only [Act.put, List.setIfInBounds_toArray, List.set_cons_zero, List.set_cons_succ, i64_w, i32_w]
                            rfl
                          refine pure_ (i := 7) (N := some 60) (v := ?_) (a' := ?_) #[true, false, true, false, true, false, true, true, false, false, false, false, false, false, false, false, false, false, false] rfl rfl (any_of HT_.out (by kernel_rfl)) (fun _ _ _ h => h) (Or.inl ⟨by rfl, ?_⟩) ?_ ?_
                          rotate_left
                          · intro w'
                            go_simp
                            with_reducible rfl
                          rotate_left
                          · simp only [Act.put, List.setIfInBounds_toArray, List.set_cons_zero, List.set_cons_succ, i64_w, i32_w]
                            rfl
                          refine pure_ (i := 11) (N := some 64) (v := ?_) (a' := ?_) #[true, false, true, false, true, false, true, true, false, false, false, true, false, false, false, false, false, false, false] rfl rfl (any_of HT_.out (by kernel_rfl)) (fun _ _ _ h => h) (Or.inl ⟨by rfl, ?_⟩) ?_ ?_
                          rotate_left
                          · intro w'
                            go_simp
                            with_reducible rfl
                          rotate_left
                          · simp only [Act.put, List.setIfInBounds_toArray, List.set_cons_zero, List.set_cons_succ, i64_w, i32_w]
                            rfl
                          refine pure_ (i := 12) (N := some 65) (v := ?_) (a' := ?_) #[true, false, true, false, true, false, true, true, false, false, false, true, true, false, false, false, false, false, false] rfl rfl (any_of HT_.out (by kernel_rfl)) (fun _ _ _ h => h) (Or.inl ⟨by rfl, ?_⟩) ?_ ?_
                          rotate_left
                          · intro w'
                            go_simp
                            with_reducible rfl
                          rotate_left
                          · simp only [Act.put, List.setIfInBounds_toArray, List.set_cons_zero, List.set_cons_succ, i64_w, i32_w]
                            rfl
                          refine take_ (i := 1) (N := some 54) (v := ?_) (a' := ?_) #[true, true, true, false, true, false, true, true, false, false, false, true, true, false, false, false, false, false, false] rfl rfl (take_ofW HT_.out HW_.out (by kernel_rfl)) (fun _ _ _ h => h) (Or.inl ⟨by rfl, ?_⟩) hHeld ?_ ?_
                          rotate_left
                          · rintro w' ⟨s0, s1, s2, s3, s4⟩
                            go_simp
                            with_reducible rfl
                          rotate_left
                          · simp only [Act.put, List.setIfInBounds_toArray, List.set_cons_zero, List.set_cons_succ, i64_w, i32_w]
                            rfl
                          refine take_ (i := 3) (N := some 56) (v := ?_) (a' := ?_) #[true, true, true, true, true, false, true, true, false, false, false, true, true, false, false, false, false, false, false] rfl rfl (take_ofW HT_.out HW_.out (by kernel_rfl)) (fun _ _ _ h => h) (Or.inl ⟨by rfl, ?_⟩) hHeld ?_ ?_
                          rotate_left
                          · rintro w' ⟨s0, s1, s2, s3, s4⟩
                            go_simp
                            with_reducible rfl
                          rotate_left
                          · simp only [Act.put, List.setIfInBounds_toArray, List.set_cons_zero, List.set_cons_succ, i64_w, i32_w]
                            rfl
                          refine take_ (i := 5) (N := some 58) (v := ?_) (a' := ?_) #[true, true, true, true, true, true, true, true, false, false, false, true, true, false, false, false, false, false, false] rfl rfl (take_ofW HT_.out HW_.out (by kernel_rfl)) (fun _ _ _ h => h) (Or.inl ⟨by rfl, ?_⟩) hHeld ?_ ?_
                          rotate_left
                          · rintro w' ⟨s0, s1, s2, s3, s4⟩
                            go_simp
                            with_reducible rfl
                          rotate_left
                          · simp only [Act.put, List.setIfInBounds_toArray, List.set_cons_zero, List.set_cons_succ, i64_w, i32_w]
                            rfl
                          refine take_ (i := 8) (N := some 61) (v := ?_) (a' := ?_) #[true, true, true, true, true, true, true, true, true, false, false, true, true, false, false, false, false, false, false] rfl rfl (take_ofW HT_.out HW_.out (by kernel_rfl)) (fun _ _ _ h => h) (Or.inl ⟨by rfl, ?_⟩) hHeld ?_ ?_
                          rotate_left
                          · rintro w' ⟨s0, s1, s2, s3, s4⟩
                            go_simp
                            with_reducible rfl
                          rotate_left
                          · simp only [Act.put, List.setIfInBounds_toArray, List.set_cons_zero, List.set_cons_succ, i64_w, i32_w]
                            rfl
                          refine pure_ (i := 9) (N := some 62) (v := ?_) (a' := ?_) #[true, true, true, true, true, true, true, true, true, true, false, true, true, false, false, false, false, false, false] rfl rfl (any_of HT_.out (by kernel_rfl)) (fun _ _ _ h => h) (Or.inl ⟨by rfl, ?_⟩) ?_ ?_
                          rotate_left
                          · intro w'
                            go_simp
                            with_reducible rfl
                          rotate_left
                          · simp only [Act.put, List.setIfInBounds_toArray, List.set_cons_zero, List.set_cons_succ, i64_w, i32_w]
                            rfl
                          refine pure_ (i := 10) (N := some 63) (v := ?_) (a' := ?_) #[true, true, true, true, true, true, true, true, true, true, true, true, true, false, false, false, false, false, false] rfl rfl (any_of HT_.out (by kernel_rfl)) (fun _ _ _ h => h) (Or.inl ⟨by rfl, ?_⟩) ?_ ?_
                          rotate_left
                          · intro w'
                            go_simp
                            with_reducible rfl
                          rotate_left
                          · simp only [Act.put, List.setIfInBounds_toArray, List.set_cons_zero, List.set_cons_succ, i64_w, i32_w]
                            rfl
                          refine take_ (i := 13) (N := some 66) (v := ?_) (a' := ?_) #[true, true, true, true, true, true, true, true, true, true, true, true, true, true, false, false, false, false, false] rfl rfl (take_ofW HT_.out HW_.out (by kernel_rfl)) (fun _ _ _ h => h) (Or.inl ⟨by rfl, ?_⟩) hHeld ?_ ?_
                          rotate_left
                          · rintro w' ⟨s0, s1, s2, s3, s4⟩
                            go_simp
                            with_reducible rfl
                          rotate_left
                          · simp only [Act.put, List.setIfInBounds_toArray, List.set_cons_zero, List.set_cons_succ, i64_w, i32_w]
                            rfl
                          refine pure_ (i := 14) (N := some 67) (v := ?_) (a' := ?_) #[true, true, true, true, true, true, true, true, true, true, true, true, true, true, true, false, false, false, false] rfl rfl (any_of HT_.out (by kernel_rfl)) (fun _ _ _ h => h) (Or.inl ⟨by rfl, ?_⟩) ?_ ?_
                          rotate_left
                          · intro w'
                            go_simp
                            with_reducible rfl
                          rotate_left
                          · simp only [Act.put, List.setIfInBounds_toArray, List.set_cons_zero, List.set_cons_succ, i64_w, i32_w]
                            rfl
                          refine pure_ (i := 15) (N := some 68) (v := ?_) (a' := ?_) #[true, true, true, true, true, true, true, true, true, true, true, true, true, true, true, true, false, false, false] rfl rfl (any_of HT_.out (by kernel_rfl)) (fun _ _ _ h => h) (Or.inl ⟨by rfl, ?_⟩) ?_ ?_
                          rotate_left
                          · intro w'
                            go_simp
                            with_reducible rfl
                          rotate_left
                          · simp only [Act.put, List.setIfInBounds_toArray, List.set_cons_zero, List.set_cons_succ, i64_w, i32_w]
                            rfl
                          refine pure_ (i := 16) (N := some 69) (v := ?_) (a' := ?_) #[true, true, true, true, true, true, true, true, true, true, true, true, true, true, true, true, true, false, false] rfl rfl (any_of HT_.out (by kernel_rfl)) (fun _ _ _ h => h) (Or.inl ⟨by rfl, ?_⟩) ?_ ?_
                          rotate_left
                          · intro w'
                            go_simp
                            with_reducible rfl
                          rotate_left
                          · simp only [Act.put, List.setIfInBounds_toArray, List.set_cons_zero, List.set_cons_succ, i64_w, i32_w]
                            rfl
                          refine one_ (i := 17) (N := some 70) #[true, true, true, true, true, true, true, true, true, true, true, true, true, true, true, true, true, true, false] rfl rfl (one_of HT_.out (by kernel_rfl)) (by decide) (fun K hK => ?_)
                          refine goes_ Tryd.func10 (by kernel_rfl) rfl #[.agg #[.int .i64 t197, .int .i64 t198, .int .i64 (Go.bits .or .i64 (Go.bits .or .i64 t199 (ji34)) (ji37))]] (by rfl) rfl rfl (by (try simp only [List.map_toArray, List.map_cons, List.map_nil]); first | done | (simp only [hji34, hji37]; rfl) | rfl | (simp only [List.length_drop, List.length_take]; rfl)) ?_
                          with_reducible refine (impl_TilingCount.calls kj19 t197 t198 (Go.bits .or .i64 (Go.bits .or .i64 t199 (ji34)) (ji37)) t215 _ (HT.out.below (by repeat (first | (with_reducible first | exact HB.out | apply below_alloc | apply pw_below_drewN | apply below_drew1 | refine below_set ?_ GE200.out) | exact HB.out))) A38.out).mono ?_
                          rintro e w48 ⟨rfl, hb⟩
                          have HS3_ := (hb.cell (World.block_lt_of_cell? _ _ (hHeld.2.2.2.1))).trans (hHeld.2.2.2.1)
                          have HS4_ := (hb.cell (World.block_lt_of_cell? _ _ (hHeld.2.2.2.2))).trans (hHeld.2.2.2.2)
                          refine ⟨_, rfl, ?_⟩
                          have n0_ := Aside0.mk (Kd.R_below (by (with_reducible repeat (first | apply Kd.R_alloc | apply Kd.R_drewN | apply Kd.R_drew)); exact HO_4.out) hb)
                          have n1_ := Aside0.mk (blk_below (g := gb200) (o := .cells #[.int .i64 t197, .int .i64 t198, .int .i64 t199] 25 (0, 0)) (by (with_reducible repeat (first | refine blk_drewN ?_ _ | refine blk_drew ?_ | refine blk_alloc ?_ _)); exact BK200.out) hb)
                          have n2_ := Aside0.mk (below_step (by repeat (first | (with_reducible first | exact HB.out | apply below_alloc | apply pw_below_drewN | apply below_drew1 | refine below_set ?_ GE200.out) | exact HB.out)) hb)
                          clear HO_4
                          clear BK200
                          clear HB
                          have HO_4 := n0_
                          have BK200 := n1_
                          have HB := n2_
                          clear n0_ n1_ n2_
                          (try clear hb)
                          (try clear hb2)
                          (try clear hk)
                          (try clear hi)
                          refine hK.out _ _ ⟨(blk_cell BK200.out 0).trans rfl, (blk_cell BK200.out 1).trans rfl, (blk_cell BK200.out 2).trans rfl, HS3_, HS4_⟩ (fun hHeld => ?_)
                          clear hK K
                          refine norm_ (a' := ?_) ?_ ?_
                          rotate_left
                          · show Act.put _ (some 70) _ = _
                            simp only [Act.put, List.setIfInBounds_toArray, List.set_cons_zero, List.set_cons_succ, i64_w, i32_w]
                            rfl
                          refine pure_ (i := 18) (N := some 8) (v := ?_) (a' := ?_) #[true, true, true, true, true, true, true, true, true, true, true, true, true, true, true, true, true, true, true] rfl rfl (any_of HT_.out (by kernel_rfl)) (fun _ _ _ h => h) (Or.inl ⟨by rfl, ?_⟩) ?_ ?_
                          rotate_left
                          · intro w'
                            go_simp
                            with_reducible rfl
                          rotate_left
                          · simp only [Act.put, List.setIfInBounds_toArray, List.set_cons_zero, List.set_cons_succ, i64_w, i32_w]
                            rfl
                          refine done_ (done_of HT_.out (by kernel_rfl)) ?_
                          try go_wp2
                          go_ret
                          exact ⟨by first | rfl | (simp [errW_none, errW_some] <;> rfl) | (simp only [← hji34, ← hji37]; first | rfl | (simp [errW_none, errW_some] <;> rfl)) | (simp [*, errW_none, errW_some] <;> rfl), by repeat (first | (with_reducible first | exact HB.out | apply below_alloc | apply pw_below_drewN | apply below_drew1 | refine below_set ?_ GE200.out) | exact HB.out)⟩
                      · rw [if_neg c36] at H
                        exact absurd H (by simp)
                    · rw [if_neg c35] at H
                      exact absurd H (by simp)
                  · rw [if_neg c33] at H
                    exact absurd H (by simp)
                · rw [if_neg c32] at H
                  exact absurd H (by simp)

/-- THE ONE PURE STATEMENT of laws_FnDominoHoles: yours. -/
def laws_FnDominoHoles.Pure : Prop := ∀ (l0 : List Int), l0.length ≤ maxLen → l0.length * 1 ≤ 140737488351232 → (∀ x ∈ l0, (Lit.int .u8 x).wf = true) → ∃ k, laws_FnDominoHoles.f k l0 = some true
theorem laws_FnDominoHoles.walk (P : laws_FnDominoHoles.Pure) (a0 : Option Addr) (len0 cap0 : Nat) (z0 : List Int) (w : World) (hT : Tab64 w) (w0 : (a0 = none ∧ len0 = 0 ∧ cap0 = 0 ∧ z0 = []) ∨ ∃ x, a0 = some x ∧ len0 ≤ cap0 ∧ cap0 ≤ maxLen ∧ z0.length = cap0 ∧ (∀ i, i < z0.length → w.cell? (x.add i) = some (.int .u8 (z0.getD i 0))) ∧ ∀ n ∈ z0, (Lit.int .u8 n).wf = true) (y0 : len0 * 1 ≤ 140737488351232) :
    Calls Tryd.prog 6 #[.slice a0 len0 cap0] w fun e w' => e = .returned (.bool true) ∧ Below w.heap.size w w' := by
  obtain ⟨l0, rfl, hr0, hm0, hw0, hc0⟩ := ReadsInt.ofRowC w0
  obtain ⟨k, h⟩ := P l0 hm0 y0 hw0
  refine (laws_FnDominoHoles.calls k _ _ l0 true w hT (Kd.C_of_reads (d := (0 : Int)) (h1 := fun _ => rfl) hr0) hc0 h).mono ?_
  rintro e w' ⟨rfl, hd⟩
  exact ⟨rfl, hd⟩

end Go.Proofs.YtbdkmkbkggnekaaDoor.PFnDominoHoles
